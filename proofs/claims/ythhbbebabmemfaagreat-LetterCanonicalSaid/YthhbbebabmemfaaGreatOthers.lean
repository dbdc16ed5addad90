/- letter.validOthers. -/
import Derived.Test.YthhbbebabmemfaaGreatChange
import Derived.Test.YthhbbebabmemfaaGreatValid
import Derived.BigQuiet
import Derived.Deep.AppendLies
import Derived.Deep.CutBlock
import Derived.Deep.DeepCutAuto
import Derived.Deep.DrawnRows
import Derived.Deep.MidRow
import Derived.Deep.QuietTactic
import Derived.Deep.RegionHeld3
import Derived.Deep.RegionLaw
import Derived.Deep.WholeRow
import Derived.Great.BuildSlice
import Derived.Laws.BytesString
import Derived.Laws.CopyOwn
import Derived.Laws.EntriesVeiled
import Derived.Laws.MakeOwn
import Derived.Laws.ResultCell
import Derived.Laws.Rows
import Derived.Laws.Tables
import Derived.Lib.Hide
import Derived.LoopIn
import Derived.LoopNIn
import Derived.Maps.AppendAt
import Derived.Outline
import Derived.OwnWalkIn
import Derived.RangeFuncBound
import Derived.RangeFuncBox
import Derived.RangeFuncCalls
import Derived.RangeFuncLeaves
import Derived.RangeFuncNested
import Derived.Shelf.Abstract
import Derived.Shelf.Bytes.SlSmallAll
import Derived.Shelf.RegionOpen
import Derived.StillTailTactics
import Derived.Stop.BytesEq
import Derived.TacticsInMore
import Derived.WalkKit
import Derived.WalkLawsBesides
import Derived.WalkSpells
namespace Go.Proofs.YthhbbebabmemfaaGreat
open Go Go.RowKit

def zero32 : List UInt8 := List.replicate 32 0
theorem zero32_cells : (refCells zero32).toArray = #[Value.int .u8 0, Value.int .u8 0, Value.int .u8 0, Value.int .u8 0, Value.int .u8 0, Value.int .u8 0, Value.int .u8 0, Value.int .u8 0, Value.int .u8 0, Value.int .u8 0, Value.int .u8 0, Value.int .u8 0, Value.int .u8 0, Value.int .u8 0, Value.int .u8 0, Value.int .u8 0, Value.int .u8 0, Value.int .u8 0, Value.int .u8 0, Value.int .u8 0, Value.int .u8 0, Value.int .u8 0, Value.int .u8 0, Value.int .u8 0, Value.int .u8 0, Value.int .u8 0, Value.int .u8 0, Value.int .u8 0, Value.int .u8 0, Value.int .u8 0, Value.int .u8 0, Value.int .u8 0] := rfl
theorem size_u8 (w : World) : (sizeOf 5).run Tryz.prog w = .ok 1 w := by kernel_rfl
theorem eql_digest (r : List UInt8) (h : r.length = 32) (w : World) :
    (binOp .eql 35 (.agg (refCells r).toArray) (.agg #[Value.int .u8 0, Value.int .u8 0, Value.int .u8 0, Value.int .u8 0, Value.int .u8 0, Value.int .u8 0, Value.int .u8 0, Value.int .u8 0, Value.int .u8 0, Value.int .u8 0, Value.int .u8 0, Value.int .u8 0, Value.int .u8 0, Value.int .u8 0, Value.int .u8 0, Value.int .u8 0, Value.int .u8 0, Value.int .u8 0, Value.int .u8 0, Value.int .u8 0, Value.int .u8 0, Value.int .u8 0, Value.int .u8 0, Value.int .u8 0, Value.int .u8 0, Value.int .u8 0, Value.int .u8 0, Value.int .u8 0, Value.int .u8 0, Value.int .u8 0, Value.int .u8 0, Value.int .u8 0])).run Tryz.prog w = .ok (.bool (r == zero32)) w := by
  have := run_eql_bytes (P := Tryz.prog) w 35 5 32 Tryz.underlying35 Tryz.underlying5 (fun w => size_u8 w) r zero32 h rfl
  rw [← zero32_cells]
  exact this

attribute [local go_sem] lt_get0 lt_get12 lt_get13 lt_get14 lt_get15 lt_get16 lt_get17 lt_get18 lt_get19 lt_get20 lt_get21 lt_get22 lt_get23 lt_get27 lt_get28 lt_get29
attribute [local go_sem ↓] Go.wp_at_zero Go.wp_at_succ

theorem ref_one (r : List UInt8) : ∀ v ∈ refCells r, v.oneCell' = true := by
  intro v hv; simp only [refCells, List.mem_map] at hv; obtain ⟨x, _, rfl⟩ := hv; rfl

/-- The letter's block, as the region's loads ask for it. -/
abbrev OthS (w : World) (cs : Array Value) (r : List UInt8) (w' : World) : Prop :=
  (∀ i, w'.cell? ⟨w.heap.size, i, none⟩ = cs[i]?) ∧ w'.rangeAt w.heap.size 30 (refCells r) ∧ w.heap.size < w'.heap.size ∧ Below w.heap.size w w'
theorem OthS.draw {w W : World} {cs : Array Value} {r : List UInt8} (h : OthS w cs r W) : OthS w cs r W.drew :=
  ⟨h.1, h.2.1, h.2.2.1, h.2.2.2.drew⟩
theorem OthS.below {w W wn : World} {cs : Array Value} {r : List UInt8} (h : OthS w cs r W) (hb : Below W.heap.size W wn) : OthS w cs r wn :=
  ⟨fun i => (hb.cell (p := ⟨_, i, none⟩) h.2.2.1).trans (h.1 i), fun j v hv => (hb.cell (p := ⟨_, 30 + j, none⟩) h.2.2.1).trans (h.2.1 j v hv), Nat.lt_of_lt_of_le h.2.2.1 hb.size, below_trans h.2.2.2 hb⟩

theorem there_new (W : World) (mz nz wz cz rz : Bool) : (W.alloc (.cells #[Value.bool false, Value.bool false, Value.bool false, Value.bool false, Value.bool false, Value.bool false, Value.bool false, Value.bool false, Value.bool false, Value.bool false, Value.bool false, Value.bool false, Value.bool false, Value.bool false, Value.bool false, Value.bool false, Value.bool false] 103)).there W.heap.size 0 [Value.bool false, Value.bool false, Value.bool false, Value.bool false, Value.bool false, Value.bool false, Value.bool false, Value.bool false, Value.bool false, Value.bool mz, Value.bool nz, Value.bool false, Value.bool false, Value.bool false, Value.bool wz, Value.bool cz, Value.bool rz].length := fun j hj => by
  have hj' : j < 17 := hj
  rw [World.cell?_alloc_at _ _ _ _ rfl, World.frozen?_alloc_at _ _ _ _ rfl]
  exact ⟨by simp; omega, rfl⟩
theorem there_below {W wn : World} {g : Nat} (hg : W.heap.size = g) (mz nz wz cz rz : Bool) (hb : Below (W.alloc (.cells #[Value.bool false, Value.bool false, Value.bool false, Value.bool false, Value.bool false, Value.bool false, Value.bool false, Value.bool false, Value.bool false, Value.bool false, Value.bool false, Value.bool false, Value.bool false, Value.bool false, Value.bool false, Value.bool false, Value.bool false] 103)).drew.heap.size (W.alloc (.cells #[Value.bool false, Value.bool false, Value.bool false, Value.bool false, Value.bool false, Value.bool false, Value.bool false, Value.bool false, Value.bool false, Value.bool false, Value.bool false, Value.bool false, Value.bool false, Value.bool false, Value.bool false, Value.bool false, Value.bool false] 103)).drew wn) : wn.there g 0 [Value.bool false, Value.bool false, Value.bool false, Value.bool false, Value.bool false, Value.bool false, Value.bool false, Value.bool false, Value.bool false, Value.bool mz, Value.bool nz, Value.bool false, Value.bool false, Value.bool false, Value.bool wz, Value.bool cz, Value.bool rz].length := fun j hj => by
  subst hg
  have hlt : W.heap.size < (W.alloc (.cells #[Value.bool false, Value.bool false, Value.bool false, Value.bool false, Value.bool false, Value.bool false, Value.bool false, Value.bool false, Value.bool false, Value.bool false, Value.bool false, Value.bool false, Value.bool false, Value.bool false, Value.bool false, Value.bool false, Value.bool false] 103)).drew.heap.size := by show _ < (W.heap.push _).size; simp
  rw [hb.cell (p := ⟨W.heap.size, 0 + j, none⟩) hlt, hb.frozen (p := ⟨W.heap.size, 0 + j, none⟩) hlt]
  exact there_new W mz nz wz cz rz j hj
theorem OthS.alloc {w W : World} {cs : Array Value} {r : List UInt8} (h : OthS w cs r W) (o : Obj) : OthS w cs r (W.alloc o) :=
  h.below (below_var W o)
theorem below_setCells {B : Nat} {w W : World} (h : Below B w W) (b : Nat) (hb : B ≤ b) : ∀ (vs : List Value) (o : Nat), Below B w (W.setCells b o vs) := by
  intro vs
  induction vs generalizing W with
  | nil => intro o; exact h
  | cons v vs ih => intro o; exact ih (h.setCell (p := ⟨b, o, none⟩) hb v) (o + 1)
theorem cell_setCells {W : World} (b : Nat) (p : Addr) (hp : p.block ≠ b) : ∀ (vs : List Value) (o : Nat), (W.setCells b o vs).cell? p = W.cell? p := by
  intro vs
  induction vs generalizing W with
  | nil => intro o; rfl
  | cons v vs ih => intro o; exact (ih (o + 1)).trans (World.cell?_setCell_other _ _ _ _ (fun e => hp (by rw [← e])))
theorem size_setCells {W : World} (b : Nat) : ∀ (vs : List Value) (o : Nat), (W.setCells b o vs).heap.size = W.heap.size := by
  intro vs
  induction vs generalizing W with
  | nil => intro o; rfl
  | cons v vs ih => intro o; exact (ih (o + 1)).trans (by simp [World.setCell])
theorem OthS.setCells {w W : World} {cs : Array Value} {r : List UInt8} (h : OthS w cs r W) (b : Nat) (hb : w.heap.size < b) (vs : List Value) : OthS w cs r (W.setCells b 0 vs) := by
  have hne : w.heap.size ≠ b := by omega
  exact ⟨fun i => (cell_setCells b ⟨_, i, none⟩ hne vs 0).trans (h.1 i), fun j v hv => (cell_setCells b ⟨_, 30 + j, none⟩ hne vs 0).trans (h.2.1 j v hv), by rw [size_setCells]; exact h.2.2.1, below_setCells h.2.2.2 b (by omega) vs 0⟩
theorem OthS.new (w : World) (l : Lt) (vr vm vc : Value) (t : TypeId) : OthS w (ltCells l vr vm vc) l.ref (w.alloc (.cells (ltCells l vr vm vc) t)) :=
  ⟨(Row.new w _ t).2, fun j v hv => by exact ((Row.new w (ltCells l vr vm vc) t).2 (30 + j)).trans ((lt_getRef l vr vm vc j).trans hv), by simp, below_var _ _⟩

/-- Behind the table of what is zero. -/
def OthCut (w : World) (cs : Array Value) (zs : List Value) (p : Value) (wx : World) : Prop :=
  ∃ g, p = .pointer (some ⟨g, 0, none⟩) ∧ w.heap.size < g ∧ g < wx.heap.size ∧ Row wx w.heap.size cs ∧ wx.rangeAt g 0 zs ∧ Below w.heap.size w wx

theorem othCut_of {w W : World} {cs : Array Value} {r : List UInt8} {zs : List Value} {b : Nat} (h : OthS w cs r (W.setCells b 0 zs)) (hb : w.heap.size < b) (hlt : b < W.heap.size) (hth : W.there b 0 zs.length) : OthCut w cs zs (.pointer (some ⟨b, 0, none⟩)) (W.setCells b 0 zs) :=
  ⟨b, rfl, hb, by rw [size_setCells]; exact hlt, ⟨h.2.2.1, h.1⟩, World.rangeAt_setCells_same _ _ _ _ hth, h.2.2.2⟩
/-- The five fields that are no numbers: used, or zero. -/
def fieldAt (k : Nat) : Int := ([9, 10, 14, 15, 16][k]?).getD 0
def zeroAt (mz nz wz cz rz : Bool) (k : Nat) : Bool := ([mz, nz, wz, cz, rz][k]?).getD true
def zerosOK (kind : Int) (mz nz wz cz rz : Bool) : Bool := (List.range 5).all fun k => usesB kind (fieldAt k) || zeroAt mz nz wz cz rz k
theorem zerosOK_no {kind : Int} {mz nz wz cz rz : Bool} {k : Nat} (hk : k < 5) (h : (usesB kind (fieldAt k) || zeroAt mz nz wz cz rz k) = false) : zerosOK kind mz nz wz cz rz = false := by
  unfold zerosOK
  rw [Bool.eq_false_iff]; intro h'; rw [List.all_eq_true] at h'
  have := h' k (List.mem_range.2 hk); rw [h] at this; cases this
theorem zerosOK_yes {kind : Int} {mz nz wz cz rz : Bool} (h : ∀ k, k < 5 → (usesB kind (fieldAt k) || zeroAt mz nz wz cz rz k) = true) : zerosOK kind mz nz wz cz rz = true := by
  unfold zerosOK
  rw [List.all_eq_true]; intro k hk; exact h k (List.mem_range.1 hk)
def spanB (a b : Int) : Bool := decide (-2251799813685248 ≤ a ∧ a ≤ b ∧ b ≤ 2251799813685248)
def vOthers (l : Lt) (mz nz wz cz rz : Bool) : Bool :=
  zerosOK l.kind mz nz wz cz rz && (decide (l.kind ≠ 4) || vMove l.move) && (decide (l.kind ≠ 6) || vChange l nz) && spanB l.wfrom l.wto && vCells l.kind l.cells
theorem range_keep {w w' : World} {g : Nat} {zs : List Value} (h : w.rangeAt g 0 zs) (hg : g < w.heap.size) (hb : Below w.heap.size w w') : w'.rangeAt g 0 zs := fun j v hv => (hb.cell (p := ⟨g, 0 + j, none⟩) hg).trans (h j v hv)
def OthRel (w : World) (cs : Array Value) (zs : List Value) (kind : Int) (mz nz wz cz rz : Bool) (g sl : Nat) (i : Value) (wr : World) : Prop :=
  ∃ k : Nat, k ≤ 5 ∧ i = .int .i64 k ∧ Row wr w.heap.size cs ∧ (g < wr.heap.size ∧ wr.rangeAt g 0 zs) ∧ Row wr sl #[I 9, I 10, I 14, I 15, I 16] ∧ Below w.heap.size w wr ∧ ∀ j, j < k → (usesB kind (fieldAt j) || zeroAt mz nz wz cz rz j) = true
/-- Behind the loop. -/
def OthDone (w : World) (cs : Array Value) (ok : Bool) (p : Value) (wx : World) : Prop := p = .pointer (some ⟨w.heap.size, 0, none⟩) ∧ ok = true ∧ Row wx w.heap.size cs ∧ Below w.heap.size w wx
def midOK (l : Lt) (nz : Bool) : Bool := (decide (l.kind ≠ 4) || vMove l.move) && (decide (l.kind ≠ 6) || vChange l nz)
/-- Behind the switch: the window's own variable at block q. -/
def OthMid (w : World) (cs : Array Value) (a b : Int) (ok : Bool) (q : Nat) (p r : Value) (wx : World) : Prop :=
  p = .pointer (some ⟨w.heap.size, 0, none⟩) ∧ r = .pointer (some ⟨q, 0, none⟩) ∧ ok = true ∧ Row wx w.heap.size cs ∧ Row wx q #[I a, I b] ∧ Below w.heap.size w wx
theorem vOthers_mid {l : Lt} {mz nz wz cz rz : Bool} (h : zerosOK l.kind mz nz wz cz rz = true) : vOthers l mz nz wz cz rz = (midOK l nz && spanB l.wfrom l.wto && vCells l.kind l.cells) := by unfold vOthers midOK; rw [h]; rfl
theorem vOthers_zero {l : Lt} {mz nz wz cz rz : Bool} (h : zerosOK l.kind mz nz wz cz rz = false) : vOthers l mz nz wz cz rz = false := by unfold vOthers; rw [h]; rfl
theorem vOthers_rest {l : Lt} {mz nz wz cz rz : Bool} (h : zerosOK l.kind mz nz wz cz rz = true) : vOthers l mz nz wz cz rz = ((decide (l.kind ≠ 4) || vMove l.move) && (decide (l.kind ≠ 6) || vChange l nz) && spanB l.wfrom l.wto && vCells l.kind l.cells) := by unfold vOthers; rw [h]; rfl

set_option maxRecDepth 10000 in
set_option maxHeartbeats 16000000 in
theorem validOthers_cut (l : Lt) (A B C : Option Addr) (n m c d c3 : Nat) (w : World) (hn : n ≤ 140737488355328) (hm : m ≤ 140737488355328) (hz : l.series.zone.size ≤ 140737488355328) (hr : l.ref.length = 32) (hcl : l.cells.length ≤ 140737488355328) (hci : IntsAt w w.heap.size C l.cells)
    (mz nz wz cz rz : Bool) (emz : (decide (l.move.day = 0) && (l.move.drop == false) && decide (l.move.toDay = 0) && decide (l.move.minute = 0) && decide (l.move.length = 0)) = mz) (enz : noSer n m l.series = nz)
    (ewz : (decide (l.wfrom = 0) && decide (l.wto = 0)) = wz) (ecz : ((l.cells.length : Int) == 0) = cz) (erz : (l.ref == zero32) = rz) :
    Calls Tryz.prog 40 #[.agg (ltCells l (.slice A n c) (.slice B m d) (.slice C l.cells.length c3))] w (Gives (.bool (vOthers l mz nz wz cz rz)) w) := by
  have heq := fun W => eql_digest l.ref hr W
  have heqm := fun W => eql_move l.move.day l.move.toDay l.move.minute l.move.length 0 0 0 0 l.move.drop false W
  have heqw := fun W => eql_span l.wfrom l.wto 0 0 W
  rw [emz] at heqm
  rw [ewz] at heqw
  rw [erz] at heq
  have HN := Lib.hid enz
  clear emz ewz erz enz
  have hu := Tryz.underlying35
  have hi : (Tryz.prog.info? 35).map (·.size) = some (refCells l.ref).length := by rw [show (refCells l.ref).length = 32 by simp [refCells, hr]]; kernel_rfl
  have h32 : (refCells l.ref).length = 32 := by simp [refCells, hr]
  have hi2 : (Tryz.prog.info? 103).map (·.size) = some [Value.bool false, Value.bool false, Value.bool false, Value.bool false, Value.bool false, Value.bool false, Value.bool false, Value.bool false, Value.bool false, Value.bool mz, Value.bool nz, Value.bool false, Value.bool false, Value.bool false, Value.bool wz, Value.bool cz, Value.bool rz].length := by kernel_rfl
  have hone2 : ∀ v ∈ [Value.bool false, Value.bool false, Value.bool false, Value.bool false, Value.bool false, Value.bool false, Value.bool false, Value.bool false, Value.bool false, Value.bool mz, Value.bool nz, Value.bool false, Value.bool false, Value.bool false, Value.bool wz, Value.bool cz, Value.bool rz], v.oneCell' = true := by simp [Value.oneCell']
  have HI2 := Lib.hid hi2
  have HONE2 := Lib.hid hone2
  clear hi2 hone2
  have hk0 := Lib.hid (OthS.new w l (.slice A n c) (.slice B m d) (.slice C l.cells.length c3) 37)
  go_enter Tryz.func40, Tryz.ntmps40
  go_upto_region 1 with fail
  go_cut [3] (fun p wx => OthCut w (ltCells l (.slice A n c) (.slice B m d) (.slice C l.cells.length c3)) [Value.bool false, Value.bool false, Value.bool false, Value.bool false, Value.bool false, Value.bool false, Value.bool false, Value.bool false, Value.bool false, Value.bool mz, Value.bool nz, Value.bool false, Value.bool false, Value.bool false, Value.bool wz, Value.bool cz, Value.bool rz] p wx)
  case first =>
    go_region_held3 (fun w' => (∀ i, w'.cell? ⟨w.heap.size, i, none⟩ = (ltCells l (.slice A n c) (.slice B m d) (.slice C l.cells.length c3))[i]?) ∧ w'.rangeAt w.heap.size 30 (refCells l.ref) ∧ w.heap.size < w'.heap.size ∧ Below w.heap.size w w')
      (first | with_reducible exact hk0.out.draw | with_reducible exact (hk0.out.alloc _).draw | with_reducible exact HSn.out | with_reducible exact HSn.out.alloc _ | with_reducible exact HSn.out.setCells _ hlt1 _ | with_reducible exact (HSn.out.alloc _).setCells _ hltn _)
      (first | (go_at_call 41; refine (noSeries_ex _ _ _ _ _ _ _ _ hn hm hz).mono ?_; rintro e wn ⟨rfl, hbn⟩; rw [HN.out]; (first | have HSn := Lib.hid (OthS.below (cs := ltCells l (.slice A n c) (.slice B m d) (.slice C l.cells.length c3)) hk0.out.draw hbn) | have HSn := Lib.hid (OthS.below (cs := ltCells l (.slice A n c) (.slice B m d) (.slice C l.cells.length c3)) (hk0.out.alloc _).draw hbn)); have hltn := HSn.out.2.2.1; have hlt1 : w.heap.size < w.heap.size + 1 := Nat.lt_succ_self _; (first | have hth6 := there_below (g := w.heap.size + 1) (by simp) mz nz wz cz rz hbn | have hthn := there_new wn mz nz wz cz rz); have hi2' := HI2.out; have hone2' := HONE2.out))
    · go_wp2_with fail
      go_meet
      exact othCut_of ((HSn.out.alloc _).setCells _ hltn _) hltn (by simp) hthn
    · go_wp2_with fail
      go_meet
      exact othCut_of (HSn.out.setCells _ hlt1 _) hlt1 (by have := hbn.size; simp at this; omega) hth6
  case rest =>
    obtain ⟨g, rfl, hg1, hg2, hrow, hrng, hbel⟩ := hcut
    have HR := Lib.hid hrow
    have HG := Lib.hid hrng
    have HB := Lib.hid hbel
    clear hrow hrng hbel
    have hr0 := HR.out.2
    have HS0 := Lib.hid (Row.new wc #[I 9, I 10, I 14, I 15, I 16] 61)
    have HR0 := Lib.hid (HR.out.keep (below_var wc (.cells #[I 9, I 10, I 14, I 15, I 16] 61)))
    have HZ0 := Lib.hid (range_keep HG.out hg2 (below_var wc (.cells #[I 9, I 10, I 14, I 15, I 16] 61)))
    have HB0 := Lib.hid (below_trans HB.out (below_var wc (.cells #[I 9, I 10, I 14, I 15, I 16] 61)))
    clear hk0 HI2 HONE2 hu hi h32 heq heqm heqw
    go_upto_block 0 with fail
    go_cut [1] (fun p wx => OthDone w (ltCells l (.slice A n c) (.slice B m d) (.slice C l.cells.length c3)) (zerosOK l.kind mz nz wz cz rz) p wx)
    case first =>
      go_wp2_with fail
      go_loopw [29] (fun i wr => OthRel w (ltCells l (.slice A n c) (.slice B m d) (.slice C l.cells.length c3)) [Value.bool false, Value.bool false, Value.bool false, Value.bool false, Value.bool false, Value.bool false, Value.bool false, Value.bool false, Value.bool false, Value.bool mz, Value.bool nz, Value.bool false, Value.bool false, Value.bool false, Value.bool wz, Value.bool cz, Value.bool rz] l.kind mz nz wz cz rz g wc.heap.size i wr) (fun i _ => 5 - (intOf i).toNat)
      case atStart => exact ⟨0, by omega, rfl, HR0.out, ⟨by simp; omega, HZ0.out⟩, HS0.out, HB0.out, fun j hj => absurd hj (by omega)⟩
      case round =>
        obtain ⟨k, hk, rfl, hrow1, hz1, hs1, hb1, hall⟩ := hrel
        have HR1 := Lib.hid hrow1
        have HZ := Lib.hid hz1
        have HS := Lib.hid hs1
        have HB1 := Lib.hid hb1
        have HA := Lib.hid hall
        have hr1 := hrow1.2
        clear hrow1 hz1 hs1 hb1 hall hr0 HS0 HR0 HZ0 HB0 HR HG HB
        have hk5 : k = 0 ∨ k = 1 ∨ k = 2 ∨ k = 3 ∨ k = 4 ∨ k = 5 := by omega
        rcases hk5 with rfl | rfl | rfl | rfl | rfl | rfl
        · have hsl : wr.cell? ⟨wc.heap.size, 0, none⟩ = some (I 9) := HS.out.2 0
          obtain ⟨u, hu1⟩ : ∃ u, usesB l.kind 9 = u := ⟨_, rfl⟩
          have HU := Lib.hid hu1
          clear hu1
          have hzf : wr.cell? ⟨g, 9, none⟩ = some (.bool mz) := HZ.out.2 9 _ rfl
          have HZF := Lib.hid hzf
          clear hzf
          cases u
          · cases mz
            · go_wp2_with (go_at_call 22; refine (uses_any _ _ _ (by omega) (by omega)).mono ?_; rintro e w2 ⟨rfl, hb2⟩; have HR2 := Lib.hid (HR1.out.keep hb2); have HZ2 := Lib.hid (range_keep HZ.out.2 HZ.out.1 hb2); have HZL := Lib.hid (Nat.lt_of_lt_of_le HZ.out.1 hb2.size); have HS2 := Lib.hid (HS.out.keep hb2); have HB2 := Lib.hid (below_trans HB1.out hb2); have hzf2 := (hb2.cell (p := ⟨g, 9, none⟩) HZ.out.1).trans HZF.out; rw [HU.out]; clear hb2)
              go_ret
              exact ⟨ret_bool (vOthers_zero (zerosOK_no (k := 0) (by omega) (by show (usesB l.kind 9 || _) = false; rw [HU.out]; rfl))).symm, HB2.out⟩
            · go_wp2_with (go_at_call 22; refine (uses_any _ _ _ (by omega) (by omega)).mono ?_; rintro e w2 ⟨rfl, hb2⟩; have HR2 := Lib.hid (HR1.out.keep hb2); have HZ2 := Lib.hid (range_keep HZ.out.2 HZ.out.1 hb2); have HZL := Lib.hid (Nat.lt_of_lt_of_le HZ.out.1 hb2.size); have HS2 := Lib.hid (HS.out.keep hb2); have HB2 := Lib.hid (below_trans HB1.out hb2); have hzf2 := (hb2.cell (p := ⟨g, 9, none⟩) HZ.out.1).trans HZF.out; rw [HU.out]; clear hb2)
              go_roundw
              case rel => exact ⟨1, by omega, by first | rfl | go_num, HR2.out, ⟨HZL.out, HZ2.out⟩, HS2.out, HB2.out, fun j hj => by
                rcases Nat.lt_succ_iff_lt_or_eq.1 hj with h | h
                · exact HA.out j h
                · subst h; show (usesB l.kind 9 || _) = true; rw [HU.out]; rfl⟩
              case measure => simp [intOf]
          · go_wp2_with (go_at_call 22; refine (uses_any _ _ _ (by omega) (by omega)).mono ?_; rintro e w2 ⟨rfl, hb2⟩; have HR2 := Lib.hid (HR1.out.keep hb2); have HZ2 := Lib.hid (range_keep HZ.out.2 HZ.out.1 hb2); have HZL := Lib.hid (Nat.lt_of_lt_of_le HZ.out.1 hb2.size); have HS2 := Lib.hid (HS.out.keep hb2); have HB2 := Lib.hid (below_trans HB1.out hb2); have hzf2 := (hb2.cell (p := ⟨g, 9, none⟩) HZ.out.1).trans HZF.out; rw [HU.out]; clear hb2)
            go_roundw
            case rel => exact ⟨1, by omega, by first | rfl | go_num, HR2.out, ⟨HZL.out, HZ2.out⟩, HS2.out, HB2.out, fun j hj => by
              rcases Nat.lt_succ_iff_lt_or_eq.1 hj with h | h
              · exact HA.out j h
              · subst h; show (usesB l.kind 9 || _) = true; rw [HU.out]; rfl⟩
            case measure => simp [intOf]
        · have hsl : wr.cell? ⟨wc.heap.size, 1, none⟩ = some (I 10) := HS.out.2 1
          obtain ⟨u, hu1⟩ : ∃ u, usesB l.kind 10 = u := ⟨_, rfl⟩
          have HU := Lib.hid hu1
          clear hu1
          have hzf : wr.cell? ⟨g, 10, none⟩ = some (.bool nz) := HZ.out.2 10 _ rfl
          have HZF := Lib.hid hzf
          clear hzf
          cases u
          · cases nz
            · go_wp2_with (go_at_call 22; refine (uses_any _ _ _ (by omega) (by omega)).mono ?_; rintro e w2 ⟨rfl, hb2⟩; have HR2 := Lib.hid (HR1.out.keep hb2); have HZ2 := Lib.hid (range_keep HZ.out.2 HZ.out.1 hb2); have HZL := Lib.hid (Nat.lt_of_lt_of_le HZ.out.1 hb2.size); have HS2 := Lib.hid (HS.out.keep hb2); have HB2 := Lib.hid (below_trans HB1.out hb2); have hzf2 := (hb2.cell (p := ⟨g, 10, none⟩) HZ.out.1).trans HZF.out; rw [HU.out]; clear hb2)
              go_ret
              exact ⟨ret_bool (vOthers_zero (zerosOK_no (k := 1) (by omega) (by show (usesB l.kind 10 || _) = false; rw [HU.out]; rfl))).symm, HB2.out⟩
            · go_wp2_with (go_at_call 22; refine (uses_any _ _ _ (by omega) (by omega)).mono ?_; rintro e w2 ⟨rfl, hb2⟩; have HR2 := Lib.hid (HR1.out.keep hb2); have HZ2 := Lib.hid (range_keep HZ.out.2 HZ.out.1 hb2); have HZL := Lib.hid (Nat.lt_of_lt_of_le HZ.out.1 hb2.size); have HS2 := Lib.hid (HS.out.keep hb2); have HB2 := Lib.hid (below_trans HB1.out hb2); have hzf2 := (hb2.cell (p := ⟨g, 10, none⟩) HZ.out.1).trans HZF.out; rw [HU.out]; clear hb2)
              go_roundw
              case rel => exact ⟨2, by omega, by first | rfl | go_num, HR2.out, ⟨HZL.out, HZ2.out⟩, HS2.out, HB2.out, fun j hj => by
                rcases Nat.lt_succ_iff_lt_or_eq.1 hj with h | h
                · exact HA.out j h
                · subst h; show (usesB l.kind 10 || _) = true; rw [HU.out]; rfl⟩
              case measure => simp [intOf]
          · go_wp2_with (go_at_call 22; refine (uses_any _ _ _ (by omega) (by omega)).mono ?_; rintro e w2 ⟨rfl, hb2⟩; have HR2 := Lib.hid (HR1.out.keep hb2); have HZ2 := Lib.hid (range_keep HZ.out.2 HZ.out.1 hb2); have HZL := Lib.hid (Nat.lt_of_lt_of_le HZ.out.1 hb2.size); have HS2 := Lib.hid (HS.out.keep hb2); have HB2 := Lib.hid (below_trans HB1.out hb2); have hzf2 := (hb2.cell (p := ⟨g, 10, none⟩) HZ.out.1).trans HZF.out; rw [HU.out]; clear hb2)
            go_roundw
            case rel => exact ⟨2, by omega, by first | rfl | go_num, HR2.out, ⟨HZL.out, HZ2.out⟩, HS2.out, HB2.out, fun j hj => by
              rcases Nat.lt_succ_iff_lt_or_eq.1 hj with h | h
              · exact HA.out j h
              · subst h; show (usesB l.kind 10 || _) = true; rw [HU.out]; rfl⟩
            case measure => simp [intOf]
        · have hsl : wr.cell? ⟨wc.heap.size, 2, none⟩ = some (I 14) := HS.out.2 2
          obtain ⟨u, hu1⟩ : ∃ u, usesB l.kind 14 = u := ⟨_, rfl⟩
          have HU := Lib.hid hu1
          clear hu1
          have hzf : wr.cell? ⟨g, 14, none⟩ = some (.bool wz) := HZ.out.2 14 _ rfl
          have HZF := Lib.hid hzf
          clear hzf
          cases u
          · cases wz
            · go_wp2_with (go_at_call 22; refine (uses_any _ _ _ (by omega) (by omega)).mono ?_; rintro e w2 ⟨rfl, hb2⟩; have HR2 := Lib.hid (HR1.out.keep hb2); have HZ2 := Lib.hid (range_keep HZ.out.2 HZ.out.1 hb2); have HZL := Lib.hid (Nat.lt_of_lt_of_le HZ.out.1 hb2.size); have HS2 := Lib.hid (HS.out.keep hb2); have HB2 := Lib.hid (below_trans HB1.out hb2); have hzf2 := (hb2.cell (p := ⟨g, 14, none⟩) HZ.out.1).trans HZF.out; rw [HU.out]; clear hb2)
              go_ret
              exact ⟨ret_bool (vOthers_zero (zerosOK_no (k := 2) (by omega) (by show (usesB l.kind 14 || _) = false; rw [HU.out]; rfl))).symm, HB2.out⟩
            · go_wp2_with (go_at_call 22; refine (uses_any _ _ _ (by omega) (by omega)).mono ?_; rintro e w2 ⟨rfl, hb2⟩; have HR2 := Lib.hid (HR1.out.keep hb2); have HZ2 := Lib.hid (range_keep HZ.out.2 HZ.out.1 hb2); have HZL := Lib.hid (Nat.lt_of_lt_of_le HZ.out.1 hb2.size); have HS2 := Lib.hid (HS.out.keep hb2); have HB2 := Lib.hid (below_trans HB1.out hb2); have hzf2 := (hb2.cell (p := ⟨g, 14, none⟩) HZ.out.1).trans HZF.out; rw [HU.out]; clear hb2)
              go_roundw
              case rel => exact ⟨3, by omega, by first | rfl | go_num, HR2.out, ⟨HZL.out, HZ2.out⟩, HS2.out, HB2.out, fun j hj => by
                rcases Nat.lt_succ_iff_lt_or_eq.1 hj with h | h
                · exact HA.out j h
                · subst h; show (usesB l.kind 14 || _) = true; rw [HU.out]; rfl⟩
              case measure => simp [intOf]
          · go_wp2_with (go_at_call 22; refine (uses_any _ _ _ (by omega) (by omega)).mono ?_; rintro e w2 ⟨rfl, hb2⟩; have HR2 := Lib.hid (HR1.out.keep hb2); have HZ2 := Lib.hid (range_keep HZ.out.2 HZ.out.1 hb2); have HZL := Lib.hid (Nat.lt_of_lt_of_le HZ.out.1 hb2.size); have HS2 := Lib.hid (HS.out.keep hb2); have HB2 := Lib.hid (below_trans HB1.out hb2); have hzf2 := (hb2.cell (p := ⟨g, 14, none⟩) HZ.out.1).trans HZF.out; rw [HU.out]; clear hb2)
            go_roundw
            case rel => exact ⟨3, by omega, by first | rfl | go_num, HR2.out, ⟨HZL.out, HZ2.out⟩, HS2.out, HB2.out, fun j hj => by
              rcases Nat.lt_succ_iff_lt_or_eq.1 hj with h | h
              · exact HA.out j h
              · subst h; show (usesB l.kind 14 || _) = true; rw [HU.out]; rfl⟩
            case measure => simp [intOf]
        · have hsl : wr.cell? ⟨wc.heap.size, 3, none⟩ = some (I 15) := HS.out.2 3
          obtain ⟨u, hu1⟩ : ∃ u, usesB l.kind 15 = u := ⟨_, rfl⟩
          have HU := Lib.hid hu1
          clear hu1
          have hzf : wr.cell? ⟨g, 15, none⟩ = some (.bool cz) := HZ.out.2 15 _ rfl
          have HZF := Lib.hid hzf
          clear hzf
          cases u
          · cases cz
            · go_wp2_with (go_at_call 22; refine (uses_any _ _ _ (by omega) (by omega)).mono ?_; rintro e w2 ⟨rfl, hb2⟩; have HR2 := Lib.hid (HR1.out.keep hb2); have HZ2 := Lib.hid (range_keep HZ.out.2 HZ.out.1 hb2); have HZL := Lib.hid (Nat.lt_of_lt_of_le HZ.out.1 hb2.size); have HS2 := Lib.hid (HS.out.keep hb2); have HB2 := Lib.hid (below_trans HB1.out hb2); have hzf2 := (hb2.cell (p := ⟨g, 15, none⟩) HZ.out.1).trans HZF.out; rw [HU.out]; clear hb2)
              go_ret
              exact ⟨ret_bool (vOthers_zero (zerosOK_no (k := 3) (by omega) (by show (usesB l.kind 15 || _) = false; rw [HU.out]; rfl))).symm, HB2.out⟩
            · go_wp2_with (go_at_call 22; refine (uses_any _ _ _ (by omega) (by omega)).mono ?_; rintro e w2 ⟨rfl, hb2⟩; have HR2 := Lib.hid (HR1.out.keep hb2); have HZ2 := Lib.hid (range_keep HZ.out.2 HZ.out.1 hb2); have HZL := Lib.hid (Nat.lt_of_lt_of_le HZ.out.1 hb2.size); have HS2 := Lib.hid (HS.out.keep hb2); have HB2 := Lib.hid (below_trans HB1.out hb2); have hzf2 := (hb2.cell (p := ⟨g, 15, none⟩) HZ.out.1).trans HZF.out; rw [HU.out]; clear hb2)
              go_roundw
              case rel => exact ⟨4, by omega, by first | rfl | go_num, HR2.out, ⟨HZL.out, HZ2.out⟩, HS2.out, HB2.out, fun j hj => by
                rcases Nat.lt_succ_iff_lt_or_eq.1 hj with h | h
                · exact HA.out j h
                · subst h; show (usesB l.kind 15 || _) = true; rw [HU.out]; rfl⟩
              case measure => simp [intOf]
          · go_wp2_with (go_at_call 22; refine (uses_any _ _ _ (by omega) (by omega)).mono ?_; rintro e w2 ⟨rfl, hb2⟩; have HR2 := Lib.hid (HR1.out.keep hb2); have HZ2 := Lib.hid (range_keep HZ.out.2 HZ.out.1 hb2); have HZL := Lib.hid (Nat.lt_of_lt_of_le HZ.out.1 hb2.size); have HS2 := Lib.hid (HS.out.keep hb2); have HB2 := Lib.hid (below_trans HB1.out hb2); have hzf2 := (hb2.cell (p := ⟨g, 15, none⟩) HZ.out.1).trans HZF.out; rw [HU.out]; clear hb2)
            go_roundw
            case rel => exact ⟨4, by omega, by first | rfl | go_num, HR2.out, ⟨HZL.out, HZ2.out⟩, HS2.out, HB2.out, fun j hj => by
              rcases Nat.lt_succ_iff_lt_or_eq.1 hj with h | h
              · exact HA.out j h
              · subst h; show (usesB l.kind 15 || _) = true; rw [HU.out]; rfl⟩
            case measure => simp [intOf]
        · have hsl : wr.cell? ⟨wc.heap.size, 4, none⟩ = some (I 16) := HS.out.2 4
          obtain ⟨u, hu1⟩ : ∃ u, usesB l.kind 16 = u := ⟨_, rfl⟩
          have HU := Lib.hid hu1
          clear hu1
          have hzf : wr.cell? ⟨g, 16, none⟩ = some (.bool rz) := HZ.out.2 16 _ rfl
          have HZF := Lib.hid hzf
          clear hzf
          cases u
          · cases rz
            · go_wp2_with (go_at_call 22; refine (uses_any _ _ _ (by omega) (by omega)).mono ?_; rintro e w2 ⟨rfl, hb2⟩; have HR2 := Lib.hid (HR1.out.keep hb2); have HZ2 := Lib.hid (range_keep HZ.out.2 HZ.out.1 hb2); have HZL := Lib.hid (Nat.lt_of_lt_of_le HZ.out.1 hb2.size); have HS2 := Lib.hid (HS.out.keep hb2); have HB2 := Lib.hid (below_trans HB1.out hb2); have hzf2 := (hb2.cell (p := ⟨g, 16, none⟩) HZ.out.1).trans HZF.out; rw [HU.out]; clear hb2)
              go_ret
              exact ⟨ret_bool (vOthers_zero (zerosOK_no (k := 4) (by omega) (by show (usesB l.kind 16 || _) = false; rw [HU.out]; rfl))).symm, HB2.out⟩
            · go_wp2_with (go_at_call 22; refine (uses_any _ _ _ (by omega) (by omega)).mono ?_; rintro e w2 ⟨rfl, hb2⟩; have HR2 := Lib.hid (HR1.out.keep hb2); have HZ2 := Lib.hid (range_keep HZ.out.2 HZ.out.1 hb2); have HZL := Lib.hid (Nat.lt_of_lt_of_le HZ.out.1 hb2.size); have HS2 := Lib.hid (HS.out.keep hb2); have HB2 := Lib.hid (below_trans HB1.out hb2); have hzf2 := (hb2.cell (p := ⟨g, 16, none⟩) HZ.out.1).trans HZF.out; rw [HU.out]; clear hb2)
              go_roundw
              case rel => exact ⟨5, by omega, by first | rfl | go_num, HR2.out, ⟨HZL.out, HZ2.out⟩, HS2.out, HB2.out, fun j hj => by
                rcases Nat.lt_succ_iff_lt_or_eq.1 hj with h | h
                · exact HA.out j h
                · subst h; show (usesB l.kind 16 || _) = true; rw [HU.out]; rfl⟩
              case measure => simp [intOf]
          · go_wp2_with (go_at_call 22; refine (uses_any _ _ _ (by omega) (by omega)).mono ?_; rintro e w2 ⟨rfl, hb2⟩; have HR2 := Lib.hid (HR1.out.keep hb2); have HZ2 := Lib.hid (range_keep HZ.out.2 HZ.out.1 hb2); have HZL := Lib.hid (Nat.lt_of_lt_of_le HZ.out.1 hb2.size); have HS2 := Lib.hid (HS.out.keep hb2); have HB2 := Lib.hid (below_trans HB1.out hb2); have hzf2 := (hb2.cell (p := ⟨g, 16, none⟩) HZ.out.1).trans HZF.out; rw [HU.out]; clear hb2)
            go_roundw
            case rel => exact ⟨5, by omega, by first | rfl | go_num, HR2.out, ⟨HZL.out, HZ2.out⟩, HS2.out, HB2.out, fun j hj => by
              rcases Nat.lt_succ_iff_lt_or_eq.1 hj with h | h
              · exact HA.out j h
              · subst h; show (usesB l.kind 16 || _) = true; rw [HU.out]; rfl⟩
            case measure => simp [intOf]
        · have HZ5 := Lib.hid (zerosOK_yes (kind := l.kind) (mz := mz) (nz := nz) (wz := wz) (cz := cz) (rz := rz) (fun j hj => HA.out j hj))
          go_wp2_with fail
          go_meet
          exact ⟨rfl, HZ5.out, HR1.out, HB1.out⟩
    case rest =>
      obtain ⟨rfl, hz5, hrow1, hbel1⟩ := hcut
      have HV := Lib.hid (vOthers_mid (l := l) hz5)
      have HR1 := Lib.hid hrow1
      have hr1 := hrow1.2
      have hlw : w.heap.size < wc.heap.size := hrow1.1
      have HRa := Lib.hid (hrow1.keep (below_var wc (.cells #[I l.wfrom, I l.wto] 33)))
      have HBa := Lib.hid (below_trans hbel1 (below_var wc (.cells #[I l.wfrom, I l.wto] 33)))
      have HQa := Lib.hid (Row.new wc #[I l.wfrom, I l.wto] 33)
      have HSZ : Hid ((Tryz.prog.info? 37).map (·.size) = some (ltCells l (.slice A n c) (.slice B m d) (.slice C l.cells.length c3)).size) := Lib.hid (by rw [lt_size _ _ _ _ hr]; kernel_rfl)
      have HCI := Lib.hid hci
      clear hz5 hrow1 hbel1 hci HR0 HZ0 HS0 HB0 HR HG HB hr0 hg1
      go_upto_block 2 with fail
      go_cut [1, 6] (fun p r wx => OthMid w (ltCells l (.slice A n c) (.slice B m d) (.slice C l.cells.length c3)) l.wfrom l.wto (midOK l nz) wc.heap.size p r wx)
      case first =>
        by_cases k4 : l.kind = 4
        · have b4 : (l.kind == 4) = true := by rw [beq_dec]; exact decide_eq_true k4
          have b6 : (l.kind == 6) = false := by rw [beq_dec]; exact decide_eq_false (by omega)
          obtain ⟨vm, hvm⟩ : ∃ x, vMove l.move = x := ⟨_, rfl⟩
          have HVM := Lib.hid hvm
          have HE : Hid (midOK l nz = vm) := Lib.hid (by unfold midOK; rw [hvm, show decide (l.kind ≠ 4) = false from decide_eq_false (by omega), show decide (l.kind ≠ 6) = true from decide_eq_true (by omega)]; simp)
          clear k4 hvm
          cases vm
          · go_wp2_with (go_at_call 56; refine (validMove_ex _ _).mono ?_; rintro e w3 ⟨rfl, hb3⟩; have HRb := Lib.hid (HRa.out.keep hb3); have HQb := Lib.hid (HQa.out.keep hb3); have HBb := Lib.hid (below_trans HBa.out hb3); have hrb := HRb.out.2; rw [HVM.out]; clear hb3)
            go_ret
            exact ⟨ret_bool (by rw [HV.out, HE.out]; rfl), HBb.out⟩
          · go_wp2_with (go_at_call 56; refine (validMove_ex _ _).mono ?_; rintro e w3 ⟨rfl, hb3⟩; have HRb := Lib.hid (HRa.out.keep hb3); have HQb := Lib.hid (HQa.out.keep hb3); have HBb := Lib.hid (below_trans HBa.out hb3); have hrb := HRb.out.2; rw [HVM.out]; clear hb3)
            go_meet
            exact ⟨rfl, rfl, HE.out, HRb.out, HQb.out, HBb.out⟩
        by_cases k6 : l.kind = 6
        · have b4 : (l.kind == 4) = false := by rw [beq_dec]; exact decide_eq_false (by omega)
          have b6 : (l.kind == 6) = true := by rw [beq_dec]; exact decide_eq_true k6
          obtain ⟨vm, hvm⟩ : ∃ x, vChange l nz = x := ⟨_, rfl⟩
          have HVM := Lib.hid hvm
          have HE : Hid (midOK l nz = vm) := Lib.hid (by unfold midOK; rw [hvm, show decide (l.kind ≠ 4) = true from decide_eq_true (by omega), show decide (l.kind ≠ 6) = false from decide_eq_false (by omega)]; simp)
          clear k4 k6 hvm
          cases vm
          · go_wp2_with (first | (refine wpList_load_Row rfl _ _ rfl w.heap.size rfl (ltCells l (.slice A n c) (.slice B m d) (.slice C l.cells.length c3)) HRa.out _ Tryz.underlying37 rfl HSZ.out ?_) | (go_at_call 57; refine (validChange_any _ _ _ _ _ _ _ _ _ hn hm hz).mono ?_; rintro e w3 ⟨rfl, hb3⟩; have HRb := Lib.hid (HRa.out.keep hb3); have HQb := Lib.hid (HQa.out.keep hb3); have HBb := Lib.hid (below_trans HBa.out hb3); have hrb := HRb.out.2; rw [HN.out, HVM.out]; clear hb3))
            go_ret
            exact ⟨ret_bool (by rw [HV.out, HE.out]; rfl), HBb.out⟩
          · go_wp2_with (first | (refine wpList_load_Row rfl _ _ rfl w.heap.size rfl (ltCells l (.slice A n c) (.slice B m d) (.slice C l.cells.length c3)) HRa.out _ Tryz.underlying37 rfl HSZ.out ?_) | (go_at_call 57; refine (validChange_any _ _ _ _ _ _ _ _ _ hn hm hz).mono ?_; rintro e w3 ⟨rfl, hb3⟩; have HRb := Lib.hid (HRa.out.keep hb3); have HQb := Lib.hid (HQa.out.keep hb3); have HBb := Lib.hid (below_trans HBa.out hb3); have hrb := HRb.out.2; rw [HN.out, HVM.out]; clear hb3))
            go_meet
            exact ⟨rfl, rfl, HE.out, HRb.out, HQb.out, HBb.out⟩
        have b4 : (l.kind == 4) = false := by rw [beq_dec]; exact decide_eq_false (by omega)
        have b6 : (l.kind == 6) = false := by rw [beq_dec]; exact decide_eq_false (by omega)
        have HE : Hid (midOK l nz = true) := Lib.hid (by unfold midOK; rw [show decide (l.kind ≠ 4) = true from decide_eq_true (by omega), show decide (l.kind ≠ 6) = true from decide_eq_true (by omega)]; simp)
        clear k4 k6
        go_wp2
        go_meet
        exact ⟨rfl, rfl, HE.out, HRa.out, HQa.out, HBa.out⟩
      case rest =>
        obtain ⟨rfl, rfl, hmid, hrow2, hq2, hbel2⟩ := hcut
        rw [hmid, Bool.true_and] at HV
        have HR2 := Lib.hid hrow2
        have HB2 := Lib.hid hbel2
        have hq := hq2.2
        have HC2 := Lib.hid ((HCI.out.keep hbel2).more hbel2.size)
        clear hmid hrow2 hq2 hbel2 hr1 HR1 HRa HBa HQa
        by_cases hsp : -2251799813685248 ≤ l.wfrom ∧ l.wfrom ≤ l.wto ∧ l.wto ≤ 2251799813685248
        · have hspb : spanB l.wfrom l.wto = true := decide_eq_true hsp
          rw [hspb, Bool.true_and] at HV
          obtain ⟨hs1, hs2, hs3⟩ := hsp
          clear hspb
          go_wp2_with (first | (refine wpList_load_Row rfl _ _ rfl w.heap.size rfl (ltCells l (.slice A n c) (.slice B m d) (.slice C l.cells.length c3)) HR2.out _ Tryz.underlying37 rfl HSZ.out ?_) | (go_at_call 58; refine (validCells_any _ _ _ _ _ _ hcl HC2.out).mono ?_; rintro e w9 ⟨rfl, hb9⟩; have HB9 := Lib.hid (below_trans HB2.out hb9); clear hb9))
          go_ret
          exact ⟨ret_bool HV.out.symm, HB9.out⟩
        · have hspb : spanB l.wfrom l.wto = false := decide_eq_false hsp
          rw [hspb, Bool.false_and] at HV
          have hs4 : l.wfrom < -2251799813685248 ∨ (-2251799813685248 ≤ l.wfrom ∧ l.wto < l.wfrom) ∨ (-2251799813685248 ≤ l.wfrom ∧ l.wfrom ≤ l.wto ∧ 2251799813685248 < l.wto) := by omega
          clear hsp hspb
          rcases hs4 with hs1 | ⟨hs1, hs2⟩ | ⟨hs1, hs2, hs3⟩
          all_goals
            go_wp2
            go_ret
            exact ⟨ret_bool HV.out.symm, HB2.out⟩
end Go.Proofs.YthhbbebabmemfaaGreat
