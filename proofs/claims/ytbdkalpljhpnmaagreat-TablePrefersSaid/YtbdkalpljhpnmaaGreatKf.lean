/- kalendsref13.Valid of made zones: the plain side. -/
import Derived.Test.YtbdkalpljhpnmaaGreatKe
import Derived.BigQuiet
import Derived.Deep.AppendLies
import Derived.Deep.CutBlock
import Derived.Deep.DeepCutAuto
import Derived.Deep.DrawnRows
import Derived.Deep.MidRow
import Derived.Deep.QuietTactic
import Derived.Deep.RegionHeld3
import Derived.Deep.RegionLaw
import Derived.Deep.WholeRow
import Derived.Great.BuildSlice
import Derived.Handy
import Derived.Laws.BytesString
import Derived.Laws.CopyOwn
import Derived.Laws.EntriesVeiled
import Derived.Laws.MakeOwn
import Derived.Laws.ResultCell
import Derived.Laws.Rows
import Derived.Laws.Tables
import Derived.Lib.Hide
import Derived.LoopIn
import Derived.LoopNIn
import Derived.Maps.AppendAt
import Derived.Outline
import Derived.OwnWalkIn
import Derived.RangeFuncBound
import Derived.RangeFuncBox
import Derived.RangeFuncCalls
import Derived.RangeFuncLeaves
import Derived.RangeFuncNested
import Derived.Shelf.Abstract
import Derived.Shelf.Bytes.SlSmallAll
import Derived.Shelf.RegionOpen
import Derived.StillTailTactics
import Derived.Stop.BytesEq
import Derived.TacticsInMore
import Derived.WalkKit
import Derived.WalkLawsBesides
import Derived.WalkSpells
namespace Go.Proofs.YtbdkalpljhpnmaaGreat
open Go Go.RowKit

/-- The zones that kalendsref13.Made builds. -/
structure ZnM (z : Zn) : Prop where
  cal : CalS z.cal
  start : -1080 ≤ z.start ∧ z.start ≤ 1080
  hor : 0 ≤ z.hor ∧ z.hor ≤ 1000000
  trl : z.trans.length ≤ 3
  tr : ∀ x ∈ z.trans, (-1080 ≤ x.off ∧ x.off ≤ 1080) ∧ 0 ≤ x.at_ ∧ x.at_ < z.hor
  gap : ∀ i, i + 1 < z.trans.length → atI z.trans i + 2160 ≤ atI z.trans (i + 1)
  yr : z.yearly = [] ∨ ∃ r0 r1, z.yearly = [r0, r1] ∧ YrS r0 ∧ YrS r1
def lateF (z : Zn) : Bool :=
  let a := afterF (ysF z) (zcyc z * 1440) z.hor
  a.2 && (decide (0 < z.trans.length) && decide (a.1.at_ - atI z.trans (z.trans.length - 1) < 2160))
/-- What kalendsref13.Valid says of a made zone. -/
def rvF (z : Zn) : Int := if gapsF (ysF z) (zcyc z * 1440) = false then 1 else if lateF z = true then 1 else 0
theorem ytr_len (c : Cal) (bg y : Int) (r r' : Yr) (ts : List Tr) : (ytr c bg y r r' ts).length ≤ ts.length + 1 := by
  unfold ytr
  split
  · rw [insF_len]; exact Nat.le_refl _
  · omega
theorem yearsF_B (c : Cal) (r0 r1 : Yr) (ep stop : Int) (hc : CalS c) (hr0 : YrS r0) (hr1 : YrS r1) (hs : stop ≤ 1500) (he : 0 ≤ ep) : ∀ (f : Nat) (bg y : Int) (ts : List Tr), TrB ts → 1 ≤ y → ep + 12 * (y - 1) ≤ bg → bg ≤ stop + 100 → (ts.length : Int) ≤ 2 * (y - 1) → TrB (yearsF c r0 r1 stop f bg y ts) ∧ (yearsF c r0 r1 stop f bg y ts).length ≤ 1000 := by
  intro f
  induction f with
  | zero => intro bg y ts h1 h2 h3 h4 h5; exact ⟨h1, by show ts.length ≤ 1000; omega⟩
  | succ f ih =>
    intro bg y ts h1 h2 h3 h4 h5
    unfold yearsF
    split
    · rename_i hlt
      have h6 := year_ge c y hc
      have h7 := year_bd c y hc
      have l1 := ytr_len c bg y r0 r1 ts
      have l2 := ytr_len c bg y r1 r0 (ytr c bg y r0 r1 ts)
      exact ih _ _ _ (trB_ytr (trB_ytr h1 hc hr0 hr1 (by omega) (by omega)) hc hr1 hr0 (by omega) (by omega)) (by omega) (by omega) (by omega) (by omega)
    · exact ⟨h1, by omega⟩
theorem ysF_B (z : Zn) (h : ZnM z) : TrB (ysF z) ∧ (ysF z).length ≤ 1000 := by
  have hz := zcyc_bd z h.cal
  have he := h.cal.ep
  rcases h.yr with hy | ⟨r0, r1, hy, h0, h1⟩
  · unfold ysF
    rw [hy]
    exact ⟨fun _ h => (nomatch h), by simp⟩
  · unfold ysF
    rw [hy]
    exact yearsF_B z.cal r0 r1 z.cal.epoch _ h.cal h0 h1 (by omega) he.1 1400 _ _ _ (fun _ h => (nomatch h)) (by omega) (by omega) (by omega) (by simp)
theorem yearly_any (z : Zn) (s : Zs) (w : World) (hm : ZnM z) (h : ZnAt w w.heap.size s z) : Calls Tryz.prog 69 #[.agg (znCells z s)] w (YrlP w (ysF z) (gapsF (ysF z) (zcyc z * 1440))) := by
  rcases hm.yr with hy | ⟨r0, r1, hy, h0, h1⟩
  · exact yearly_nil z s w hy
  · exact yearly_two z s r0 r1 w hm.cal h hy h0 h1 (by have := hm.trl; omega)
theorem within_yes (n l : Int) (w : World) (hl : 0 ≤ l) (hl2 : l ≤ 4000000000000000) (h : -l ≤ n ∧ n ≤ l) : Calls Tryz.prog 68 #[I n, I l] w fun e w' => e = .returned (.bool true) ∧ w' = w :=
  (within_any n l w hl hl2).mono fun e w' ⟨h1, h2⟩ => ⟨by rw [h1, decide_eq_true h.1, decide_eq_true h.2]; rfl, h2⟩
theorem zcyc_ge (z : Zn) (h : CalS z.cal) : 1 ≤ zcyc z := by
  have h1 := year_ge z.cal 1 h
  have h2 := year_ge z.cal 2 h
  unfold zcyc cyc7 cycD
  split
  · omega
  · split <;> split <;> omega
def VRel (w : World) (cs : Array Value) (m : Nat) (i : Value) (wr : World) : Prop := ∃ k : Nat, k ≤ m ∧ i = .int .i64 k ∧ CalV w cs wr
theorem trans_at {w W : World} {C : Option Addr} {ts : List Tr} (h : CellsAt w w.heap.size C (ts.flatMap Tr.cells)) (hb : Below w.heap.size w W) (h0 : 0 < ts.length) : ∃ b off, C = some ⟨b, off, none⟩ ∧ ∀ k, k < ts.length → W.cell? ⟨b, off + k * 2, none⟩ = some (I (atI ts k)) ∧ W.cell? ⟨b, off + k * 2 + 1, none⟩ = some (I (offI ts k)) := by
  obtain ⟨b, off, e, hb1, hcl⟩ := h.there (by rw [flat_len (s := 2) Tr.cells _ fun _ _ => rfl]; omega)
  refine ⟨b, off, e, fun k hk => ?_⟩
  have hx : ts[k]? = some ts[k] := List.getElem?_eq_getElem hk
  have hr := rangeAt_keep (CellsAt.elem (s := 2) (fun _ _ => rfl) hcl k _ hx) hb hb1
  have e1 : atI ts k = ts[k].at_ := by unfold atI; rw [hx]; rfl
  have e2 : offI ts k = ts[k].off := by unfold offI; rw [hx]; rfl
  rw [e1, e2]
  exact ⟨hr 0 _ rfl, hr 1 _ rfl⟩
theorem ZnM.at_bd {z : Zn} (h : ZnM z) (k : Nat) (hk : k < z.trans.length) : (-1080 ≤ offI z.trans k ∧ offI z.trans k ≤ 1080) ∧ 0 ≤ atI z.trans k ∧ atI z.trans k < z.hor := by
  have hx : z.trans[k]? = some z.trans[k] := List.getElem?_eq_getElem hk
  have e1 : atI z.trans k = z.trans[k].at_ := by unfold atI; rw [hx]; rfl
  have e2 : offI z.trans k = z.trans[k].off := by unfold offI; rw [hx]; rfl
  rw [e1, e2]
  exact h.tr _ (List.getElem_mem hk)
theorem after_bd {ts : List Tr} {size t : Int} (h : TrB ts) (hs : 1440 ≤ size) (hs2 : size ≤ 3000000) (ht0 : 0 ≤ t) (ht : t ≤ 1000000) : -10000000000 ≤ (afterF ts size t).1.at_ ∧ (afterF ts size t).1.at_ ≤ 10000000000 := by
  obtain ⟨q, hq⟩ : ∃ q, turnF ts size t = q := ⟨_, rfl⟩
  have hb := turn_bd hq hs (atI_bd 0 h).1 ht0 ht
  have h0 := atI_bd 0 h
  unfold afterF
  split
  · simp
  · rw [hq]
    split
    · rename_i j _
      have hj := atI_bd j h
      simp only
      omega
    · simp only
      omega
end Go.Proofs.YtbdkalpljhpnmaaGreat
