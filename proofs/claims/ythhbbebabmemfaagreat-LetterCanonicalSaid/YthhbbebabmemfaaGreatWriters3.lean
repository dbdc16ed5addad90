/- The methods of letter.writer: ref; cells of a nil slice. -/
import Derived.Test.YthhbbebabmemfaaGreatWriters2
import Derived.BigQuiet
import Derived.Deep.AppendLies
import Derived.Deep.CutBlock
import Derived.Deep.DeepCutAuto
import Derived.Deep.DrawnRows
import Derived.Deep.MidRow
import Derived.Deep.QuietTactic
import Derived.Deep.RegionHeld3
import Derived.Deep.RegionLaw
import Derived.Deep.WholeRow
import Derived.Great.BuildSlice
import Derived.Laws.BytesString
import Derived.Laws.CopyOwn
import Derived.Laws.EntriesVeiled
import Derived.Laws.MakeOwn
import Derived.Laws.ResultCell
import Derived.Laws.Rows
import Derived.Laws.Tables
import Derived.Lib.Hide
import Derived.LoopIn
import Derived.LoopNIn
import Derived.Maps.AppendAt
import Derived.Outline
import Derived.OwnWalkIn
import Derived.RangeFuncBound
import Derived.RangeFuncBox
import Derived.RangeFuncCalls
import Derived.RangeFuncLeaves
import Derived.RangeFuncNested
import Derived.Shelf.Abstract
import Derived.Shelf.Bytes.SlSmallAll
import Derived.Shelf.RegionOpen
import Derived.StillTailTactics
import Derived.Stop.BytesEq
import Derived.TacticsInMore
import Derived.WalkKit
import Derived.WalkLawsBesides
import Derived.WalkSpells
namespace Go.Proofs.YthhbbebabmemfaaGreat
open Go Go.RowKit

theorem ref_one2 (r : List UInt8) : ∀ v ∈ refCells r, v.oneCell' = true := by
  intro v hv; simp only [refCells, List.mem_map] at hv; obtain ⟨x, _, rfl⟩ := hv; rfl
/-- Many bytes more, appended in one piece. -/
theorem wst_app {w W w1 : World} {g gg cap : Nat} {lp v : Value} {bs xs : List UInt8} (h : WSt w g lp v bs) (hg : g < w.heap.size) (hW : W.heap = w.heap) (h1 : W.os = w.os) (h2 : W.tape = w.tape) (h3 : W.output = w.output)
    (hown : w1.ownsRow (g + 1) 5 1 (.slice (some ⟨gg, 0, none⟩) (bs.length + xs.length) cap) (bs.length + xs.length) (bs.map Extern.Stop.cell ++ xs.map Extern.Stop.cell)) (hgrow : W.grownBy w1 v.ownBlock)
    (hat : v.ownBlock = some gg ∨ gg = w.heap.size) :
    w1.heap[g]? = some (.cells #[lp, v] 64 (0, 0)) ∧ WSt (w1.setCell ⟨g, 1, none⟩ (.slice (some ⟨gg, 0, none⟩) (bs.length + xs.length) cap)) g lp (.slice (some ⟨gg, 0, none⟩) (bs.length + xs.length) cap) (bs ++ xs) ∧
      WKeep g v w (.slice (some ⟨gg, 0, none⟩) (bs.length + xs.length) cap) (w1.setCell ⟨g, 1, none⟩ (.slice (some ⟨gg, 0, none⟩) (bs.length + xs.length) cap)) := by
  have hne : some g ≠ v.ownBlock := own_ge h.2 g (Nat.lt_succ_self g)
  have hg1 : w1.heap[g]? = some (.cells #[lp, v] 64 (0, 0)) := by
    rw [hgrow.block g (by rw [hW]; exact hg) hne, hW]; exact h.1
  refine ⟨hg1, ⟨?_, ?_⟩, ?_⟩
  · rw [heap_setCell_same w1 g 1 _ _ _ hg1]; rfl
  · have := ownsRow_far (u := .slice (some ⟨gg, 0, none⟩) (bs.length + xs.length) cap) (p := ⟨g, 1, none⟩) hown (own_ge hown g (Nat.lt_succ_self g))
    simpa using this
  · refine ⟨hgrow.os.trans h1, hgrow.tape.trans h2, hgrow.output.trans h3, ?_, fun k hk hkg hkv => ?_, ?_⟩
    · have := hgrow.size; rw [hW] at this; simp [World.setCell]; omega
    · rw [heap_setCell_other w1 _ k _ hkg, hgrow.block k (by rw [hW]; exact hk) hkv, hW]
    · rcases hat with e | e
      · exact .inl e.symm
      · exact .inr ⟨gg, rfl, by omega⟩
attribute [local go_sem] lt_get29
set_option maxRecDepth 10000 in
set_option maxHeartbeats 1000000 in
theorem refW_any (w : World) (g b : Nat) (l : Lt) (vr vm vc v : Value) (bs : List UInt8) (hin : WIn w g b (ltCells l vr vm vc) v bs) (hl : bs.length ≤ 1000000000000) (hr : l.ref.length = 32) :
    Calls Tryz.prog 29 #[pt g] w (NumPost w g (pt b) v (bs ++ l.ref)) := by
  have hc0 : w.cell? ⟨g, 0, none⟩ = some (pt b) := cell_of_row w g 0 _ _ _ hin.st.1
  have hc1 : w.cell? ⟨g, 1, none⟩ = some v := cell_of_row w g 1 _ _ _ hin.st.1
  have HI := Lib.hid hin
  obtain ⟨i0, hi, hz0, hz1, hz2⟩ := info_parts info_u8
  have hnews : ∀ j u, (refCells l.ref)[j]? = some u → w.drew.cell? ((⟨b, 30, none⟩ : Addr).add j) = some u := fun j u hu => by
    rw [Addr.add_mid]
    exact (hin.row.2 (30 + j)).trans ((lt_getRef l vr vm vc j).trans hu)
  have hmx : bs.length + 32 ≤ maxLen := by unfold maxLen; omega
  have hby : (bs.length + 32) * 1 ≤ 140737488355328 := by omega
  clear hin
  go_enter Tryz.func29, Tryz.ntmps29
  go_wp2_with fail
  go_region_law ((refine step_append_lies _ (by rfl) _ _ _ (by rfl) (g + 1) 5 i0 _ 1 1 Tryz.underlying22 hi hz0 hz1 hz2 rfl (by omega) v bs.length (bs.map Extern.Stop.cell) (by rfl) (HI.out.st.2.drew) ⟨b, 30, none⟩ 32 32 (refCells l.ref) (by rfl) (by simp [refCells, hr]) hnews (ref_one2 l.ref) (by omega) hmx hby (Nat.succ_le_of_lt HI.out.gl) w.heap.size rfl ?_; intro gg cap w1 hown1 hgrow hat hlt; have hS := wst_app (w := w) (W := w.drew) (xs := l.ref) HI.out.st HI.out.gl rfl rfl rfl rfl (by rw [hr]; exact hown1) hgrow hat; rw [hr] at hS; have hc2 : w1.cell? ⟨g, 1, none⟩ = some v := cell_of_row w1 g 1 _ _ _ hS.1; have hf2 := frozen_of_row w1 g 1 _ _ hS.1; have HSS := Lib.hid hS; clear hS hown1 hgrow hat hlt))
  all_goals
    go_wp2
    go_end0
    exact ⟨rfl, _, HSS.out.2.1, HSS.out.2.2⟩

set_option maxRecDepth 10000 in
set_option maxHeartbeats 1000000 in
theorem cellsW_none (w : World) (g b : Nat) (l : Lt) (vr vm v : Value) (A : Option Addr) (c : Nat) (bs : List UInt8) (hin : WIn w g b (ltCells l vr vm (.slice A 0 c)) v bs) (hl : bs.length ≤ 1000000000000) (hz : l.cells.length = 0) :
    Calls Tryz.prog 28 #[pt g] w (NumPost w g (pt b) v (bs ++ (le l.cells.length 4 ++ cellBytes l.cells))) := by
  have HI := Lib.hid hin
  have hc0 := cell_of_row w g 0 _ _ _ hin.st.1
  have hr0 := hin.row.2
  have hfl : fits (0 : Int) := by unfold fits; omega
  have hz' : l.cells = [] := List.eq_nil_of_length_eq_zero hz
  have HZ := Lib.hid hz'
  clear hin hz hz'
  go_enter Tryz.func28, Tryz.ntmps28
  go_wp2_with fail
  refine (number4 _ _ _ _ bs _ hfl (by omega) HI.out.gl HI.out.st).mono ?_
  rintro e w1 ⟨rfl, v1, hs1, hk1⟩
  have HI1 := Lib.hid (HI.out.next hs1 hk1)
  have HK1 := Lib.hid hk1
  have hc1 := cell_of_row w1 g 0 _ _ _ hs1.1
  have hr1 := HI1.out.row.2
  clear hs1 hk1
  go_wp2_with fail
  go_loop [22] (fun i => i = .int .i64 0) (fun _ => 0)
  case atStart => rfl
  case round =>
    subst hrel
    go_wp2
    go_end0
    exact ⟨rfl, v1, by rw [HZ.out]; simpa [cellBytes] using HI1.out.st, HK1.out⟩
theorem cellsW_any (w : World) (g b : Nat) (l : Lt) (vr vm v : Value) (A : Option Addr) (c : Nat) (bs : List UInt8) (hin : WIn w g b (ltCells l vr vm (.slice A l.cells.length c)) v bs) (hl : bs.length ≤ 1000000000000) (hz : l.cells.length ≤ 65536)
    (hi : IntsAt w b A l.cells) (hfit : ∀ j, j < l.cells.length → fits (l.cells[j]?.getD 0)) :
    Calls Tryz.prog 28 #[pt g] w (NumPost w g (pt b) v (bs ++ (le l.cells.length 4 ++ cellBytes l.cells))) := by
  rcases hi with h | ⟨bb, off, rfl, hb, hc⟩
  · rw [h] at hin
    exact cellsW_none w g b l vr vm v A c bs hin hl h
  · exact cellsW_some w g b l vr vm v bb off c bs hin hl hz (.inr ⟨bb, off, rfl, hb, hc⟩) hfit
end Go.Proofs.YthhbbebabmemfaaGreat
