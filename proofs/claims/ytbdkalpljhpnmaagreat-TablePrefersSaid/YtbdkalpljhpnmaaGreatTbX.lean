/- The table's writer: length, offset, digest, text. -/
import Derived.Test.YtbdkalpljhpnmaaGreatPs
import Derived.Test.YtbdkalpljhpnmaaGreatQa
import Derived.Test.YtbdkalpljhpnmaaGreatTbW
import Derived.BigQuiet
import Derived.Deep.AppendLies
import Derived.Deep.CutBlock
import Derived.Deep.DeepCutAuto
import Derived.Deep.DrawnRows
import Derived.Deep.MidRow
import Derived.Deep.QuietTactic
import Derived.Deep.RegionHeld3
import Derived.Deep.RegionLaw
import Derived.Deep.WholeRow
import Derived.Great.BuildSlice
import Derived.Laws.BytesString
import Derived.Laws.CopyOwn
import Derived.Laws.EntriesVeiled
import Derived.Laws.MakeOwn
import Derived.Laws.ResultCell
import Derived.Laws.Rows
import Derived.Laws.Tables
import Derived.Lib.Hide
import Derived.LoopIn
import Derived.LoopNIn
import Derived.Maps.AppendAt
import Derived.Outline
import Derived.OwnWalkIn
import Derived.RangeFuncBound
import Derived.RangeFuncBox
import Derived.RangeFuncCalls
import Derived.RangeFuncLeaves
import Derived.RangeFuncNested
import Derived.Shelf.Abstract
import Derived.Shelf.Bytes.SlSmallAll
import Derived.Shelf.RegionOpen
import Derived.StillTailTactics
import Derived.Stop.BytesEq
import Derived.TacticsInMore
import Derived.WalkKit
import Derived.WalkLawsBesides
import Derived.WalkSpells
namespace Go.Proofs.YtbdkalpljhpnmaaGreat
open Go Go.RowKit

theorem TWSt.lt {w : World} {g : Nat} {v : Value} {bs : List UInt8} (h : TWSt w g v bs) : g < w.heap.size := (Array.getElem?_eq_some_iff.1 h.1).1
theorem TWSt.grow {w w' : World} {g : Nat} {v : Value} {bs : List UInt8} (h : TWSt w g v bs) (hb : Below w.heap.size w w') : TWSt w' g v bs ∧ WKeep g v w v w' :=
  ⟨⟨(hb.block g h.lt).trans h.1, ownsRow_blocks h.2 fun k _ hk => hb.block k hk⟩, ⟨hb.os, hb.tape, hb.output, hb.size, fun k hk _ _ => hb.block k hk, .inl rfl⟩⟩
/-- A block that is neither the writer nor the row of its bytes is as it was. -/
theorem TWSt.far {w w' : World} {g : Nat} {v v' : Value} {bs : List UInt8} (_h : TWSt w g v bs) (hk : WKeep g v w v' w') (b : Nat) (hb : b < w.heap.size) (hg : b ≠ g) (ho : some b ≠ v.ownBlock) : w'.heap[b]? = w.heap[b]? := hk.block b hb hg ho
theorem TWSt.new_ne {w : World} {g : Nat} {v : Value} {bs : List UInt8} (h : TWSt w g v bs) : w.heap.size ≠ g ∧ some w.heap.size ≠ v.ownBlock :=
  ⟨by have := h.lt; omega, fun e => by have := own_lt h.2 _ e.symm; omega⟩
set_option maxRecDepth 10000 in
set_option maxHeartbeats 1000000 in
theorem tlength_any (w : World) (g : Nat) (v : Value) (bs : List UInt8) (n : Int) (size : Nat) (hn0 : -9223372036854775808 ≤ n) (hn1 : n ≤ 9223372036854775807) (hs : size ≤ 8) (hl : bs.length ≤ 1099511627776) (hst : TWSt w g v bs) :
    Calls Tryz.prog 151 #[pt g, I n, I size] w fun e w' => e = .returned (I n) ∧ ∃ v', TWSt w' g v' (bs ++ le n size) ∧ WKeep g v w v' w' := by
  obtain ⟨h1, h2⟩ := hst.grow (below_var w (.cells #[I n] 3))
  have hne := hst.new_ne
  have HC := Lib.hid (tnumber_any (w.alloc (.cells #[I n] 3)) g ⟨w.heap.size, 0, none⟩ v bs n size hn0 hn1 hs hl h1.lt h1 ((Row.new w #[I n] 3).2 0))
  have HB := Lib.hid (heap_alloc_last w (.cells #[I n] 3))
  have H1 := Lib.hid h1
  have H2 := Lib.hid h2
  have HNE := Lib.hid hne
  clear h1 h2 hst hne
  go_enter Tryz.func151, Tryz.ntmps151
  go_wp2_with fail
  refine HC.out.mono ?_
  rintro e w1 ⟨rfl, v1, hs1, hk1⟩
  have k1 : w1.cell? ⟨w.heap.size, 0, none⟩ = some (I n) := cell_of_row w1 _ 0 _ _ _ ((H1.out.far hk1 w.heap.size (by simp) HNE.out.1 HNE.out.2).trans HB.out)
  have HS := Lib.hid hs1
  have HK := Lib.hid (H2.out.trans hk1)
  clear hs1 hk1 HC
  go_wp2_with fail
  go_ret
  exact ⟨rfl, v1, HS.out, HK.out⟩
/-- Many bytes more, appended in one piece. -/
theorem twst_app {w W w1 : World} {g m : Nat} {v v' : Value} {bs xs : List UInt8} (h : TWSt w g v bs) (hW : W.heap = w.heap) (h1 : W.os = w.os) (h2 : W.tape = w.tape) (h3 : W.output = w.output) (hm : m = bs.length + xs.length)
    (hown : w1.ownsRow (g + 1) 5 1 v' m (bs.map Extern.Stop.cell ++ xs.map Extern.Stop.cell)) (hgrow : W.grownBy w1 v.ownBlock) (hat : v'.ownBlock = v.ownBlock ∨ v'.ownBlock = some w.heap.size) :
    w1.heap[g]? = some (.cells #[v] 83 (0, 0)) ∧ TWSt (w1.setCell ⟨g, 0, none⟩ v') g v' (bs ++ xs) ∧ WKeep g v w v' (w1.setCell ⟨g, 0, none⟩ v') := by
  subst hm
  have hg := h.lt
  have hne : some g ≠ v.ownBlock := own_ge h.2 g (Nat.lt_succ_self g)
  have hg1 : w1.heap[g]? = some (.cells #[v] 83 (0, 0)) := by
    rw [hgrow.block g (by rw [hW]; exact hg) hne, hW]; exact h.1
  refine ⟨hg1, ⟨?_, ?_⟩, ?_⟩
  · rw [heap_setCell_same w1 g 0 _ _ _ hg1]; rfl
  · have := ownsRow_far (u := v') (p := ⟨g, 0, none⟩) hown (own_ge hown g (Nat.lt_succ_self g))
    simpa using this
  · refine ⟨hgrow.os.trans h1, hgrow.tape.trans h2, hgrow.output.trans h3, ?_, fun k hk hkg hkv => ?_, ?_⟩
    · have := hgrow.size; rw [hW] at this; simp [World.setCell]; omega
    · rw [heap_setCell_other w1 _ k _ hkg, hgrow.block k (by rw [hW]; exact hk) hkv, hW]
    · exact hat.elim .inl fun e => .inr ⟨_, e, Nat.le_refl _⟩
theorem toffset_any (w : World) (g : Nat) (p : Addr) (v : Value) (bs : List UInt8) (n : Int) (hn0 : -9223372036854775808 ≤ n) (hn1 : n ≤ 9223372036854775807) (hl : bs.length ≤ 1099511627776) (hst : TWSt w g v bs) (hp : w.cell? p = some (I n)) :
    Calls Tryz.prog 153 #[pt g, .pointer (some p)] w (TwPost w g v (bs ++ le n 2)) := by
  have HC := Lib.hid (tnumber_any w g p v bs n 2 hn0 hn1 (by omega) hl hst.lt hst hp)
  clear hst hp
  go_enter Tryz.func153, Tryz.ntmps153
  go_wp2_with fail
  refine HC.out.mono ?_
  rintro e w1 ⟨rfl, h⟩
  have H := Lib.hid h
  clear h HC
  go_wp2_with fail
  go_end0
  exact ⟨rfl, H.out⟩
set_option maxRecDepth 10000 in
set_option maxHeartbeats 1000000 in
theorem tdigest_any (w : World) (g db off : Nat) (v : Value) (bs ds : List UInt8) (hl : bs.length ≤ 1000000000000) (hd : w.rangeAt db off (refCells ds)) (h32 : ds.length = 32) (hst : TWSt w g v bs) :
    Calls Tryz.prog 149 #[pt g, .pointer (some ⟨db, off, none⟩)] w (TwPost w g v (bs ++ ds)) := by
  have hc0 : w.cell? ⟨g, 0, none⟩ = some v := cell_of_row w g 0 _ _ _ hst.1
  have hgl : g < w.heap.size := hst.lt
  have HI := Lib.hid hst
  obtain ⟨i0, hi, hz0, hz1, hz2⟩ := info_parts info_u8
  have hnews : ∀ j u, (refCells ds)[j]? = some u → w.drew.cell? ((⟨db, off, none⟩ : Addr).add j) = some u := fun j u hu => by
    rw [Addr.add_mid]
    exact hd j u hu
  have hmx : bs.length + 32 ≤ maxLen := by unfold maxLen; omega
  have hby : (bs.length + 32) * 1 ≤ 140737488355328 := by omega
  clear hst hd
  go_enter Tryz.func149, Tryz.ntmps149
  go_wp2_with fail
  go_region_law ((refine step_append_lies _ (by rfl) _ _ _ (by rfl) (g + 1) 5 i0 _ 1 1 Tryz.underlying23 hi hz0 hz1 hz2 rfl (by omega) v bs.length (bs.map Extern.Stop.cell) (by rfl) (HI.out.2.drew) ⟨db, off, none⟩ 32 32 (refCells ds) (by rfl) (by simp [refCells, h32]) hnews (ref_one2 ds) (by omega) hmx hby (Nat.succ_le_of_lt hgl) w.heap.size rfl ?_; intro gg cap w1 hown1 hgrow hat hlt; have hS := twst_app (w := w) (W := w.drew) (xs := ds) (m := bs.length + 32) HI.out rfl rfl rfl rfl (by rw [h32]) hown1 hgrow (hat.elim (fun e => .inl e.symm) (fun e => .inr (by rw [← e]; rfl))); have hc2 : w1.cell? ⟨g, 0, none⟩ = some v := cell_of_row w1 g 0 _ _ _ hS.1; have hf2 := frozen_of_row w1 g 0 _ _ hS.1; have HSS := Lib.hid hS; clear hS hown1 hgrow hat hlt))
  all_goals
    go_wp2
    go_end0
    exact ⟨rfl, _, HSS.out.2.1, HSS.out.2.2⟩
set_option maxRecDepth 10000 in
set_option maxHeartbeats 1000000 in
theorem ttext_any (w : World) (g : Nat) (p : Addr) (v : Value) (bs : List UInt8) (s : ByteArray) (hs : s.size ≤ 1000000) (hl : bs.length ≤ 1000000000) (hst : TWSt w g v bs) (hp : w.cell? p = some (.string s)) (hpg : p.block ≠ g) (hpv : some p.block ≠ v.ownBlock) (hpl : p.block < w.heap.size) :
    Calls Tryz.prog 154 #[pt g, .pointer (some p)] w (TwPost w g v (bs ++ (le s.size 1 ++ s.data.toList))) := by
  have HC := Lib.hid (tlength_any w g v bs s.size 1 (by omega) (by omega) (by omega) (by omega) hst)
  have HST := Lib.hid hst
  have HPK := Lib.hid (show p.block ≠ g ∧ some p.block ≠ v.ownBlock from ⟨hpg, hpv⟩)
  clear hst hpg hpv
  go_enter Tryz.func154, Tryz.ntmps154
  go_wp2_with fail
  refine HC.out.mono ?_
  rintro e w1 ⟨rfl, v1, hw1, hk1⟩
  have hlen : (bs ++ le (s.size : Int) 1).length ≤ 1000000008 := by rw [List.length_append, le_length]; omega
  have hpos : 0 < (bs ++ le (s.size : Int) 1).length := by rw [List.length_append, le_length]; omega
  obtain ⟨B, hB⟩ : ∃ B, bs ++ le (s.size : Int) 1 = B := ⟨_, rfl⟩
  rw [hB] at hw1 hlen hpos
  have hp1 : w1.cell? p = some (.string s) := (World.cell?_of_block (hk1.block p.block hpl HPK.out.1 HPK.out.2)).trans hp
  have HB := Lib.hid hB
  have HW := Lib.hid hw1
  have HK := Lib.hid hk1
  have hc1 := cell_of_row w1 g 0 _ _ _ hw1.1
  have hgl : g < w1.heap.size := hw1.lt
  clear hB hw1 hk1 HC hp
  go_wp2_with fail
  go_region_law ((refine step_app_str (by rfl) _ _ (by rfl) (g + 1) v1 B.length (B.map Extern.Stop.cell) (by rfl) (HW.out.2.drew) s (by rfl) (by omega) (Nat.succ_le_of_lt hgl) (by omega) ?_; intro gg cap w2 hown2 hgrow hat; have hS := twst_app (w := w1) (W := w1.drew) (xs := s.data.toList) (m := B.length + s.size) HW.out rfl rfl rfl rfl (by rw [Array.length_toList]; rfl) hown2 hgrow hat; have hc2 : w2.cell? ⟨g, 0, none⟩ = some v1 := cell_of_row w2 g 0 _ _ _ hS.1; have hf2 := frozen_of_row w2 g 0 _ _ hS.1; have HSS := Lib.hid hS; clear hS hown2 hgrow hat))
  all_goals
    go_wp2
    go_end0
    exact ⟨rfl, _, by rw [← List.append_assoc, HB.out]; exact HSS.out.2.1, HK.out.trans HSS.out.2.2⟩
end Go.Proofs.YtbdkalpljhpnmaaGreat
