/- The texts LwA, in this order. -/
import Derived.Test.YtoljoigbepdeiaaGreatDoorG09
import Derived.Test.YtoljoigbepdeiaaGreatDoorG10
import Derived.Test.YtoljoigbepdeiaaGreatDoorG11
import Derived.BigQuiet
import Derived.Deep.AppendLies
import Derived.Deep.CutBlock
import Derived.Deep.DeepCutAuto
import Derived.Deep.DrawnRows
import Derived.Deep.MidRow
import Derived.Deep.QuietTactic
import Derived.Deep.RegionHeld3
import Derived.Deep.RegionLaw
import Derived.Deep.WholeRow
import Derived.Great.BuildSlice
import Derived.Laws.BytesString
import Derived.Laws.CopyOwn
import Derived.Laws.EntriesVeiled
import Derived.Laws.MakeOwn
import Derived.Laws.ResultCell
import Derived.Laws.Rows
import Derived.Laws.Tables
import Derived.Lib.Hide
import Derived.LoopIn
import Derived.LoopNIn
import Derived.Maps.AppendAt
import Derived.Outline
import Derived.OwnWalkIn
import Derived.RangeFuncBound
import Derived.RangeFuncBox
import Derived.RangeFuncCalls
import Derived.RangeFuncLeaves
import Derived.RangeFuncNested
import Derived.Shelf.Abstract
import Derived.Shelf.Bytes.SlSmallAll
import Derived.Shelf.RegionOpen
import Derived.StillTailTactics
import Derived.Stop.BytesEq
import Derived.TacticsInMore
import Derived.WalkKit
import Derived.WalkLawsBesides
import Derived.WalkSpells
/- LetterTables: the zones' loop. -/
namespace Go.Proofs.YtoljoigbepdeiaaGreatDoor
open Go Go.RowKit

def wireC (key : List UInt8) (iss : Int) (v : Value) : Array Value := (refCells key ++ [.int .u8 iss, v]).toArray
theorem wire_key {wx : World} {b : Nat} {key : List UInt8} {iss : Int} {v : Value} (hr : Row wx b (wireC key iss v)) : wx.rangeAt b 0 (refCells key) := fun j u hu => by
  have hj : j < (refCells key).length := (List.getElem?_eq_some_iff.1 hu).1
  rw [Nat.zero_add, hr.2 j]
  unfold wireC
  rw [List.getElem?_toArray, List.getElem?_append_left hj]
  exact hu
theorem tb0_build (iss : Int) : (Tryz.zeroCells30.setIfInBounds 0 (I (iss % 16))).setIfInBounds 1 (I 1) = tbVal (tb0 iss []) (.slice none 0 0) := by
  rw [zTb_cells, tbVal_issuer, tbVal_version]
  rfl
theorem conv_one (W : World) (x : Int) (hx : 0 ≤ x ∧ x < 256) : (convert 24 9 (.slice (some ⟨W.heap.size, 0, none⟩) 1 1)).run Tryz.prog (W.alloc (.cells #[.int .u8 x] 5)) = .ok (.string ⟨#[x.toNat.toUInt8]⟩) (W.alloc (.cells #[.int .u8 x] 5)) := by
  have h := bytesAt_new W [x.toNat.toUInt8] #[.int .u8 x] 5 (by
    simp [Extern.Stop.cell]
    omega)
  exact conv_bytes _ [x.toNat.toUInt8] 1 _ _ h
theorem own_lt_some {w : World} {lo e size n g : Nat} {v : Value} {xs : List Value} (h : w.ownsRow lo e size v n xs) (hg : some g = v.ownBlock) : g < w.heap.size := by
  obtain ⟨_, ⟨h1, _⟩ | ⟨g', cap, cur, h1, h2, h3, _⟩⟩ := h
  · subst h1
    cases hg
  · subst h1
    have : g = g' := by simpa [Value.ownBlock] using hg
    subst this
    exact (Array.getElem?_eq_some_iff.1 h3).1
/-- One zone's months, in a block that is not the entries'. -/
def MonAt (lo : Nat) (w : World) (v : Value) (y : ZeV) : Prop :=
  ZsNil y.s ∧ ∃ b, y.s.A = some ⟨b, 0, none⟩ ∧ y.s.a = 1 ∧ lo ≤ b ∧ b < w.heap.size ∧ some b ≠ v.ownBlock ∧ w.heap[b]? = some (.cells #[I 3] 3 (0, 0))
def LwRel (w : World) (iss : Int) (os : List Int) (bt : Nat) (i : Value) (wr : World) : Prop :=
  ∃ (k : Nat) (A : Option Addr) (c : Nat) (ys : List ZeV), k ≤ 5 ∧ k ≤ os.length ∧ i = I k ∧ wr.heap[bt]? = some (.cells (tbVal (tb0 iss []) (.slice A k c)) 30 (0, 0)) ∧ wr.ownsRow (bt + 1) 40 9 (.slice A k c) k (zecells ys) ∧ (k = 0 → A = none ∧ c = 0) ∧ (∀ y ∈ ys, MonAt (bt + 1) wr (.slice A k c) y) ∧ ys.map (·.e) = lawZes (os.take k) ∧ Below w.heap.size w wr
def LwDone (w : World) (iss : Int) (os : List Int) (bt : Nat) (wx : World) : Prop :=
  ∃ (A : Option Addr) (c : Nat) (ys : List ZeV), wx.heap[bt]? = some (.cells (tbVal (tb0 iss []) (.slice A (os.take 5).length c)) 30 (0, 0)) ∧ ZsOwn (bt + 1) wx (.slice A (os.take 5).length c) ys ∧ ys.map (·.e) = lawZes (os.take 5) ∧ Below w.heap.size w wx
theorem LwRel.done {w wx : World} {iss : Int} {os : List Int} {bt k : Nat} {A : Option Addr} {c : Nat} {ys : List ZeV} (hk : k = (os.take 5).length) (h1 : wx.heap[bt]? = some (.cells (tbVal (tb0 iss []) (.slice A k c)) 30 (0, 0))) (h2 : wx.ownsRow (bt + 1) 40 9 (.slice A k c) k (zecells ys)) (h3 : k = 0 → A = none ∧ c = 0) (h4 : ∀ y ∈ ys, MonAt (bt + 1) wx (.slice A k c) y) (h5 : ys.map (·.e) = lawZes (os.take k)) (h6 : Below w.heap.size w wx) : LwDone w iss os bt wx := by
  have ht : os.take k = os.take 5 := by
    rw [hk, List.length_take]
    by_cases h : os.length ≤ 5
    · rw [Nat.min_eq_right h, List.take_of_length_le h, List.take_of_length_le (Nat.le_refl _)]
    · rw [Nat.min_eq_left (by omega)]
  have hy : ys.length = k := by
    have := congrArg List.length h5
    rw [ht] at this
    simp [lawZes] at this
    rw [this, hk, List.length_take]
  have hmon : ∀ y ∈ ys, y.e.z.cal.months = [3] := by
    intro y hy2
    have hm : y.e ∈ lawZes (os.take k) := by rw [← h5]; exact List.mem_map_of_mem hy2
    unfold lawZes at hm
    obtain ⟨i, hi, he⟩ := List.mem_mapIdx.1 hm
    rw [← he]
    rfl
  subst hk
  refine ⟨A, c, ys, h1, ⟨by rw [hy]; exact h2, fun y hy2 => ?_, fun y hy2 => (h4 y hy2).1, fun h0 => ?_⟩, by rw [h5, ht], h6⟩
  · obtain ⟨_, b, m2, _, m4, m5, _, m7⟩ := h4 y hy2
    rw [hmon y hy2]
    refine .inr ⟨b, 0, m2, m4, m5, fun j hj => ?_⟩
    have hj0 : j = 0 := by simpa using hj
    subst hj0
    rw [cell_of_row wx b _ _ _ _ m7]
    rfl
  · obtain ⟨e1, e2⟩ := h3 (by rw [← hy]; exact h0)
    rw [e1, e2]
    have : (os.take 5).length = 0 := by rw [← hy]; exact h0
    rw [this]
set_option maxRecDepth 10000 in
set_option maxHeartbeats 4000000 in
theorem law_front (KR : List Int) (hK : KR.length = 64) (w : World) (hG : RowU w 0 (cellsU KR)) (hw0 : 0 < w.heap.size) (key : List UInt8) (hk : key.length = 32) (iss : Int) (hi : 0 ≤ iss ∧ iss < 256) (bit : Int) (hbit : 0 ≤ bit) (A : Option Addr) (n c : Nat) (os : List Int) (hn : os.length = n) (hos : ∀ z ∈ os, 0 ≤ z ∧ z < 256) (hA : os.length = 0 ∨ ∃ b off, A = some ⟨b, off, none⟩ ∧ b < w.heap.size ∧ ∀ j z, os[j]? = some z → w.cell? ⟨b, off + j, none⟩ = some (.int .u8 z)) :
    Calls Tryz.prog 3 #[.agg (wireC key iss (.slice A n c)), .int .u8 bit] w (Gives (.bool true) w) := by
  have HK := Lib.hid hK
  have HG := Lib.hid hG
  have HKY := Lib.hid hk
  have hc32 : (wireC key iss (.slice A n c))[32]? = some (.int .u8 iss) := by
    unfold wireC
    rw [List.getElem?_toArray, List.getElem?_append_right (by simp [refCells, hk])]
    simp [refCells, hk]
  have hc33 : (wireC key iss (.slice A n c))[33]? = some (.slice A n c) := by
    unfold wireC
    rw [List.getElem?_toArray, List.getElem?_append_right (by simp [refCells, hk])]
    simp [refCells, hk]
  have HR0 := Lib.hid (Row.new w (wireC key iss (.slice A n c)) 26)
  have HB0 := Lib.hid (below_var w (.cells (wireC key iss (.slice A n c)) 26))
  clear hK hG hk
  go_enter Tryz.func3, Tryz.ntmps3
  go_wp2_with fail
  refine (sanity_any _).mono ?_
  rintro e w1 ⟨rfl, hb1⟩
  have HR1 := Lib.hid (HR0.out.keep hb1)
  have HB1 := Lib.hid (below_trans HB0.out hb1)
  have hc1 : w1.cell? ⟨w.heap.size, 32, none⟩ = some (.int .u8 iss) := (HR1.out.2 32).trans hc32
  have him : iss.tmod 16 = iss % 16 := Int.tmod_eq_emod_of_nonneg hi.1
  have hz1 : w1.heap.size < w1.heap.size + 1 := Nat.lt_succ_self _
  have hzs : Tryz.zeroCells30.size = (tbVal (tb0 iss []) (.slice none 0 0)).size := by rw [zTb_cells]; exact (tb_size zTb _ rfl rfl).trans (tb_size (tb0 iss []) _ rfl rfl).symm
  have HZS := Lib.hid hzs
  obtain ⟨W2, hW2⟩ : ∃ W2, (w1.alloc (.cells Tryz.zeroCells30 30)).setRow w1.heap.size (tbVal (tb0 iss []) (.slice none 0 0)) = W2 := ⟨_, rfl⟩
  have h2b : W2.heap[w1.heap.size]? = some (.cells (tbVal (tb0 iss []) (.slice none 0 0)) 30 (0, 0)) := by rw [← hW2]; exact setRow_heap _ _ _ _ _ _ (heap_alloc_last w1 _)
  have h2l : Below w.heap.size w W2 := by rw [← hW2]; exact below_setRow' (below_trans HB1.out (below_var w1 _)) HB1.out.size _
  have h2r : Row W2 w.heap.size (wireC key iss (.slice A n c)) := HR1.out.keep (by rw [← hW2]; exact below_setRow' (below_var w1 _) (Nat.le_refl _) _)
  have HW2 := Lib.hid hW2
  have H2B := Lib.hid h2b
  have H2L := Lib.hid h2l
  have H2R := Lib.hid h2r
  clear hb1 HR0 HB0 hzs hW2 h2b h2l h2r
  go_upto_block 0 with (with_reducible refine g_store 30 ?_; refine wpList_store_row rfl _ _ _ rfl w1.heap.size (tbVal (tb0 iss []) (.slice none 0 0)) rfl ?hy 30 Tryz.zeroCells30 (heap_alloc_last w1 _) (tb_info (tb0 iss []) _ rfl rfl) HZS.out (tbVal_one _ _ _ _) ?_)
  case hy => exact congrArg Value.agg (tb0_build iss)
  rw [HW2.out]
  (try simp only [Act.put])
  obtain ⟨bt, hbt⟩ : ∃ bt, w1.heap.size = bt := ⟨_, rfl⟩
  rw [hbt] at H2B ⊢
  have hwt : w.heap.size < bt := by rw [← hbt]; exact HR1.out.1
  clear hc1 HR1 HB1 HW2 HZS hbt
  go_cut [7] (fun _ wx => LwDone w iss os bt wx ∧ Row wx w.heap.size (wireC key iss (.slice A n c)))
  case first =>
    go_wp2_with fail
    go_loopw [7] (fun i wr => LwRel w iss os bt i wr ∧ Row wr w.heap.size (wireC key iss (.slice A n c))) (fun i _ => 5 - (intOf i).toNat)
    case atStart => exact ⟨⟨0, none, 0, [], Nat.zero_le _, Nat.zero_le _, rfl, H2B.out, World.ownsRow_nil _ _ _ _, fun _ => ⟨rfl, rfl⟩, (fun _ hy => nomatch hy), rfl, H2L.out⟩, H2R.out⟩
    case round =>
      obtain ⟨⟨k, Az, cz, ys, hk5, hkn, rfl, hbk, hown, hnil, hmon, hmap, hbw⟩, hrw⟩ := hrel
      have HBK := Lib.hid hbk
      have HO := Lib.hid hown
      have HNI := Lib.hid hnil
      have HM := Lib.hid hmon
      have HMAP := Lib.hid hmap
      have HBW := Lib.hid hbw
      have HRW := Lib.hid hrw
      have hcw : wr.cell? ⟨w.heap.size, 33, none⟩ = some (.slice A n c) := (hrw.2 33).trans hc33
      clear hbk hown hnil hmon hmap hbw hrw
      have hwl := HRW.out.1
      have hbl : bt < wr.heap.size := (Array.getElem?_eq_some_iff.1 HBK.out).1
      have i0 : (0 : Int) ≤ (k : Int) := by omega
      by_cases hlt : k < 5 ∧ k < n
      · obtain ⟨h5, hln⟩ := hlt
        have hkz : k < os.length := by omega
        obtain ⟨o, hx⟩ : ∃ o, os[k]? = some o := ⟨_, List.getElem?_eq_getElem hkz⟩
        rcases hA with h0 | ⟨b, off, rfl, hb, hcl⟩
        · omega
        have HX := Lib.hid hx
        obtain ⟨ho1, ho2⟩ := hos o (List.mem_of_getElem? hx)
        have hoc : wr.cell? ⟨b, off + k, none⟩ = some (.int .u8 o) := (HBW.out.cell (p := ⟨b, off + k, none⟩) hb).trans (hcl k o hx)
        have hbw2 : b < wr.heap.size := Nat.lt_trans hb hwl
        have hwo : IntKind.i64.wrap o = o := by rw [IntKind.wrap_i64]; omega
        have i1 : (k : Int) < 5 := by omega
        have i2 : (k : Int) < (n : Int) := by omega
        have hw1 : IntKind.i64.wrap (97 + (k : Int)) = 97 + (k : Int) := by rw [IntKind.wrap_i64]; omega
        have hw2 : IntKind.u8.wrap (97 + (k : Int)) = 97 + (k : Int) := by simp [IntKind.wrap, IntKind.bits, IntKind.signed]; omega
        have hb3 : wr.cell? ⟨bt, 3, none⟩ = some (.slice Az k cz) := (cell_of_row wr bt 3 _ _ _ HBK.out).trans (tb_get3 _ _)
        have hf3 := frozen_of_row wr bt 3 _ _ HBK.out
        have hcv := conv_one ((wr.alloc (.cells #[.int .i64 3] 3)).alloc (.cells #[.int .i64 0, .slice (some ⟨wr.heap.size, 0, none⟩) 1 1, .int .i64 (-1), .slice none 0 0, .int .i64 o, .slice none 0 0, .int .i64 0, .slice none 0 0] 38)) (97 + (k : Int)) (by omega)
        rw [World.size_alloc, World.size_alloc] at hcv
        obtain ⟨i0', hi0, hq0, hq1, hq2⟩ := info_parts info_ze
        have HI := Lib.hid hi0
        have HQ0 := Lib.hid hq0
        have HQ1 := Lib.hid hq1
        have HQ2 := Lib.hid hq2
        have HOA : Hid (((((wr.alloc (.cells #[.int .i64 3] 3)).alloc (.cells #[.int .i64 0, .slice (some ⟨wr.heap.size, 0, none⟩) 1 1, .int .i64 (-1), .slice none 0 0, .int .i64 o, .slice none 0 0, .int .i64 0, .slice none 0 0] 38)).alloc (.cells #[.int .u8 (97 + (k : Int))] 5)).alloc (.cells (⟨⟨⟨#[122]⟩ ++ ⟨#[97 + UInt8.ofNat k]⟩, ⟨⟨0, [3], -1, []⟩, o, [], 0, []⟩⟩, ⟨some ⟨wr.heap.size, 0, none⟩, 1, none, 0, none, 0, none, 0⟩⟩ : ZeV).cells 40)).ownsRow (bt + 1) 40 9 (.slice Az k cz) k (zecells ys)) := Lib.hid ((((HO.out.alloc _).alloc _).alloc _).alloc _)
        have HNW : Hid (∀ j u, (⟨⟨⟨#[122]⟩ ++ ⟨#[97 + UInt8.ofNat k]⟩, ⟨⟨0, [3], -1, []⟩, o, [], 0, []⟩⟩, ⟨some ⟨wr.heap.size, 0, none⟩, 1, none, 0, none, 0, none, 0⟩⟩ : ZeV).cells.toList[j]? = some u → ((((wr.alloc (.cells #[.int .i64 3] 3)).alloc (.cells #[.int .i64 0, .slice (some ⟨wr.heap.size, 0, none⟩) 1 1, .int .i64 (-1), .slice none 0 0, .int .i64 o, .slice none 0 0, .int .i64 0, .slice none 0 0] 38)).alloc (.cells #[.int .u8 (97 + (k : Int))] 5)).alloc (.cells (⟨⟨⟨#[122]⟩ ++ ⟨#[97 + UInt8.ofNat k]⟩, ⟨⟨0, [3], -1, []⟩, o, [], 0, []⟩⟩, ⟨some ⟨wr.heap.size, 0, none⟩, 1, none, 0, none, 0, none, 0⟩⟩ : ZeV).cells 40)).cell? ((⟨wr.heap.size + 1 + 1 + 1, 0, none⟩ : Addr).add j) = some u) := Lib.hid (by have h := cells_newTab (((wr.alloc (.cells #[.int .i64 3] 3)).alloc (.cells #[.int .i64 0, .slice (some ⟨wr.heap.size, 0, none⟩) 1 1, .int .i64 (-1), .slice none 0 0, .int .i64 o, .slice none 0 0, .int .i64 0, .slice none 0 0] 38)).alloc (.cells #[.int .u8 (97 + (k : Int))] 5)) (⟨⟨⟨#[122]⟩ ++ ⟨#[97 + UInt8.ofNat k]⟩, ⟨⟨0, [3], -1, []⟩, o, [], 0, []⟩⟩, ⟨some ⟨wr.heap.size, 0, none⟩, 1, none, 0, none, 0, none, 0⟩⟩ : ZeV).cells 40; rw [World.size_alloc, World.size_alloc, World.size_alloc] at h; exact h)
        have HON : Hid (∀ u ∈ (⟨⟨⟨#[122]⟩ ++ ⟨#[97 + UInt8.ofNat k]⟩, ⟨⟨0, [3], -1, []⟩, o, [], 0, []⟩⟩, ⟨some ⟨wr.heap.size, 0, none⟩, 1, none, 0, none, 0, none, 0⟩⟩ : ZeV).cells.toList, u.oneCell' = true) := Lib.hid (by have h := zecells_ok [(⟨⟨⟨#[122]⟩ ++ ⟨#[97 + UInt8.ofNat k]⟩, ⟨⟨0, [3], -1, []⟩, o, [], 0, []⟩⟩, ⟨some ⟨wr.heap.size, 0, none⟩, 1, none, 0, none, 0, none, 0⟩⟩ : ZeV)]; simpa [zecells] using h)
        clear hkz hx hcl hc32 hc33 H2B H2L H2R hi0 hq0 hq1 hq2
        go_wp2_with (at_builtin; refine wpList_append_lies _ rfl _ _ 28 rfl (bt + 1) 40 i0' (.agg zZe) 9 144 Tryz.underlying28 HI.out HQ0.out HQ1.out HQ2.out rfl (by decide) (.slice Az k cz) k (zecells ys) rfl HOA.out ⟨wr.heap.size + 1 + 1 + 1, 0, none⟩ 1 1 (⟨⟨⟨#[122]⟩ ++ ⟨#[97 + UInt8.ofNat k]⟩, ⟨⟨0, [3], -1, []⟩, o, [], 0, []⟩⟩, ⟨some ⟨wr.heap.size, 0, none⟩, 1, none, 0, none, 0, none, 0⟩⟩ : ZeV).cells.toList rfl rfl HNW.out HON.out (by omega) (by unfold maxLen; omega) (by omega) (by simp; omega) _ rfl ?_; intro gg cap w6 hown6 hgrow6 hat6 hlt6; have HO6 := Lib.hid hown6; have HG6 := Lib.hid hgrow6; have HT6 := Lib.hid hat6; have hlow : ∀ j, j < wr.heap.size → some j ≠ (Value.slice Az k cz).ownBlock → w6.heap[j]? = wr.heap[j]? := fun j hj hne => (hgrow6.block j (by simp; omega) hne).trans ((Below.heap_alloc _ _ j (by simp; omega)).trans ((Below.heap_alloc _ _ j (by simp; omega)).trans ((Below.heap_alloc _ _ j (by simp; omega)).trans (Below.heap_alloc wr _ j hj)))); have HLW := Lib.hid hlow; have hbt6 := (hlow bt hbl (own_ge HO.out bt (Nat.lt_succ_self _))).trans HBK.out; have HB6 := Lib.hid hbt6; have hc6 : w6.cell? ⟨bt, 3, none⟩ = some (.slice Az k cz) := (cell_of_row w6 bt 3 _ _ _ hbt6).trans (tb_get3 _ _); have hf6 := frozen_of_row w6 bt 3 _ _ hbt6; clear hown6 hgrow6 hat6 hlow hbt6)
        have hs6 : wr.heap.size + 1 + 1 + 1 + 1 ≤ w6.heap.size := by have h := HG6.out.size; simpa using h
        go_roundw
        case rel =>
          refine ⟨⟨k + 1, some ⟨gg, 0, none⟩, cap, ys ++ [(⟨⟨⟨#[122]⟩ ++ ⟨#[97 + UInt8.ofNat k]⟩, ⟨⟨0, [3], -1, []⟩, o, [], 0, []⟩⟩, ⟨some ⟨wr.heap.size, 0, none⟩, 1, none, 0, none, 0, none, 0⟩⟩ : ZeV)], by omega, by omega, by go_num, ?_, ?_, fun h => absurd h (by omega), ?_, ?_, ?_⟩, ?_⟩
          · rw [heap_setCell_same w6 bt 3 _ _ _ HB6.out, tbVal_zones]
          · have h := ownsRow_far (p := ⟨bt, 3, none⟩) (u := .slice (some ⟨gg, 0, none⟩) (k + 1) cap) HO6.out (by intro e; injection e with e; have := own_low HO6.out; simp only at e; omega)
            simpa [zecells] using h
          · have hg6 := own_low HO6.out
            have hot : ∀ b', b' ≠ bt → (w6.setCell ⟨bt, 3, none⟩ (.slice (some ⟨gg, 0, none⟩) (k + 1) cap)).heap[b']? = w6.heap[b']? := fun b' hb' => heap_setCell_other w6 ⟨bt, 3, none⟩ b' _ hb'
            have hsz : (w6.setCell ⟨bt, 3, none⟩ (.slice (some ⟨gg, 0, none⟩) (k + 1) cap)).heap.size = w6.heap.size := by simp [World.setCell]
            intro y hy
            rcases List.mem_append.1 hy with hy | hy
            · obtain ⟨m1, b', m2, m3, m4, m5, m6, m7⟩ := HM.out y hy
              refine ⟨m1, b', m2, m3, m4, by rw [hsz]; omega, ?_, (hot b' (by omega)).trans ((HLW.out b' m5 m6).trans m7)⟩
              intro e
              have e2 : b' = gg := by simpa [Value.ownBlock] using e
              rcases HT6.out with h | h
              · exact m6 (by rw [h, e2])
              · simp at h; omega
            · obtain rfl := List.mem_singleton.1 hy
              have hown0 : some wr.heap.size ≠ (Value.slice Az k cz).ownBlock := fun e => by
                have := own_lt_some HO.out e
                omega
              refine ⟨⟨⟨rfl, rfl⟩, ⟨rfl, rfl⟩, ⟨rfl, rfl⟩⟩, wr.heap.size, rfl, rfl, by omega, by rw [hsz]; omega, ?_, ?_⟩
              · intro e
                have e2 : wr.heap.size = gg := by simpa [Value.ownBlock] using e
                rcases HT6.out with h | h
                · exact hown0 (by rw [h, e2])
                · simp at h; omega
              · refine (hot _ (by omega)).trans ((HG6.out.block _ (by simp; omega) hown0).trans ?_)
                exact (Below.heap_alloc _ _ _ (by simp; omega)).trans ((Below.heap_alloc _ _ _ (by simp; omega)).trans ((Below.heap_alloc _ _ _ (by simp)).trans (heap_alloc_last wr _)))
          · rw [List.map_append, HMAP.out, take_next _ _ _ HX.out]
            unfold lawZes
            rw [List.mapIdx_append]
            have hl : (os.take k).length = k := by rw [List.length_take]; omega
            rw [hl]
            simp [lawZe]
          · exact (below_grown' ((((HBW.out.alloc (by omega) _).alloc (by simp; omega) _).alloc (by simp; omega) _).alloc (by simp; omega) _) (ownsRow_base' HOA.out (by omega)) (by simp; omega) HG6.out).setCell (p := ⟨bt, 3, none⟩) (by show w.heap.size ≤ bt; omega) _
          · have h0 := (heap_setCell_other w6 ⟨bt, 3, none⟩ w.heap.size (.slice (some ⟨gg, 0, none⟩) (k + 1) cap) (by show w.heap.size ≠ bt; omega)).trans (HLW.out w.heap.size hwl (own_ge HO.out _ (by omega)))
            exact ⟨by simp [World.setCell]; omega, fun i => (World.cell?_of_block (a := ⟨w.heap.size, i, none⟩) h0).trans (HRW.out.2 i)⟩
        case measure => simp [intOf]; omega
      · have HD : Hid (LwDone w iss os bt wr) := Lib.hid (LwRel.done (by rw [List.length_take]; omega) HBK.out HO.out HNI.out HM.out HMAP.out HBW.out)
        by_cases h5 : k < 5
        · have i1 : (k : Int) < 5 := by omega
          have i2 : ¬ (k : Int) < (n : Int) := by omega
          go_wp2_with fail
          go_meet
          exact ⟨HD.out, HRW.out⟩
        · have i1 : ¬ (k : Int) < 5 := by omega
          by_cases hn2 : k < n
          · have i2 : (k : Int) < (n : Int) := by omega
            go_wp2_with fail
            go_meet
            exact ⟨HD.out, HRW.out⟩
          · have i2 : ¬ (k : Int) < (n : Int) := by omega
            go_wp2_with fail
            go_meet
            exact ⟨HD.out, HRW.out⟩
  case rest =>
    obtain ⟨⟨Az, cz, ys, hb, hz, he, hbw⟩, hr⟩ := hcut
    have HBK := Lib.hid hb
    have HZO := Lib.hid hz
    have HE := Lib.hid he
    have HBW := Lib.hid hbw
    have HRB := Lib.hid (Row.of_blk hb)
    have HRW := Lib.hid hr
    have HKR := Lib.hid (wire_key hr)
    have HDI : Hid ((Tryz.prog.info? 23).map (·.size) = some (refCells key).length) := Lib.hid (by have := dig_info key HKY.out; rw [this]; simp [cellsB])
    clear hb hz he hbw hr hc32 hc33 H2B H2L H2R hA
    go_wp2_with (first
      | (with_reducible refine g_load 23 ?_; refine wpList_load_mid rfl _ _ rfl w.heap.size 0 rfl (refCells key) _ HKR.out Tryz.underlying23 rfl HDI.out ?_)
      | (with_reducible refine g_load 30 ?_; refine wpList_load_Row rfl _ _ rfl bt rfl (tbVal (tb0 iss []) (.slice Az (os.take 5).length cz)) HRB.out _ Tryz.underlying30 rfl (tb_info (tb0 iss []) _ rfl rfl) ?_))
    have hos5 : ∀ z ∈ os.take 5, 0 ≤ z ∧ z < 256 := fun z hz => hos z (List.mem_of_mem_take hz)
    have HFT := Lib.hid (flat_tb iss (os.take 5) (by rw [List.length_take]; omega) hos5)
    have HUT := Lib.hid (up_tb (os := os.take 5) (by rw [List.length_take]; omega) ys HE.out)
    have hm5 : (os.take 5).length = min 5 n := by rw [List.length_take, hn]
    have hys : ys.length = min 5 n := by have := congrArg List.length HE.out; simp [lawZes] at this; rw [this, hn]
    have hzz := HZO.out
    rw [hm5] at hzz
    rw [show tbVal (tb0 iss []) (.slice Az (min 5 n) cz) = tbVal (tb0 iss (lawZes (os.take 5))) (.slice Az (min 5 n) cz) from rfl]
    refine (seal_flat KR HK.out _ (HG.out.via HBW.out hw0) (by have := HBW.out.size; omega) key HKY.out (tb0 iss (lawZes (os.take 5))) Az (min 5 n) cz _ ys HFT.out HE.out.symm hys hzz HUT.out).mono ?_
    rintro e w3 ⟨A3, c3, ys3, rfl, hz3, he3, hb3⟩
    obtain ⟨T0, hT0⟩ : ∃ T, tb0 iss (lawZes (os.take 5)) = T := ⟨_, rfl⟩
    have hz0 : T0.zones = lawZes (os.take 5) := by rw [← hT0]; rfl
    have hf0 : TbFlat T0 := by rw [← hT0]; exact HFT.out
    rw [hT0] at he3 ⊢
    obtain ⟨m, hm⟩ : ∃ m, macF KR key (tbBytes T0) = m := ⟨_, rfl⟩
    have hm32 : m.length = 32 := by rw [← hm]; exact macF_length _ _ _
    rw [hm]
    obtain ⟨T1, hT1⟩ : ∃ T, { T0 with mac := m } = T := ⟨_, rfl⟩
    have hf1 : TbFlat T1 := by rw [← hT1]; exact ⟨hf0.issuer, hf0.version, hf0.withdraws, hf0.prev, hm32, hf0.first, hf0.num, hf0.flat, hf0.short⟩
    rw [hT1]
    have HF1 := Lib.hid hf1
    have HSZ1 : Hid (∀ v, (Tryz.prog.info? 30).map (·.size) = some (tbVal T1 v).size) := Lib.hid fun v => tb_info T1 v hf1.prev hf1.mac
    have HSS1 : Hid (∀ v, (tbVal zTb (.slice none 0 0)).size = (tbVal T1 v).size) := Lib.hid fun v => (tb_size zTb _ rfl rfl).trans (tb_size T1 v hf1.prev hf1.mac).symm
    have HZ3 := Lib.hid hz3
    have HE3 := Lib.hid he3
    have HB3 := Lib.hid hb3
    clear hz3 he3 hb3 hf1 HZO HRB HKR hys hzz
    go_wp2_with (first
      | (with_reducible refine g_alloc 30 ?_; refine wpList_alloc_as rfl _ rfl (tbVal zTb (.slice none 0 0)) zTb_cells ?_)
      | (with_reducible refine g_store 30 ?_; refine wpList_store_new rfl _ _ _ rfl (tbVal T1 (.slice A3 (min 5 n) c3)) rfl rfl 30 (tbVal zTb (.slice none 0 0)) rfl (HSZ1.out _) (HSS1.out _) (tbVal_one _ _ _ _) ?_; intro w4 hb4 hl4 hr4; have HB4 := Lib.hid hb4; have HR4 := Lib.hid hr4; have HZ4 := Lib.hid (HZ3.out.below hb4); clear hb4 hr4)
      | (with_reducible refine g_load 30 ?_; refine wpList_load_Row rfl _ _ rfl w3.heap.size rfl (tbVal T1 (.slice A3 (min 5 n) c3)) HR4.out _ Tryz.underlying30 rfl (HSZ1.out _) ?_))
    have hz1 : T1.zones = ys3.map (·.e) := by rw [HE3.out, ← hT1]
    have hy3 : ys3.length = min 5 n := by have := congrArg List.length HE3.out; rw [hz0] at this; simpa [lawZes, hn] using this
    have hu3 : NamesUp ys3 := up_tb (os := os.take 5) (by rw [List.length_take]; omega) ys3 (HE3.out.trans hz0)
    refine (tableBytes_flat T1 A3 (min 5 n) c3 _ ys3 w4 HF1.out hz1 hy3 HZ4.out hu3).mono ?_
    rintro e w5 ⟨⟨g5, c5, rfl, ho5⟩, hb5⟩
    have HO5 := Lib.hid ho5
    have HR5 := Lib.hid (HR4.out.keep hb5)
    have HB5 := Lib.hid hb5
    have HZ5 := Lib.hid (HZ4.out.below hb5)
    clear ho5 hb5 HZ4 HR4
    have hS5 : LwS w (wireC key iss (.slice A n c)) (tbVal (tb0 iss []) (.slice Az (os.take 5).length cz)) bt w3.heap.size g5 T1 (.slice A3 (min 5 n) c3) w5 := by
      obtain ⟨A', c', hv, _, _, _, hy⟩ := bytesAt_own HO5.out
      injection hv with e1 _ _
      rw [← e1] at hy
      exact ⟨below_trans (below_trans (below_trans HBW.out HB3.out) HB4.out) HB5.out, ((HRW.out.keep HB3.out).keep HB4.out).keep HB5.out, (((Row.of_blk HBK.out).keep HB3.out).keep HB4.out).keep HB5.out, HR5.out, hy⟩
    have HS5 := Lib.hid hS5
    have HLN := Lib.hid (tbBytes_len T1 HF1.out)
    have HMAC : Hid (macF KR key (tbBytes T1) = T1.mac) := Lib.hid (by rw [← hT1]; exact hm)
    have HV1 : Hid (T1.version = 1) := Lib.hid (by rw [← hT1, ← hT0]; rfl)
    have HM32 : Hid (T1.mac.length = 32) := Lib.hid HF1.out.mac
    have HZL : Hid (T1.zones.length = min 5 n) := Lib.hid (by rw [hz1, List.length_map, hy3])
    have HUP : Hid (∀ ys : List ZeV, ys.map (·.e) = T1.zones → NamesUp ys) := Lib.hid fun ys hys => up_tb (os := os.take 5) (by rw [List.length_take]; omega) ys (hys.trans (by rw [← hT1]; exact hz0))
    have HDM : Hid ((Tryz.prog.info? 23).map (·.size) = some (refCells T1.mac).length) := Lib.hid (by have := dig_info T1.mac HM32.out; rw [this]; simp [cellsB])
    obtain ⟨sb, hsb⟩ : ∃ sb, w3.heap.size = sb := ⟨_, rfl⟩
    rw [hsb] at HS5 ⊢
    obtain ⟨L, hLd⟩ : ∃ L, tbLt (iss % 16) (byteInts (tbBytes T1)) T1.mac = L := ⟨_, rfl⟩
    have HLD := Lib.hid hLd
    clear hS5 hLd hsb hm hT1 hT0 hz1 hy3 hu3 hm32 hz0 hf0 HBK HRW HB3 HB4 HB5 HR5 HZ5 HZ3 HE3 HO5 HE HBW HFT HUT
    go_upto_region 10 with fail
    go_cut [13] (fun p wx => ∃ lb s, p = pt lb ∧ LwL w (wireC key iss (.slice A n c)) sb g5 lb T1 (.slice A3 (min 5 n) c3) L s wx)
    case first =>
      have hS0 := HS5.out.drew
      have hln := HLN.out
      have hgl := bytesAt_lt hS0.bys (by omega)
      refine wp_region_held_drew (S := LwS w (wireC key iss (.slice A n c)) (tbVal (tb0 iss []) (.slice Az (os.take 5).length cz)) bt sb g5 T1 (.slice A3 (min 5 n) c3)) (by kernel_rfl) hS0 (fun hH0 => ?_)
      refine wpAnyH_take_dst (i := 0) (v := pt bt) (d := 78) rfl rfl (by kernel_rfl) (by kernel_rfl) (by kernel_rfl) (fun _ _ _ h => h) (Or.inl ⟨by rfl, ?hy0_1⟩) (by assumption) ?_
      case hy0_1 => intro w' hSw; clear hSw; first | (go_simp; done) | (go_simp; with_reducible rfl)
      try simp only [Act.put, List.setIfInBounds_toArray, List.set_cons_zero, List.set_cons_succ]
      refine wpAnyH_take_dst (i := 1) (v := I (iss % 16)) (d := 79) rfl rfl (by kernel_rfl) (by kernel_rfl) (by kernel_rfl) (fun _ _ _ h => h) (Or.inl ⟨by rfl, ?hy1_2⟩) (by assumption) ?_
      case hy1_2 => intro w' hSw; have k0 : w'.cell? ⟨bt, 0, none⟩ = some (I (iss % 16)) := hSw.tb.2 0; clear hSw; first | (go_simp; done) | (go_simp; with_reducible rfl)
      try simp only [Act.put, List.setIfInBounds_toArray, List.set_cons_zero, List.set_cons_succ]
      refine wpAnyH_take_dst (i := 2) (v := .slice (some ⟨g5, 0, none⟩) (tbBytes T1).length c5) (d := 80) rfl rfl (by kernel_rfl) (by kernel_rfl) (by kernel_rfl) (fun _ _ _ h => h) (Or.inl ⟨by rfl, ?hy2_3⟩) (by assumption) ?_
      case hy2_3 => intro w' hSw; clear hSw; first | (go_simp; done) | (go_simp; with_reducible rfl)
      try simp only [Act.put, List.setIfInBounds_toArray, List.set_cons_zero, List.set_cons_succ]
      refine wpAnyH_take_dst (i := 4) (v := .pointer (some ⟨sb, 36, none⟩)) (d := 82) rfl rfl (by kernel_rfl) (by kernel_rfl) (by kernel_rfl) (fun _ _ _ h => h) (Or.inl ⟨by rfl, ?hy4_4⟩) (by assumption) ?_
      case hy4_4 => intro w' hSw; clear hSw; first | (go_simp; done) | (go_simp; with_reducible rfl)
      try simp only [Act.put, List.setIfInBounds_toArray, List.set_cons_zero, List.set_cons_succ]
      refine wpAnyH_take_dst (i := 5) (v := _) (d := 83) rfl rfl (by kernel_rfl) (by kernel_rfl) (by kernel_rfl) (fun _ _ _ h => h) (yieldsIf_load_mid (by rfl) _ _ rfl sb 36 rfl (refCells T1.mac) _ (fun w' h => tb_mac T1 _ h.sb HF1.out.prev) Tryz.underlying23 rfl HDM.out) (by assumption) ?_
      try simp only [Act.put, List.setIfInBounds_toArray, List.set_cons_zero, List.set_cons_succ]
      refine wpAnyH_ready (rs := [3, 7]) (by kernel_rfl) (by simp) ?_
      refine AllReadyH.cons rfl (fun K hK => ?_) (AllReadyH.cons rfl (fun K hK => ?_) AllReadyH.nil)
      · go_simp
        refine (octets_some _ g5 0 _ c5 (byteInts (tbBytes T1)) (byteInts_len _) (by omega) (byteInts_range _) (bytesAt_lt hS0.bys (by omega)) (byteInts_cells hS0.bys)).mono ?_
        rintro e w6 ⟨v6, rfl, ho6, hb6⟩
        obtain ⟨g6, c6, rfl, hg6⟩ := own_form ho6 (by omega)
        have hlow := own_ge ho6
        have hS6 := hS0.below hb6
        have hbl : Tryz.prog.built 57 [(0, I 17), (1, I 1), (2, I 2), (5, I (iss % 16)), (6, I 1), (18, .slice (some ⟨g6, 0, none⟩) (tbBytes T1).length c6), (19, .agg (refCells T1.mac).toArray)] = some (ltVal L ⟨none, none, some ⟨g6, 0, none⟩, 0, 0, c6⟩) := by have h := built_lt (iss % 16) (some ⟨g6, 0, none⟩) c6 (byteInts (tbBytes T1)) T1.mac HM32.out; rw [byteInts_len, HLD.out] at h; exact h
        have hi6 : IntsAt w6 w6.heap.size (some ⟨g6, 0, none⟩) L.cells := by rw [← HLD.out]; exact ints_of_own ho6 (byteInts_len _)
        have hr32 : L.ref.length = 32 := by rw [← HLD.out]; exact HM32.out
        refine hK.out _ _ hS6 (fun hHeld => ?_)
        clear hHeld hK K
        try simp only [Act.put, List.setIfInBounds_toArray, List.set_cons_zero, List.set_cons_succ]
        refine wpAnyH_take_dst (i := 6) (v := _) (d := 84) rfl rfl (by kernel_rfl) (by kernel_rfl) (by kernel_rfl) (fun _ _ _ h => h) (yieldsIf_build (by rfl) 57 _ rfl [(0, I 17), (1, I 1), (2, I 2), (5, I (iss % 16)), (6, I 1), (18, .slice (some ⟨g6, 0, none⟩) (tbBytes T1).length c6), (19, .agg (refCells T1.mac).toArray)] (by kernel_rfl) (ltVal L ⟨none, none, some ⟨g6, 0, none⟩, 0, 0, c6⟩) hbl) (by assumption) ?_
        try simp only [Act.put, List.setIfInBounds_toArray, List.set_cons_zero, List.set_cons_succ]
        refine wpAnyH_ready (rs := [7]) (by kernel_rfl) (by simp) ?_
        refine AllReadyH.cons rfl (fun K hK => ?_) AllReadyH.nil
        refine lw_step_alloc (o := ⟨some 13, .alloc 57, _, _, _, none⟩) rfl 57 rfl (ltVal zLt zSl) lt_zero ?_
        have hSa := hS6.alloc (.cells (ltVal zLt zSl) 57)
        have hz := heap_alloc_last w6 (.cells (ltVal zLt zSl) 57)
        refine hK.out _ _ hSa (fun hHeld => ?_)
        clear hHeld hK K
        try simp only [Act.put, List.setIfInBounds_toArray, List.set_cons_zero, List.set_cons_succ]
        refine wpAnyH_ready (rs := [8]) (by kernel_rfl) (by simp) ?_
        refine AllReadyH.cons rfl (fun K hK => ?_) AllReadyH.nil
        refine lw_step_store (o := ⟨none, .store 57 (.tmp 13) (.tmp 84), _, _, _, none⟩) rfl 57 _ _ rfl w6.heap.size (ltVal L ⟨none, none, some ⟨g6, 0, none⟩, 0, 0, c6⟩) rfl rfl 57 (ltVal zLt zSl) hz (size62 _ _ hr32) (sz_eq _ _ hr32) (ltVal_one _ _) ?_
        have hbF : Below w6.heap.size w6 ((w6.alloc (.cells (ltVal zLt zSl) 57)).setRow w6.heap.size (ltVal L ⟨none, none, some ⟨g6, 0, none⟩, 0, 0, c6⟩)) := below_setRow' (below_var w6 _) (Nat.le_refl _) _
        have hSF := hS6.below hbF
        have hLF : LwL w (wireC key iss (.slice A n c)) sb g5 w6.heap.size T1 (.slice A3 (min 5 n) c3) L ⟨none, none, some ⟨g6, 0, none⟩, 0, 0, c6⟩ _ := ⟨hSF.lo, hSF.wire, hSF.sb, hSF.bys, Row.of_blk (setRow_heap _ _ _ _ _ _ hz), (hi6.keep hbF).more hbF.size⟩
        refine hK.out _ _ hSF (fun hHeld => ?_)
        clear hHeld hK K
        try simp only [Act.put]
        refine wpAnyH_done (by kernel_rfl) ?_ _
        clear hH0
        go_wp2_with fail
        go_meet
        exact ⟨_, ⟨none, none, some ⟨g6, 0, none⟩, 0, 0, c6⟩, rfl, hLF⟩
      · refine lw_step_alloc (o := ⟨some 13, .alloc 57, _, _, _, none⟩) rfl 57 rfl (ltVal zLt zSl) lt_zero ?_
        have hSa := hS0.alloc (.cells (ltVal zLt zSl) 57)
        have hz := heap_alloc_last w5.drew (.cells (ltVal zLt zSl) 57)
        refine hK.out _ _ hSa (fun hHeld => ?_)
        clear hHeld hK K
        try simp only [Act.put, List.setIfInBounds_toArray, List.set_cons_zero, List.set_cons_succ]
        refine wpAnyH_ready (rs := [3]) (by kernel_rfl) (by simp) ?_
        refine AllReadyH.cons rfl (fun K hK => ?_) AllReadyH.nil
        go_simp
        refine (octets_some _ g5 0 _ c5 (byteInts (tbBytes T1)) (byteInts_len _) (by omega) (byteInts_range _) (bytesAt_lt hSa.bys (by omega)) (byteInts_cells hSa.bys)).mono ?_
        rintro e w6 ⟨v6, rfl, ho6, hb6⟩
        obtain ⟨g6, c6, rfl, hg6⟩ := own_form ho6 (by omega)
        have hlow := own_ge ho6
        have hS6 := hSa.below hb6
        have hbl : Tryz.prog.built 57 [(0, I 17), (1, I 1), (2, I 2), (5, I (iss % 16)), (6, I 1), (18, .slice (some ⟨g6, 0, none⟩) (tbBytes T1).length c6), (19, .agg (refCells T1.mac).toArray)] = some (ltVal L ⟨none, none, some ⟨g6, 0, none⟩, 0, 0, c6⟩) := by have h := built_lt (iss % 16) (some ⟨g6, 0, none⟩) c6 (byteInts (tbBytes T1)) T1.mac HM32.out; rw [byteInts_len, HLD.out] at h; exact h
        have hi6 : IntsAt w6 w6.heap.size (some ⟨g6, 0, none⟩) L.cells := by rw [← HLD.out]; exact ints_of_own ho6 (byteInts_len _)
        have hr32 : L.ref.length = 32 := by rw [← HLD.out]; exact HM32.out
        refine hK.out _ _ hS6 (fun hHeld => ?_)
        clear hHeld hK K
        try simp only [Act.put, List.setIfInBounds_toArray, List.set_cons_zero, List.set_cons_succ]
        refine wpAnyH_take_dst (i := 6) (v := _) (d := 84) rfl rfl (by kernel_rfl) (by kernel_rfl) (by kernel_rfl) (fun _ _ _ h => h) (yieldsIf_build (by rfl) 57 _ rfl [(0, I 17), (1, I 1), (2, I 2), (5, I (iss % 16)), (6, I 1), (18, .slice (some ⟨g6, 0, none⟩) (tbBytes T1).length c6), (19, .agg (refCells T1.mac).toArray)] (by kernel_rfl) (ltVal L ⟨none, none, some ⟨g6, 0, none⟩, 0, 0, c6⟩) hbl) (by assumption) ?_
        try simp only [Act.put, List.setIfInBounds_toArray, List.set_cons_zero, List.set_cons_succ]
        have hz6 := (hb6.block _ (lt_of_blk hz)).trans hz
        refine wpAnyH_ready (rs := [8]) (by kernel_rfl) (by simp) ?_
        refine AllReadyH.cons rfl (fun K hK => ?_) AllReadyH.nil
        refine lw_step_store (o := ⟨none, .store 57 (.tmp 13) (.tmp 84), _, _, _, none⟩) rfl 57 _ _ rfl w5.drew.heap.size (ltVal L ⟨none, none, some ⟨g6, 0, none⟩, 0, 0, c6⟩) rfl rfl 57 (ltVal zLt zSl) hz6 (size62 _ _ hr32) (sz_eq _ _ hr32) (ltVal_one _ _) ?_
        have hbF : Below w5.drew.heap.size w5.drew (w6.setRow w5.drew.heap.size (ltVal L ⟨none, none, some ⟨g6, 0, none⟩, 0, 0, c6⟩)) := below_setRow' (below_trans (below_var w5.drew _) hb6) (Nat.le_refl _) _
        have hSF := hS0.below hbF
        have hgn : g6 ≠ w5.drew.heap.size := fun e => hlow g6 (by rw [e]; exact lt_of_blk hz) rfl
        have hLF : LwL w (wireC key iss (.slice A n c)) sb g5 w5.drew.heap.size T1 (.slice A3 (min 5 n) c3) L ⟨none, none, some ⟨g6, 0, none⟩, 0, 0, c6⟩ _ := ⟨hSF.lo, hSF.wire, hSF.sb, hSF.bys, Row.of_blk (setRow_heap _ _ _ _ _ _ hz6), IntsAt.other hi6 hgn (by simp [World.setRow]) fun j hj => setRow_other _ _ j _ hj⟩
        refine hK.out _ _ hSF (fun hHeld => ?_)
        clear hHeld hK K
        try simp only [Act.put]
        refine wpAnyH_done (by kernel_rfl) ?_ _
        clear hH0
        go_wp2_with fail
        go_meet
        exact ⟨_, ⟨none, none, some ⟨g6, 0, none⟩, 0, 0, c6⟩, rfl, hLF⟩
    case rest =>
      obtain ⟨lb, s, rfl, hL⟩ := hcut
      have HL := Lib.hid hL
      have HLR : Hid (L.ref.length = 32) := Lib.hid (by rw [← HLD.out]; exact HM32.out)
      have HLC : Hid (L.cells = byteInts (tbBytes T1)) := Lib.hid (by rw [← HLD.out]; rfl)
      have HLF : Hid (L.ref = T1.mac) := Lib.hid (by rw [← HLD.out]; rfl)
      have HIS : Hid (0 ≤ iss % 16 ∧ iss % 16 < 16) := Lib.hid ⟨Int.emod_nonneg _ (by decide), Int.emod_lt_of_pos _ (by decide)⟩
      have hb17 := bytes17 (iss := iss % 16) (zs := byteInts (tbBytes T1)) (mac := T1.mac) HIS.out (by rw [byteInts_len]; have := HLN.out; omega) (fun z hz => by have := byteInts_range _ z hz; omega) (by rw [byteInts_len]; have := HLN.out; omega) HM32.out s wc (by have h := hL.ints; rw [HLC.out] at h; exact h)
      rw [HLD.out] at hb17
      have HB17 := Lib.hid hb17
      clear hL hb17 HS5
      go_wp2_with (with_reducible refine g_load 57 ?_; refine wpList_load_Row rfl _ _ rfl lb rfl (ltVal L s) HL.out.lt _ Tryz.underlying57 rfl (size62 _ _ HLR.out) ?_)
      refine HB17.out.mono ?_
      rintro e w11 ⟨h11, hb11⟩
      rw [if_pos rfl] at h11
      obtain ⟨v11, rfl, hv11⟩ := h11
      obtain ⟨A11, c11, rfl, hlc11, hcl11, hn11, hy11⟩ := bytesAt_own hv11
      have hr17 := read17 (iss := iss % 16) (zs := byteInts (tbBytes T1)) (mac := T1.mac) HIS.out (by rw [byteInts_len]; have := HLN.out; omega) (fun z hz => by have := byteInts_range _ z hz; omega) (by rw [byteInts_len]; have := HLN.out; omega) HM32.out A11 (ltBytes L []) c11 w11 (by rw [HLD.out]) hlc11 (by unfold maxLen at hcl11; omega) hy11 hn11
      rw [HLD.out] at hr17
      have HR17 := Lib.hid hr17
      have HL11 := Lib.hid (HL.out.below hb11)
      obtain ⟨N11, hN11⟩ : ∃ N, (ltBytes L []).length = N := ⟨_, rfl⟩
      rw [hN11] at HR17 ⊢
      clear hb11 hv11 hlc11 hcl11 hn11 hy11 hr17 hN11 HL HB17
      go_wp2_with fail
      refine HR17.out.mono ?_
      rintro e w12 ⟨s2, rfl, hm2, hb12⟩
      obtain ⟨g2, e2, he2, hg2⟩ := own_form hm2.cells (by rw [HLC.out, byteInts_len]; have := HLN.out; omega)
      injection he2 with hs2 _ hs3
      have hi2 := ints_of_own hm2.cells rfl
      have HI2 := Lib.hid hi2
      have HL12 := Lib.hid (HL11.out.below hb12)
      have HS2 := Lib.hid hs2
      clear hb12 hi2 hm2 HR17 HL11 hs2 hs3
      go_upto_region 13 with (first
        | (with_reducible refine at_alloc 57 ?_; refine wpList_alloc_as rfl _ rfl (ltVal zLt zSl) lt_zero ?_)
        | (with_reducible refine g_store 57 ?_; refine lw_store_new rfl _ _ _ rfl (ltVal L s2) rfl rfl 57 (ltVal zLt zSl) rfl (size62 _ _ HLR.out) (sz_eq _ _ HLR.out) (ltVal_one _ _) ?_; intro w13 hb13 hl13 hg13; have HB13 := Lib.hid hb13; have HG13 := Lib.hid hg13; clear hb13 hg13))
      have hr13 := Row.of_blk HG13.out
      have HL13 := Lib.hid (HL12.out.next HB13.out hr13 ((HI2.out.keep HB13.out).more HB13.out.size))
      have hc29 : w13.cell? ⟨w12.heap.size, 29, none⟩ = some (.slice (some ⟨g2, 0, none⟩) (tbBytes T1).length s2.e) := (hr13.2 29).trans (by rw [← HS2.out, ← byteInts_len, ← HLC.out]; exact lt_get29 _ _ _ _)
      obtain ⟨bb, hbb⟩ : ∃ b, w12.heap.size = b := ⟨_, rfl⟩
      have hg2' : g2 < w13.heap.size := by omega
      have HI13 : Hid (IntsAt w13 w13.heap.size (some ⟨g2, 0, none⟩) (byteInts (tbBytes T1))) := Lib.hid (by have h := HL13.out.ints; rw [HS2.out, HLC.out] at h; exact h)
      clear hr13 hg2
      rw [hbb] at hc29 HL13 ⊢
      clear HG13 HB13 HL12 HI2 hl13 hbb
      go_wp2_with fail
      refine (bytesOf_some w13 g2 0 _ s2.e (byteInts (tbBytes T1)) (byteInts_len _) (by have := HLN.out; omega) (byteInts_range _) hg2' (ints_cells HI13.out)).mono ?_
      rintro e w14 ⟨v14, rfl, ho14, hb14⟩
      rw [byteInts_u8] at ho14
      obtain ⟨g14, c14, rfl, hg14⟩ := own_form ho14 (by have := HLN.out; omega)
      obtain ⟨A', c', hv, hlc14, hcl14, _, hy14⟩ := bytesAt_own ho14
      injection hv with e1 _ e3
      rw [← e1] at hy14
      rw [← e3] at hlc14 hcl14
      have HRD := Lib.hid (tableRead_flat w14 T1 (min 5 n) _ g14 0 c14 HF1.out HZL.out rfl HUP.out hg14 hlc14 (by unfold maxLen at hcl14; omega) (bytesAt_cells hy14))
      have HL14 := Lib.hid (HL13.out.below hb14)
      clear hb14 hy14 hlc14 hcl14 ho14 e1 e3 HL13 HI13 hc29 hg2' hg14
      go_wp2_with fail
      refine HRD.out.mono ?_
      rintro e w15 ⟨A15, c15, ys15, rfl, hz15, he15, hb15⟩
      obtain ⟨T2, hT2⟩ : ∃ T, { T1 with mac := zero32 } = T := ⟨_, rfl⟩
      have hT21 : { T2 with mac := T1.mac } = T1 := by rw [← hT2]
      have HSZ2 : Hid (∀ v, (Tryz.prog.info? 30).map (·.size) = some (tbVal T2 v).size) := Lib.hid fun v => by rw [← hT2]; exact tb_info _ v HF1.out.prev rfl
      have HSS2 : Hid (∀ v, (tbVal zTb (.slice none 0 0)).size = (tbVal T2 v).size) := Lib.hid fun v => by rw [← hT2]; exact (tb_size zTb _ rfl rfl).trans (tb_size { T1 with mac := zero32 } v HF1.out.prev rfl).symm
      have HP2 : Hid (T2.prev.length = 32) := Lib.hid (by rw [← hT2]; exact HF1.out.prev)
      have HM2 : Hid (T2.mac.length = 32) := Lib.hid (by rw [← hT2]; rfl)
      rw [hT2]
      have HT21 := Lib.hid hT21
      have HZ15 := Lib.hid hz15
      have HE15 := Lib.hid he15
      have HB15 := Lib.hid hb15
      clear hT2 hT21 hz15 he15 hb15 HRD
      go_upto_region 14 with (first
        | (with_reducible refine at_alloc 30 ?_; refine wpList_alloc_as rfl _ rfl (tbVal zTb (.slice none 0 0)) tb_zero ?_)
        | (with_reducible refine g_store 30 ?_; refine lw_store_new rfl _ _ _ rfl (tbVal T2 (.slice A15 (min 5 n) c15)) rfl rfl 30 (tbVal zTb (.slice none 0 0)) rfl (HSZ2.out _) (HSS2.out _) (tbVal_one _ _ _ _) ?_; intro w16 hb16 hl16 hg16; have HB16 := Lib.hid hb16; have HG16 := Lib.hid hg16; clear hb16 hg16))
      obtain ⟨W17, hW17⟩ : ∃ W, w16.setCells w15.heap.size 36 (cellsB T1.mac).toList = W := ⟨_, rfl⟩
      have HL15 := Lib.hid ((HL14.out.below HB15.out).below HB16.out)
      have hg17 : W17.heap[w15.heap.size]? = some (.cells (tbVal T1 (.slice A15 (min 5 n) c15)) 30 (0, 0)) := by
        rw [← hW17]
        have h := setCells_blkB (cellsB T1.mac).toList w16 w15.heap.size 36 _ _ HG16.out
        rw [show (cellsB T1.mac).toList = refCells T1.mac from rfl, tb_macPut T2 _ T1.mac HP2.out HM2.out HM32.out, HT21.out] at h
        exact h
      have hb17 : Below w15.heap.size w15 W17 := by rw [← hW17]; exact below_setCellsB (Nat.le_refl _) _ _ _ HB16.out
      have HN17 := Lib.hid (HL14.out.got HB15.out HZ15.out hb17 hg17)
      have HT16 : Hid (w16.there w15.heap.size 36 (cellsB T1.mac).size) := Lib.hid fun j hj => ⟨by rw [cell_of_row _ w15.heap.size _ _ _ _ HG16.out]; have hs := tb_size T2 (.slice A15 (min 5 n) c15) HP2.out HM2.out; rw [cellsB_size, HM32.out] at hj; rw [Array.getElem?_eq_getElem (by omega)]; rfl, frozen_of_row _ _ _ _ _ HG16.out⟩
      have HRM : Hid (w16.rangeAt bb 30 (refCells T1.mac)) := Lib.hid (by have h := lt_macR HL15.out.lt; rw [HLF.out] at h; exact h)
      obtain ⟨gb, hgb⟩ : ∃ g, w15.heap.size = g := ⟨_, rfl⟩
      rw [hgb] at HN17 HT16 hW17 ⊢
      have HW17 := Lib.hid hW17
      have HGR := Lib.hid (Row.of_blk HN17.out.got)
      have HKR := Lib.hid (wire_key HN17.out.wire)
      have HMI := Lib.hid (dig_info T1.mac HM32.out)
      have hp17 : 0 < W17.heap.size := Nat.lt_of_lt_of_le hw0 HN17.out.lo.size
      obtain ⟨lo17, hz17⟩ := HN17.out.zs
      have hy15 : ys15.length = min 5 n := by have h := congrArg List.length HE15.out; rw [List.length_map, HZL.out] at h; exact h
      have HY15 := Lib.hid hy15
      have HAP := Lib.hid (append_yes KR HK.out W17 (HG.out.via HN17.out.lo hw0) hp17 key HKY.out T1 A15 (min 5 n) c15 lo17 ys15 HF1.out HE15.out.symm hy15 hz17 (HUP.out _ HE15.out) HV1.out (by rw [HMAC.out]; simp))
      clear hW17 hg17 hb17 hgb HL15 HB15 HB16 HG16 hl16 HZ15 HL14 HT21 HSZ2 HSS2 HP2 HM2 hz17 hy15
      go_upto_region 16 with fail
      go_wp2_with (first
        | (with_reducible refine g_load 23 ?_; refine wpList_load_mid rfl _ _ rfl bb 30 rfl (refCells T1.mac) _ HRM.out Tryz.underlying23 rfl HDM.out ?_)
        | (with_reducible refine g_load 23 ?_; refine wpList_load_mid rfl _ _ rfl w.heap.size 0 rfl (refCells key) _ HKR.out Tryz.underlying23 rfl HDI.out ?_)
        | (with_reducible refine g_store 23 ?_; refine wpList_store_mid rfl _ _ _ rfl gb 36 (cellsB T1.mac) rfl rfl HT16.out HMI.out (cellsB_one _) ?_; rw [HW17.out])
        | (with_reducible refine g_load 30 ?_; refine wpList_load_Row rfl _ _ rfl gb rfl (tbVal T1 (.slice A15 (min 5 n) c15)) HGR.out _ Tryz.underlying30 rfl (HSZ1.out _) ?_))
      refine HAP.out.mono ?_
      rintro e w18 ⟨⟨g18, c18, rfl⟩, hb18⟩
      have HN18 := Lib.hid (HN17.out.below hb18)
      have HG18 := Lib.hid (Row.of_blk HN18.out.got)
      clear hb18 HAP HGR HKR hp17 HT16 HRM HW17 HN17
      go_upto_region 19 with (first
        | (with_reducible refine at_alloc 30 ?_; refine wpList_alloc_as rfl _ rfl (tbVal zTb (.slice none 0 0)) tb_zero ?_)
        | (with_reducible refine g_load 30 ?_; refine wpList_load_Row rfl _ _ rfl gb rfl (tbVal T1 (.slice A15 (min 5 n) c15)) HG18.out _ Tryz.underlying30 rfl (HSZ1.out _) ?_)
        | (with_reducible refine g_store 30 ?_; refine lw_store_new rfl _ _ _ rfl (tbVal T1 (.slice A15 (min 5 n) c15)) rfl rfl 30 (tbVal zTb (.slice none 0 0)) rfl (HSZ1.out _) (HSS1.out _) (tbVal_one _ _ _ _) ?_; intro w19 hb19 hl19 hg19; have HB19 := Lib.hid hb19; have HG19 := Lib.hid hg19; clear hb19 hg19))
      obtain ⟨i, hi32, him2⟩ : ∃ i : Nat, i < 32 ∧ bit.tmod 32 = (i : Int) := ⟨(bit.tmod 32).toNat, by have := Int.tmod_lt_of_pos bit (show (0 : Int) < 32 by decide); omega, by have := Int.tmod_nonneg 32 hbit; omega⟩
      obtain ⟨nb, hnb⟩ : ∃ g, w18.heap.size = g := ⟨_, rfl⟩
      obtain ⟨x, hx⟩ : ∃ x, T1.mac[i]?.getD 0 = x := ⟨_, rfl⟩
      have hcx : w19.cell? ⟨nb, 36 + i, none⟩ = some (.int .u8 (x.toNat : Int)) := by
        rw [← hnb, cell_of_row _ w18.heap.size _ _ _ _ HG19.out]
        have h := lw_mac_at T1 (.slice A15 (min 5 n) c15) i HF1.out.prev (by rw [HM32.out]; exact hi32)
        rw [hx] at h
        exact h
      have hcf := frozen_of_row w19 w18.heap.size (36 + i) _ _ HG19.out
      obtain ⟨W20, hW20⟩ : ∃ W, w19.setCell ⟨w18.heap.size, 36 + i, none⟩ (Extern.Stop.cell (xb 1 x)) = W := ⟨_, rfl⟩
      obtain ⟨T3, hT3⟩ : ∃ T, { T1 with mac := T1.mac.set i (xb 1 x) } = T := ⟨_, rfl⟩
      have hg20 : W20.heap[w18.heap.size]? = some (.cells (tbVal T3 (.slice A15 (min 5 n) c15)) 30 (0, 0)) := by
        rw [← hW20, heap_setCell_same w19 w18.heap.size (36 + i) _ _ _ HG19.out, tb_mac_set _ _ _ _ HF1.out.prev, hT3]
      have hb20 : Below w18.heap.size w18 W20 := by rw [← hW20]; exact HB19.out.setCell (p := ⟨w18.heap.size, 36 + i, none⟩) (Nat.le_refl _) _
      have HN20 := Lib.hid (HN18.out.below hb20)
      have hf3 : TbFlat T3 := by rw [← hT3]; exact ⟨HF1.out.issuer, HF1.out.version, HF1.out.withdraws, HF1.out.prev, by rw [List.length_set]; exact HM32.out, HF1.out.first, HF1.out.num, HF1.out.flat, HF1.out.short⟩
      have HSZ3 : Hid (∀ v, (Tryz.prog.info? 30).map (·.size) = some (tbVal T3 v).size) := Lib.hid fun v => tb_info T3 v hf3.prev hf3.mac
      obtain ⟨lo20, hz20⟩ := HN20.out.zs
      have hnm : (!(T3.mac == macF KR key (tbBytes T3))) = true := by
        rw [← hT3]
        show (!(T1.mac.set i (xb 1 x) == macF KR key (tbBytes T1))) = true
        rw [HMAC.out, ← hx]
        exact set_ne _ _ (by rw [HM32.out]; exact hi32)
      have HAB := Lib.hid (append_bad KR HK.out W20 (HG.out.via HN20.out.lo hw0) (Nat.lt_of_lt_of_le hw0 HN20.out.lo.size) key HKY.out T3 A15 (min 5 n) c15 lo20 ys15 hf3 (by rw [← hT3]; exact HE15.out.symm) HY15.out hz20 (HUP.out _ HE15.out) (by rw [← hT3]; exact HV1.out) hnm)
      have HG20 := Lib.hid (Row.of_blk hg20)
      have HKR := Lib.hid (wire_key HN20.out.wire)
      rw [hnb] at HG20 hcf hW20 ⊢
      have HW20 := Lib.hid hW20
      clear hx hW20 hT3 hg20 hb20 hf3 hz20 hnm hnb HG19 HB19 hl19 HG18
      go_upto_region 20 with fail
      have e20 : w19.setCell ⟨nb, 36 + i, none⟩ (.int .u8 (bits BinOp.xor .u8 (x.toNat : Int) 1)) = W20 := by rw [← xb_cell]; exact HW20.out
      rw [e20]
      clear e20 HW20 hcx hcf
      go_wp2_with (first
        | (with_reducible refine g_load 23 ?_; refine wpList_load_mid rfl _ _ rfl w.heap.size 0 rfl (refCells key) _ HKR.out Tryz.underlying23 rfl HDI.out ?_)
        | (with_reducible refine g_load 30 ?_; refine wpList_load_Row rfl _ _ rfl nb rfl (tbVal T3 (.slice A15 (min 5 n) c15)) HG20.out _ Tryz.underlying30 rfl (HSZ3.out _) ?_))
      refine HAB.out.mono ?_
      rintro e w21 ⟨rfl, hb21⟩
      have HN21 := Lib.hid (HN20.out.below hb21)
      have HG21 := Lib.hid (Row.of_blk HN21.out.got)
      obtain ⟨lo21, hz21⟩ := HN21.out.zs
      have HTB := Lib.hid (tableBytes_flat T1 A15 (min 5 n) c15 lo21 ys15 w21 HF1.out HE15.out.symm HY15.out hz21 (HUP.out _ HE15.out))
      clear hb21 hz21 HN20 HG20 HAB HKR HSZ3
      go_wp2_with (with_reducible refine g_load 30 ?_; refine wpList_load_Row rfl _ _ rfl gb rfl (tbVal T1 (.slice A15 (min 5 n) c15)) HG21.out _ Tryz.underlying30 rfl (HSZ1.out _) ?_)
      refine HTB.out.mono ?_
      rintro e w22 ⟨⟨g22, c22, rfl, ho22⟩, hb22⟩
      have hy22 : BytesAt w22 w22.heap.size (some ⟨g22, 0, none⟩) (tbBytes T1) := by
        obtain ⟨A', c', hv, _, _, _, hy⟩ := bytesAt_own ho22
        injection hv with e1 _ _
        rw [← e1] at hy
        exact hy
      have HZ22 : Hid (LwZ w (wireC key iss (.slice A n c)) sb g5 bb gb g22 T1 (.slice A3 (min 5 n) c3) L s2 T1 (.slice A15 (min 5 n) c15) ys15 w22.drew) := Lib.hid (LwZ.below ⟨HN21.out.below hb22, hy22⟩ (Below.refl _ w22).drew)
      obtain ⟨X, hX⟩ : ∃ X, tbBytes T1 = X := ⟨_, rfl⟩
      obtain ⟨hs, hhs⟩ : ∃ h, (⟨(hexB T1.mac).toArray⟩ : ByteArray) = h := ⟨_, rfl⟩
      have HSB : Hid (∀ W, LwZ w (wireC key iss (.slice A n c)) sb g5 bb gb g22 T1 (.slice A3 (min 5 n) c3) L s2 T1 (.slice A15 (min 5 n) c15) ys15 W → Calls Tryz.prog 13 #[.slice (some ⟨g22, 0, none⟩) X.length c22, .slice (some ⟨g5, 0, none⟩) X.length c5] W (Gives (.bool true) W)) := Lib.hid fun W h => by
        have h2 := sameBytes_any (some ⟨g22, 0, none⟩) (some ⟨g5, 0, none⟩) c22 c5 (tbBytes T1) (tbBytes T1) W h.2 h.1.bys (by have := HLN.out; omega)
        rw [beq_self_eq_true, hX] at h2
        exact h2
      have HKC : Hid (∀ W, LwZ w (wireC key iss (.slice A n c)) sb g5 bb gb g22 T1 (.slice A3 (min 5 n) c3) L s2 T1 (.slice A15 (min 5 n) c15) ys15 W → Calls Tryz.prog 14 #[.agg (refCells key).toArray, .slice (some ⟨g5, 0, none⟩) X.length c5] W (Gives (.agg (refCells T1.mac).toArray) W)) := Lib.hid fun W h => by
        have h2 := keyed_some KR HK.out W (HG.out.via h.1.lo hw0) key (tbBytes T1) HKY.out (by have := HLN.out; omega) (by have := HLN.out; omega) g5 0 c5 (bytesAt_lt h.1.bys (by have := HLN.out; omega)) (bytesAt_cells h.1.bys)
        rw [HMAC.out, hX] at h2
        exact h2
      have HXR : Hid (∀ W, Calls Tryz.prog 15 #[.agg (refCells T1.mac).toArray] W (Gives (.string hs) W)) := Lib.hid fun W => by
        have h2 := hexR_any W T1.mac HM32.out
        rw [hhs] at h2
        exact h2
      have HXD : Hid (∀ W, Calls Tryz.prog 16 #[.agg (refCells T1.mac).toArray] W (Gives (.string hs) W)) := Lib.hid fun W => by
        have h2 := hexD_any W T1.mac HM32.out
        rw [hhs] at h2
        exact h2
      have HEQ : Hid (∀ W, (binOp .eql 23 (.agg (refCells T1.mac).toArray) (.agg (refCells T1.mac).toArray)).run Tryz.prog W = .ok (.bool true) W) := Lib.hid fun W => by
        have h := run_equalIn_bytes W 9998 23 5 32 Tryz.underlying23 Tryz.underlying5 (fun w => size_u8 w) T1.mac T1.mac HM32.out HM32.out
        rw [run_eql_struct]
        unfold refCells
        rw [h, beq_self_eq_true]
        rfl
      rw [hX]
      clear hX hhs ho22 hb22 hy22 HTB HN21 HG21
      go_upto_region 22 with fail
      have hS0 := HZ22.out
      have heq := HEQ.out
      refine wp_region_held_drew (S := LwZ w (wireC key iss (.slice A n c)) sb g5 bb gb g22 T1 (.slice A3 (min 5 n) c3) L s2 T1 (.slice A15 (min 5 n) c15) ys15) (by kernel_rfl) hS0 (fun hH0 => ?_)
      clear hH0
      refine wpAnyH_take_dst (i := 0) (v := I 0) (d := 153) rfl rfl (by kernel_rfl) (by kernel_rfl) (by kernel_rfl) (fun _ _ _ h => h) (Or.inl ⟨by rfl, ?hy0_5⟩) (by assumption) ?_
      case hy0_5 => intro w' hSw; clear hSw; first | (go_simp; done) | (go_simp; with_reducible rfl)
      try simp only [Act.put, List.setIfInBounds_toArray, List.set_cons_zero, List.set_cons_succ]
      refine wpAnyH_take_dst (i := 1) (v := .bool true) (d := 154) rfl rfl (by kernel_rfl) (by kernel_rfl) (by kernel_rfl) (fun _ _ _ h => h) (Or.inl ⟨by rfl, ?hy1_6⟩) (by assumption) ?_
      case hy1_6 => intro w' hSw; clear hSw; first | (go_simp; done) | (go_simp; with_reducible rfl)
      try simp only [Act.put, List.setIfInBounds_toArray, List.set_cons_zero, List.set_cons_succ]
      refine wpAnyH_take_dst (i := 2) (v := .bool true) (d := 155) rfl rfl (by kernel_rfl) (by kernel_rfl) (by kernel_rfl) (fun _ _ _ h => h) (Or.inl ⟨by rfl, ?hy2_7⟩) (by assumption) ?_
      case hy2_7 => intro w' hSw; clear hSw; first | (go_simp; done) | (go_simp; with_reducible rfl)
      try simp only [Act.put, List.setIfInBounds_toArray, List.set_cons_zero, List.set_cons_succ]
      refine wpAnyH_take_dst (i := 3) (v := I 8) (d := 156) rfl rfl (by kernel_rfl) (by kernel_rfl) (by kernel_rfl) (fun _ _ _ h => h) (Or.inl ⟨by rfl, ?hy3_8⟩) (by assumption) ?_
      case hy3_8 => intro w' hSw; clear hSw; first | (go_simp; done) | (go_simp; with_reducible rfl)
      try simp only [Act.put, List.setIfInBounds_toArray, List.set_cons_zero, List.set_cons_succ]
      refine wpAnyH_take_dst (i := 4) (v := .bool true) (d := 157) rfl rfl (by kernel_rfl) (by kernel_rfl) (by kernel_rfl) (fun _ _ _ h => h) (Or.inl ⟨by rfl, ?hy4_9⟩) (by assumption) ?_
      case hy4_9 => intro w' hSw; clear hSw; first | (go_simp; done) | (go_simp; with_reducible rfl)
      try simp only [Act.put, List.setIfInBounds_toArray, List.set_cons_zero, List.set_cons_succ]
      refine wpAnyH_take_dst (i := 5) (v := .bool true) (d := 158) rfl rfl (by kernel_rfl) (by kernel_rfl) (by kernel_rfl) (fun _ _ _ h => h) (Or.inl ⟨by rfl, ?hy5_10⟩) (by assumption) ?_
      case hy5_10 => intro w' hSw; clear hSw; first | (go_simp; done) | (go_simp; with_reducible rfl)
      try simp only [Act.put, List.setIfInBounds_toArray, List.set_cons_zero, List.set_cons_succ]
      refine wpAnyH_take_dst (i := 6) (v := .bool true) (d := 159) rfl rfl (by kernel_rfl) (by kernel_rfl) (by kernel_rfl) (fun _ _ _ h => h) (Or.inl ⟨by rfl, ?hy6_11⟩) (by assumption) ?_
      case hy6_11 => intro w' hSw; clear hSw; first | (go_simp; done) | (go_simp; with_reducible rfl)
      try simp only [Act.put, List.setIfInBounds_toArray, List.set_cons_zero, List.set_cons_succ]
      refine wpAnyH_take_dst (i := 7) (v := I 0) (d := 160) rfl rfl (by kernel_rfl) (by kernel_rfl) (by kernel_rfl) (fun _ _ _ h => h) (Or.inl ⟨by rfl, ?hy7_12⟩) (by assumption) ?_
      case hy7_12 => intro w' hSw; clear hSw; first | (go_simp; done) | (go_simp; with_reducible rfl)
      try simp only [Act.put, List.setIfInBounds_toArray, List.set_cons_zero, List.set_cons_succ]
      refine wpAnyH_take_dst (i := 8) (v := .bool true) (d := 161) rfl rfl (by kernel_rfl) (by kernel_rfl) (by kernel_rfl) (fun _ _ _ h => h) (Or.inl ⟨by rfl, ?hy8_13⟩) (by assumption) ?_
      case hy8_13 => intro w' hSw; clear hSw; first | (go_simp; done) | (go_simp; with_reducible rfl)
      try simp only [Act.put, List.setIfInBounds_toArray, List.set_cons_zero, List.set_cons_succ]
      refine wpAnyH_take_dst (i := 9) (v := .bool true) (d := 162) rfl rfl (by kernel_rfl) (by kernel_rfl) (by kernel_rfl) (fun _ _ _ h => h) (Or.inl ⟨by rfl, ?hy9_14⟩) (by assumption) ?_
      case hy9_14 => intro w' hSw; clear hSw; first | (go_simp; done) | (go_simp; with_reducible rfl)
      try simp only [Act.put, List.setIfInBounds_toArray, List.set_cons_zero, List.set_cons_succ]
      refine wpAnyH_take_dst (i := 10) (v := .bool true) (d := 163) rfl rfl (by kernel_rfl) (by kernel_rfl) (by kernel_rfl) (fun _ _ _ h => h) (Or.inl ⟨by rfl, ?hy10_15⟩) (by assumption) ?_
      case hy10_15 => intro w' hSw; clear hSw; first | (go_simp; done) | (go_simp; with_reducible rfl)
      try simp only [Act.put, List.setIfInBounds_toArray, List.set_cons_zero, List.set_cons_succ]
      refine wpAnyH_take_dst (i := 11) (v := .slice (some ⟨g22, 0, none⟩) X.length c22) (d := 164) rfl rfl (by kernel_rfl) (by kernel_rfl) (by kernel_rfl) (fun _ _ _ h => h) (Or.inl ⟨by rfl, ?hy11_16⟩) (by assumption) ?_
      case hy11_16 => intro w' hSw; clear hSw; first | (go_simp; done) | (go_simp; with_reducible rfl)
      try simp only [Act.put, List.setIfInBounds_toArray, List.set_cons_zero, List.set_cons_succ]
      refine wpAnyH_take_dst (i := 12) (v := .slice (some ⟨g5, 0, none⟩) X.length c5) (d := 165) rfl rfl (by kernel_rfl) (by kernel_rfl) (by kernel_rfl) (fun _ _ _ h => h) (Or.inl ⟨by rfl, ?hy12_17⟩) (by assumption) ?_
      case hy12_17 => intro w' hSw; clear hSw; first | (go_simp; done) | (go_simp; with_reducible rfl)
      try simp only [Act.put, List.setIfInBounds_toArray, List.set_cons_zero, List.set_cons_succ]
      refine wpAnyH_ready (rs := [13]) (by kernel_rfl) (by simp) ?_
      refine AllReadyH.cons rfl (fun K hK => ?_) AllReadyH.nil
      go_simp
      refine (HSB.out _ hS0).mono ?_
      rintro e w31 ⟨rfl, hb31⟩
      have hS31 := hS0.below hb31
      clear hb31 hS0
      refine hK.out _ _ hS31 (fun hHeld => ?_)
      clear hHeld hK K
      try simp only [Act.put, List.setIfInBounds_toArray, List.set_cons_zero, List.set_cons_succ]
      refine wpAnyH_take_dst (i := 14) (v := .bool true) (d := 167) rfl rfl (by kernel_rfl) (by kernel_rfl) (by kernel_rfl) (fun _ _ _ h => h) (Or.inl ⟨by rfl, ?hy14_18⟩) (by assumption) ?_
      case hy14_18 => intro w' hSw; clear hSw; first | (go_simp; done) | (go_simp; with_reducible rfl)
      try simp only [Act.put, List.setIfInBounds_toArray, List.set_cons_zero, List.set_cons_succ]
      refine wpAnyH_take_dst (i := 15) (v := .bool true) (d := 168) rfl rfl (by kernel_rfl) (by kernel_rfl) (by kernel_rfl) (fun _ _ _ h => h) (Or.inl ⟨by rfl, ?hy15_19⟩) (by assumption) ?_
      case hy15_19 => intro w' hSw; clear hSw; first | (go_simp; done) | (go_simp; with_reducible rfl)
      try simp only [Act.put, List.setIfInBounds_toArray, List.set_cons_zero, List.set_cons_succ]
      refine wpAnyH_take_dst (i := 16) (v := .slice (some ⟨g18, 0, none⟩) 1 c18) (d := 169) rfl rfl (by kernel_rfl) (by kernel_rfl) (by kernel_rfl) (fun _ _ _ h => h) (Or.inl ⟨by rfl, ?hy16_20⟩) (by assumption) ?_
      case hy16_20 => intro w' hSw; clear hSw; first | (go_simp; done) | (go_simp; with_reducible rfl)
      try simp only [Act.put, List.setIfInBounds_toArray, List.set_cons_zero, List.set_cons_succ]
      refine wpAnyH_take_dst (i := 17) (v := I 1) (d := 170) rfl rfl (by kernel_rfl) (by kernel_rfl) (by kernel_rfl) (fun _ _ _ h => h) (Or.inl ⟨by rfl, ?hy17_21⟩) (by assumption) ?_
      case hy17_21 => intro w' hSw; clear hSw; first | (go_simp; done) | (go_simp; with_reducible rfl)
      try simp only [Act.put, List.setIfInBounds_toArray, List.set_cons_zero, List.set_cons_succ]
      refine wpAnyH_take_dst (i := 18) (v := .bool true) (d := 171) rfl rfl (by kernel_rfl) (by kernel_rfl) (by kernel_rfl) (fun _ _ _ h => h) (Or.inl ⟨by rfl, ?hy18_22⟩) (by assumption) ?_
      case hy18_22 => intro w' hSw; clear hSw; first | (go_simp; done) | (go_simp; with_reducible rfl)
      try simp only [Act.put, List.setIfInBounds_toArray, List.set_cons_zero, List.set_cons_succ]
      refine wpAnyH_take_dst (i := 19) (v := .bool true) (d := 172) rfl rfl (by kernel_rfl) (by kernel_rfl) (by kernel_rfl) (fun _ _ _ h => h) (Or.inl ⟨by rfl, ?hy19_23⟩) (by assumption) ?_
      case hy19_23 => intro w' hSw; clear hSw; first | (go_simp; done) | (go_simp; with_reducible rfl)
      try simp only [Act.put, List.setIfInBounds_toArray, List.set_cons_zero, List.set_cons_succ]
      refine wpAnyH_take_dst (i := 20) (v := .bool true) (d := 173) rfl rfl (by kernel_rfl) (by kernel_rfl) (by kernel_rfl) (fun _ _ _ h => h) (Or.inl ⟨by rfl, ?hy20_24⟩) (by assumption) ?_
      case hy20_24 => intro w' hSw; clear hSw; first | (go_simp; done) | (go_simp; with_reducible rfl)
      try simp only [Act.put, List.setIfInBounds_toArray, List.set_cons_zero, List.set_cons_succ]
      refine wpAnyH_take_dst (i := 21) (v := .pointer (some ⟨bb, 30, none⟩)) (d := 174) rfl rfl (by kernel_rfl) (by kernel_rfl) (by kernel_rfl) (fun _ _ _ h => h) (Or.inl ⟨by rfl, ?hy21_25⟩) (by assumption) ?_
      case hy21_25 => intro w' hSw; clear hSw; first | (go_simp; done) | (go_simp; with_reducible rfl)
      try simp only [Act.put, List.setIfInBounds_toArray, List.set_cons_zero, List.set_cons_succ]
      refine wpAnyH_take_dst (i := 22) (v := _) (d := 175) rfl rfl (by kernel_rfl) (by kernel_rfl) (by kernel_rfl) (fun _ _ _ h => h) (yieldsIf_load_mid (by rfl) _ _ rfl bb 30 rfl (refCells T1.mac) _ (fun w' h => by have h2 := lt_macR h.1.lt; rw [HLF.out] at h2; exact h2) Tryz.underlying23 rfl HDM.out) (by assumption) ?_
      try simp only [Act.put, List.setIfInBounds_toArray, List.set_cons_zero, List.set_cons_succ]
      refine wpAnyH_take_dst (i := 23) (v := .pointer (some ⟨w.heap.size, 0, none⟩)) (d := 176) rfl rfl (by kernel_rfl) (by kernel_rfl) (by kernel_rfl) (fun _ _ _ h => h) (Or.inl ⟨by rfl, ?hy23_26⟩) (by assumption) ?_
      case hy23_26 => intro w' hSw; clear hSw; first | (go_simp; done) | (go_simp; with_reducible rfl)
      try simp only [Act.put, List.setIfInBounds_toArray, List.set_cons_zero, List.set_cons_succ]
      refine wpAnyH_take_dst (i := 24) (v := _) (d := 177) rfl rfl (by kernel_rfl) (by kernel_rfl) (by kernel_rfl) (fun _ _ _ h => h) (yieldsIf_load_mid (by rfl) _ _ rfl w.heap.size 0 rfl (refCells key) _ (fun w' h => wire_key h.1.wire) Tryz.underlying23 rfl HDI.out) (by assumption) ?_
      try simp only [Act.put, List.setIfInBounds_toArray, List.set_cons_zero, List.set_cons_succ]
      refine wpAnyH_take_dst (i := 25) (v := .slice (some ⟨g5, 0, none⟩) X.length c5) (d := 178) rfl rfl (by kernel_rfl) (by kernel_rfl) (by kernel_rfl) (fun _ _ _ h => h) (Or.inl ⟨by rfl, ?hy25_27⟩) (by assumption) ?_
      case hy25_27 => intro w' hSw; clear hSw; first | (go_simp; done) | (go_simp; with_reducible rfl)
      try simp only [Act.put, List.setIfInBounds_toArray, List.set_cons_zero, List.set_cons_succ]
      refine wpAnyH_ready (rs := [26]) (by kernel_rfl) (by simp) ?_
      refine AllReadyH.cons rfl (fun K hK => ?_) AllReadyH.nil
      go_simp
      refine (HKC.out _ hS31).mono ?_
      rintro e w32 ⟨rfl, hb32⟩
      have hS32 := hS31.below hb32
      clear hb32 hS31
      refine hK.out _ _ hS32 (fun hHeld => ?_)
      clear hHeld hK K
      try simp only [Act.put, List.setIfInBounds_toArray, List.set_cons_zero, List.set_cons_succ]
      refine wpAnyH_take_dst (i := 27) (v := .bool true) (d := 180) rfl rfl (by kernel_rfl) (by kernel_rfl) (by kernel_rfl) (fun _ _ _ h => h) (Or.inl ⟨by rfl, ?hy27_28⟩) (by assumption) ?_
      case hy27_28 => intro w' hSw; clear hSw; first | (go_simp; done) | (go_simp; with_reducible rfl)
      try simp only [Act.put, List.setIfInBounds_toArray, List.set_cons_zero, List.set_cons_succ]
      refine wpAnyH_take_dst (i := 28) (v := .bool true) (d := 181) rfl rfl (by kernel_rfl) (by kernel_rfl) (by kernel_rfl) (fun _ _ _ h => h) (Or.inl ⟨by rfl, ?hy28_29⟩) (by assumption) ?_
      case hy28_29 => intro w' hSw; clear hSw; first | (go_simp; done) | (go_simp; with_reducible rfl)
      try simp only [Act.put, List.setIfInBounds_toArray, List.set_cons_zero, List.set_cons_succ]
      refine wpAnyH_take_dst (i := 29) (v := .bool true) (d := 182) rfl rfl (by kernel_rfl) (by kernel_rfl) (by kernel_rfl) (fun _ _ _ h => h) (Or.inl ⟨by rfl, ?hy29_30⟩) (by assumption) ?_
      case hy29_30 => intro w' hSw; clear hSw; first | (go_simp; done) | (go_simp; with_reducible rfl)
      try simp only [Act.put, List.setIfInBounds_toArray, List.set_cons_zero, List.set_cons_succ]
      refine wpAnyH_take_dst (i := 30) (v := .pointer (some ⟨gb, 36, none⟩)) (d := 183) rfl rfl (by kernel_rfl) (by kernel_rfl) (by kernel_rfl) (fun _ _ _ h => h) (Or.inl ⟨by rfl, ?hy30_31⟩) (by assumption) ?_
      case hy30_31 => intro w' hSw; clear hSw; first | (go_simp; done) | (go_simp; with_reducible rfl)
      try simp only [Act.put, List.setIfInBounds_toArray, List.set_cons_zero, List.set_cons_succ]
      refine wpAnyH_take_dst (i := 31) (v := _) (d := 184) rfl rfl (by kernel_rfl) (by kernel_rfl) (by kernel_rfl) (fun _ _ _ h => h) (yieldsIf_load_mid (by rfl) _ _ rfl gb 36 rfl (refCells T1.mac) _ (fun w' h => tb_mac T1 _ (Row.of_blk h.1.got) HF1.out.prev) Tryz.underlying23 rfl HDM.out) (by assumption) ?_
      try simp only [Act.put, List.setIfInBounds_toArray, List.set_cons_zero, List.set_cons_succ]
      refine wpAnyH_take_dst (i := 33) (v := .pointer (some ⟨sb, 36, none⟩)) (d := 186) rfl rfl (by kernel_rfl) (by kernel_rfl) (by kernel_rfl) (fun _ _ _ h => h) (Or.inl ⟨by rfl, ?hy33_32⟩) (by assumption) ?_
      case hy33_32 => intro w' hSw; clear hSw; first | (go_simp; done) | (go_simp; with_reducible rfl)
      try simp only [Act.put, List.setIfInBounds_toArray, List.set_cons_zero, List.set_cons_succ]
      refine wpAnyH_take_dst (i := 34) (v := _) (d := 187) rfl rfl (by kernel_rfl) (by kernel_rfl) (by kernel_rfl) (fun _ _ _ h => h) (yieldsIf_load_mid (by rfl) _ _ rfl sb 36 rfl (refCells T1.mac) _ (fun w' h => tb_mac T1 _ h.1.sb HF1.out.prev) Tryz.underlying23 rfl HDM.out) (by assumption) ?_
      try simp only [Act.put, List.setIfInBounds_toArray, List.set_cons_zero, List.set_cons_succ]
      refine wpAnyH_ready (rs := [32]) (by kernel_rfl) (by simp) ?_
      refine AllReadyH.cons rfl (fun K hK => ?_) AllReadyH.nil
      go_simp
      refine (HXR.out _).mono ?_
      rintro e w33 ⟨rfl, hb33⟩
      have hS33 := hS32.below hb33
      clear hb33 hS32
      refine hK.out _ _ hS33 (fun hHeld => ?_)
      clear hHeld hK K
      try simp only [Act.put, List.setIfInBounds_toArray, List.set_cons_zero, List.set_cons_succ]
      refine wpAnyH_ready (rs := [35]) (by kernel_rfl) (by simp) ?_
      refine AllReadyH.cons rfl (fun K hK => ?_) AllReadyH.nil
      go_simp
      refine (HXD.out _).mono ?_
      rintro e w34 ⟨rfl, hb34⟩
      have hS34 := hS33.below hb34
      clear hb34 hS33
      refine hK.out _ _ hS34 (fun hHeld => ?_)
      clear hHeld hK K
      try simp only [Act.put, List.setIfInBounds_toArray, List.set_cons_zero, List.set_cons_succ]
      refine wpAnyH_take_dst (i := 36) (v := .bool true) (d := 189) rfl rfl (by kernel_rfl) (by kernel_rfl) (by kernel_rfl) (fun _ _ _ h => h) (Or.inl ⟨by rfl, ?hy36_33⟩) (by assumption) ?_
      case hy36_33 => intro w' hSw; clear hSw; first | (go_simp; done) | (go_simp; with_reducible rfl)
      try simp only [Act.put, List.setIfInBounds_toArray, List.set_cons_zero, List.set_cons_succ]
      refine wpAnyH_take_dst (i := 37) (v := .bool true) (d := 190) rfl rfl (by kernel_rfl) (by kernel_rfl) (by kernel_rfl) (fun _ _ _ h => h) (Or.inl ⟨by rfl, ?hy37_34⟩) (by assumption) ?_
      case hy37_34 => intro w' hSw; clear hSw; first | (go_simp; done) | (go_simp; with_reducible rfl)
      try simp only [Act.put, List.setIfInBounds_toArray, List.set_cons_zero, List.set_cons_succ]
      refine wpAnyH_take_dst (i := 38) (v := .bool true) (d := 191) rfl rfl (by kernel_rfl) (by kernel_rfl) (by kernel_rfl) (fun _ _ _ h => h) (Or.inl ⟨by rfl, ?hy38_35⟩) (by assumption) ?_
      case hy38_35 => intro w' hSw; clear hSw; first | (go_simp; done) | (go_simp; with_reducible rfl)
      try simp only [Act.put, List.setIfInBounds_toArray, List.set_cons_zero, List.set_cons_succ]
      refine wpAnyH_take_dst (i := 39) (v := .bool true) (d := 192) rfl rfl (by kernel_rfl) (by kernel_rfl) (by kernel_rfl) (fun _ _ _ h => h) (Or.inl ⟨by rfl, ?hy39_36⟩) (by assumption) ?_
      case hy39_36 => intro w' hSw; clear hSw; first | (go_simp; done) | (go_simp; with_reducible rfl)
      try simp only [Act.put, List.setIfInBounds_toArray, List.set_cons_zero, List.set_cons_succ]
      refine wpAnyH_take_dst (i := 40) (v := .bool true) (d := 193) rfl rfl (by kernel_rfl) (by kernel_rfl) (by kernel_rfl) (fun _ _ _ h => h) (Or.inl ⟨by rfl, ?hy40_37⟩) (by assumption) ?_
      case hy40_37 => intro w' hSw; clear hSw; first | (go_simp; done) | (go_simp; with_reducible rfl)
      try simp only [Act.put, List.setIfInBounds_toArray, List.set_cons_zero, List.set_cons_succ]
      refine wpAnyH_take_dst (i := 41) (v := .bool true) (d := 4) rfl rfl (by kernel_rfl) (by kernel_rfl) (by kernel_rfl) (fun _ _ _ h => h) (Or.inl ⟨by rfl, ?hy41_38⟩) (by assumption) ?_
      case hy41_38 => intro w' hSw; clear hSw; first | (go_simp; done) | (go_simp; with_reducible rfl)
      try simp only [Act.put, List.setIfInBounds_toArray, List.set_cons_zero, List.set_cons_succ]
      refine wpAnyH_done (by kernel_rfl) ?_ _
      have HF := Lib.hid hS34.1.lo
      clear hS34 heq
      go_wp2_with fail
      go_ret
      exact ⟨rfl, HF.out⟩
end Go.Proofs.YtoljoigbepdeiaaGreatDoor
