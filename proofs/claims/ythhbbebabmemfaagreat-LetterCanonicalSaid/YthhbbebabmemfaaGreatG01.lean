/- The texts SvA, Pn, Leaf, SetN, SvB, WfC, GS, RuleD, in this order. -/
import Derived.Test.YthhbbebabmemfaaGreatLeafD
import Derived.BigQuiet
import Derived.Deep.AppendLies
import Derived.Deep.CutBlock
import Derived.Deep.DeepCutAuto
import Derived.Deep.DrawnRows
import Derived.Deep.MidRow
import Derived.Deep.QuietTactic
import Derived.Deep.RegionHeld3
import Derived.Deep.RegionLaw
import Derived.Deep.WholeRow
import Derived.Great.BuildSlice
import Derived.Laws.BytesString
import Derived.Laws.CopyOwn
import Derived.Laws.EntriesVeiled
import Derived.Laws.MakeOwn
import Derived.Laws.ResultCell
import Derived.Laws.Rows
import Derived.Laws.Tables
import Derived.Lib.Hide
import Derived.LoopIn
import Derived.LoopNIn
import Derived.Maps.AppendAt
import Derived.Outline
import Derived.OwnWalkIn
import Derived.RangeFuncBound
import Derived.RangeFuncBox
import Derived.RangeFuncCalls
import Derived.RangeFuncLeaves
import Derived.RangeFuncNested
import Derived.Shelf.Abstract
import Derived.Shelf.Bytes.SlSmallAll
import Derived.Shelf.RegionOpen
import Derived.StillTailTactics
import Derived.Stop.BytesEq
import Derived.TacticsInMore
import Derived.WalkKit
import Derived.WalkLawsBesides
import Derived.WalkSpells
import Derived.Test.YthhbbebabmemfaaGreatPm
import Derived.Test.YthhbbebabmemfaaGreatReadI
import Derived.Test.YthhbbebabmemfaaGreatDec
import Derived.Test.YthhbbebabmemfaaGreatValid
import Derived.Test.YthhbbebabmemfaaGreatReadW
import Derived.Test.YthhbbebabmemfaaGreatSan
import Derived.Laws.RangeAny
import Derived.Laws.Strings
/- The rule's and the series' small tests: within, numbersOK, listOK, shapes, moveOK (where they answer yes). -/
namespace Go.Proofs.YthhbbebabmemfaaGreat
open Go Go.RowKit

set_option maxRecDepth 10000 in
theorem ruWithin_yes (n lo hi : Int) (w : World) (h1 : lo ≤ n) (h2 : n ≤ hi) : Calls Tryz.prog 91 #[I n, I lo, I hi] w fun e w' => e = .returned (.bool true) ∧ w' = w := by
  go_enter Tryz.func91, Tryz.ntmps91
  go_wp2
  go_ret
  exact ⟨rfl, rfl⟩
set_option maxRecDepth 10000 in
theorem seWithin_yes (n lo hi : Int) (w : World) (h1 : lo ≤ n) (h2 : n ≤ hi) : Calls Tryz.prog 81 #[I n, I lo, I hi] w fun e w' => e = .returned (.bool true) ∧ w' = w := by
  go_enter Tryz.func81, Tryz.ntmps81
  go_wp2
  go_ret
  exact ⟨rfl, rfl⟩
/-- The numbers of a node are as its kind requires. -/
def NumsOK (d : Nd) : Prop :=
  (d.kind = 1 ∧ 1 ≤ d.n ∧ d.n ≤ 1099511627776 ∧ 0 ≤ d.m ∧ d.m ≤ 1099511627776) ∨
  (d.kind = 2 ∧ 1 ≤ d.n ∧ d.n ≤ 400 ∧ 0 ≤ d.m ∧ d.m ≤ d.n - 1) ∨
  (d.kind = 7 ∧ -60 ≤ d.n ∧ d.n ≤ 60 ∧ d.n ≠ 0 ∧ 0 ≤ d.m ∧ d.m ≤ 6 ∧ 0 ≤ d.l ∧ d.l ≤ 1) ∨
  (d.kind = 11 ∧ -1099511627776 ≤ d.n ∧ d.n ≤ 1099511627776 ∧ d.m = 0) ∨
  ((d.kind = 12 ∨ d.kind = 13) ∧ 0 ≤ d.n ∧ d.n ≤ 1099511627776 ∧ d.m = 0) ∨
  (d.kind = 16 ∧ d.n = 0 ∧ 0 ≤ d.m ∧ d.m ≤ 1) ∨
  (d.kind = 17 ∧ 1 ≤ d.n ∧ d.n ≤ 400 ∧ d.m = 0) ∨
  (d.kind ≠ 1 ∧ d.kind ≠ 2 ∧ d.kind ≠ 7 ∧ d.kind ≠ 11 ∧ d.kind ≠ 12 ∧ d.kind ≠ 13 ∧ d.kind ≠ 16 ∧ d.kind ≠ 17 ∧ d.n = 0 ∧ d.m = 0)
section
attribute [local go_sem] ndCells
set_option maxRecDepth 10000 in
set_option maxHeartbeats 4000000 in
theorem numbersOK_yes (d : Nd) (A : Option Addr) (c : Nat) (w : World) (h : NumsOK d) : Calls Tryz.prog 94 #[.agg (ndCells d A c)] w (Gives (.bool true) w) := by
  have HB := Lib.hid (below_var w (.cells (ndCells d A c) 75))
  obtain ⟨kind, cal, l, r, n, m, list, name⟩ := d
  unfold NumsOK at h
  simp only at h
  rcases h with ⟨rfl, h1, h2, h3, h4⟩ | ⟨rfl, h1, h2, h3, h4⟩ | ⟨rfl, h1, h2, h3, h4, h5, h6, h7⟩ | ⟨rfl, h1, h2, rfl⟩ | ⟨rfl | rfl, h1, h2, rfl⟩ | ⟨rfl, rfl, h1, h2⟩ | ⟨rfl, h1, h2, rfl⟩ | ⟨k1, k2, k3, k4, k5, k6, k7, k8, rfl, rfl⟩
  case' inr.inr.inl =>
    have n0 : (n != 0) = true := by simp [h3]
    have n1 : (n == 0) = false := by simp [h3]
    clear h3
  all_goals
    go_enter Tryz.func94, Tryz.ntmps94
    go_wp2_with (go_at_call 91; refine (ruWithin_yes _ _ _ _ (by omega) (by first | omega | (rw [IntKind.wrap_i64]; omega))).mono ?_; rintro e w1 ⟨rfl, rfl⟩)
    go_ret
    exact ⟨rfl, HB.out⟩
end
/-- A list within bounds, rising, without zero if the bounds have unlike signs. -/
structure UpIn (lo hi : Int) (zs : List Int) : Prop where
  ne : 0 < zs.length
  rng : ∀ z ∈ zs, lo ≤ z ∧ z ≤ hi
  up : zs.Pairwise (· < ·)
  nz : lo < 0 → ∀ z ∈ zs, z ≠ 0
theorem UpIn.at {lo hi : Int} {zs : List Int} (h : UpIn lo hi zs) (k : Nat) (hk : k < zs.length) : lo ≤ zs[k]?.getD 0 ∧ zs[k]?.getD 0 ≤ hi ∧ (0 < k → zs[k - 1]?.getD 0 < zs[k]?.getD 0) ∧ (lo < 0 → zs[k]?.getD 0 ≠ 0) := by
  have e : zs[k]? = some zs[k] := List.getElem?_eq_getElem hk
  have hm : zs[k] ∈ zs := List.getElem_mem hk
  rw [e]
  refine ⟨(h.rng _ hm).1, (h.rng _ hm).2, fun h0 => ?_, fun hl => h.nz hl _ hm⟩
  have hk1 : k - 1 < zs.length := by omega
  rw [List.getElem?_eq_getElem hk1]
  exact List.pairwise_iff_getElem.1 h.up (k - 1) k hk1 hk (by omega)
set_option maxRecDepth 10000 in
set_option maxHeartbeats 4000000 in
theorem listOK_none (A : Option Addr) (c : Nat) (w : World) : Calls Tryz.prog 93 #[.slice A 0 c, .agg #[I 0, I 0]] w (Gives (.bool true) w) := by
  have HB := Lib.hid (below_var w (.cells #[I 0, I 0] 139))
  go_enter Tryz.func93, Tryz.ntmps93
  go_wp2
  go_ret
  exact ⟨rfl, HB.out⟩
set_option maxRecDepth 10000 in
set_option maxHeartbeats 4000000 in
theorem listOK_yes (A : Option Addr) (c n : Nat) (lo hi : Int) (zs : List Int) (w : World) (hA : IntsAt w w.heap.size A zs) (h : UpIn lo hi zs) (hlh : lo ≠ 0 ∨ hi ≠ 0) (hn : zs.length = n) (hn2 : n ≤ 1000000) : Calls Tryz.prog 93 #[.slice A n c, .agg #[I lo, I hi]] w (Gives (.bool true) w) := by
  have HB := Lib.hid (below_var w (.cells #[I lo, I hi] 139))
  have h0 := h.ne
  obtain ⟨b, off, rfl, hb, hc⟩ : ∃ b off, A = some ⟨b, off, none⟩ ∧ b < w.heap.size ∧ ∀ j, j < zs.length → w.cell? ⟨b, off + j, none⟩ = some (I (zs[j]?.getD 0)) := by
    rcases hA with h | h
    · omega
    · exact h
  have HC := Lib.hid hc
  have HU := Lib.hid (fun k (hk : k < n) => h.at k (by omega))
  have hne : ¬ b = w.heap.size := by omega
  rw [hn] at h0
  have heq : ∀ W, (binOp .eql 139 (.agg #[I lo, I hi]) (.agg #[.int .i64 0, .int .i64 0])).run Tryz.prog W = .ok (.bool false) W := fun W => by
    rcases hlh with h | h <;> simp [go_sem, h]
  have HN := Lib.hid hn
  clear hc h hA hn hlh
  go_enter Tryz.func93, Tryz.ntmps93
  go_wp2
  go_loopw [15] (fun i wr => ∃ k : Nat, k ≤ n ∧ i = I k ∧ wr = w.alloc (.cells #[I lo, I hi] 139)) (fun i _ => n - (intOf i).toNat)
  case atStart => exact ⟨0, Nat.zero_le _, rfl, rfl⟩
  case round =>
    obtain ⟨k, hk, rfl, rfl⟩ := hrel
    clear heq
    by_cases hlt : k < n
    · have i0 : (0 : Int) ≤ (k : Int) := by omega
      have i1 : (k : Int) < (n : Int) := by omega
      obtain ⟨u1, u2, u3, u4⟩ := HU.out k hlt
      have c1 := HC.out k (by rw [HN.out]; exact hlt)
      have c2 := HC.out (k - 1) (by rw [HN.out]; omega)
      obtain ⟨z, hz⟩ : ∃ z, zs[k]?.getD 0 = z := ⟨_, rfl⟩
      obtain ⟨p, hp⟩ : ∃ p, zs[k - 1]?.getD 0 = p := ⟨_, rfl⟩
      rw [hz] at c1 u1 u2 u3 u4
      rw [hp] at c2 u3
      clear hz hp
      cases k with
      | zero =>
        have c4 : w.cell? ⟨b, off, none⟩ = some (I z) := c1
        clear u3 c2 c1
        by_cases hz0 : z = 0
        · have hl0 : ¬ lo < 0 := fun h => u4 h hz0
          subst hz0
          clear u4
          go_wp2_with (go_at_call 91; refine (ruWithin_yes _ _ _ _ u1 u2).mono ?_; rintro e w1 ⟨rfl, rfl⟩)
          go_roundw
          case rel => exact ⟨1, by omega, by go_num, by first | trivial | rfl⟩
          case measure => simp [intOf]; omega
        · have hz1 : (z == 0) = false := by simp [hz0]
          clear hz0 u4
          go_wp2_with (go_at_call 91; refine (ruWithin_yes _ _ _ _ u1 u2).mono ?_; rintro e w1 ⟨rfl, rfl⟩)
          go_roundw
          case rel => exact ⟨1, by omega, by go_num, by first | trivial | rfl⟩
          case measure => simp [intOf]; omega
      | succ k =>
        have u5 := u3 (Nat.succ_pos _)
        have hwr : IntKind.i64.wrap (((k + 1 : Nat) : Int) - 1) = (k : Int) := by rw [IntKind.wrap_i64]; omega
        have c3 : w.cell? ⟨b, off + k, none⟩ = some (I p) := c2
        have i2 : (0 : Int) ≤ (k : Int) := by omega
        have i3 : (k : Int) < (n : Int) := by omega
        clear u3 c2
        by_cases hz0 : z = 0
        · have hl0 : ¬ lo < 0 := fun h => u4 h hz0
          subst hz0
          clear u4
          go_wp2_with (go_at_call 91; refine (ruWithin_yes _ _ _ _ u1 u2).mono ?_; rintro e w1 ⟨rfl, rfl⟩)
          go_roundw
          case rel => exact ⟨k + 2, by omega, by go_num, by first | trivial | rfl⟩
          case measure => simp [intOf]; omega
        · have hz1 : (z == 0) = false := by simp [hz0]
          clear hz0 u4
          go_wp2_with (go_at_call 91; refine (ruWithin_yes _ _ _ _ u1 u2).mono ?_; rintro e w1 ⟨rfl, rfl⟩)
          go_roundw
          case rel => exact ⟨k + 2, by omega, by go_num, by first | trivial | rfl⟩
          case measure => simp [intOf]; omega
    · go_wp2
      go_ret
      exact ⟨rfl, HB.out⟩
end Go.Proofs.YthhbbebabmemfaaGreat

/- Letters as rows: cells put, sizes. -/
namespace Go.Proofs.YthhbbebabmemfaaGreat
open Go Go.RowKit

theorem put_cells (l : Lt) (s : Sl) (zs : List Int) (C : Option Addr) (n e : Nat) (hn : zs.length = n) : (ltVal l s).setIfInBounds 29 (.slice C n e) = ltVal { l with cells := zs } { s with C := C, e := e } := by
  subst hn
  simp [ltVal, ltCells]
theorem sz_eq (l : Lt) (s : Sl) (h : l.ref.length = 32) : (ltVal zLt zSl).size = (ltVal l s).size := by
  have h0 : zLt.ref.length = 32 := by decide
  unfold ltVal
  rw [lt_size _ _ _ _ h, lt_size _ _ _ _ h0]
end Go.Proofs.YthhbbebabmemfaaGreat

/- (*kalendsref07.Maker).leaf: a leaf in the ranges that its kind asks for. -/
namespace Go.Proofs.YthhbbebabmemfaaGreat
open Go Go.RowKit

def LeafOK (cals : Int) (d : Nd) : Prop :=
  d.r = 0 ∧
  ((d.kind = 1 ∧ d.cal = 0 ∧ d.l = 0 ∧ 1 ≤ d.n ∧ d.n ≤ 12 ∧ 0 ≤ d.m ∧ d.m < 20 ∧ d.list = [] ∧ d.name = ⟨#[]⟩) ∨
   (d.kind = 2 ∧ 0 ≤ d.cal ∧ d.cal < cals ∧ d.l = 0 ∧ 1 ≤ d.n ∧ d.n ≤ 4 ∧ 0 ≤ d.m ∧ d.m < d.n ∧ d.list = [] ∧ d.name = ⟨#[]⟩) ∨
   (d.kind = 3 ∧ 0 ≤ d.cal ∧ d.cal < cals ∧ d.l = 0 ∧ d.n = 0 ∧ d.m = 0 ∧ Rising 1 4 d.list ∧ d.name = ⟨#[]⟩) ∨
   (d.kind = 4 ∧ 0 ≤ d.cal ∧ d.cal < cals ∧ d.l = 0 ∧ d.n = 0 ∧ d.m = 0 ∧ Rising (-4) 7 d.list ∧ d.name = ⟨#[]⟩) ∨
   (d.kind = 5 ∧ d.cal = 0 ∧ d.l = 0 ∧ d.n = 0 ∧ d.m = 0 ∧ Rising 0 6 d.list ∧ d.name = ⟨#[]⟩) ∨
   (d.kind = 6 ∧ 0 ≤ d.cal ∧ d.cal < cals ∧ d.l = 0 ∧ d.n = 0 ∧ d.m = 0 ∧ Rising 1 4 d.list ∧ d.name = ⟨#[]⟩) ∨
   (d.kind = 7 ∧ 0 ≤ d.cal ∧ d.cal < cals ∧ 0 ≤ d.l ∧ d.l < 2 ∧ ((1 ≤ d.n ∧ d.n ≤ 3) ∨ (-3 ≤ d.n ∧ d.n ≤ -1)) ∧ 0 ≤ d.m ∧ d.m < 7 ∧ d.list = [] ∧ d.name = ⟨#[]⟩) ∨
   (d.kind = 18 ∧ d.cal = 0 ∧ d.l = 0 ∧ d.n = 0 ∧ d.m = 0 ∧ d.list = [] ∧ ∃ k : Int, 0 ≤ k ∧ k < 2 ∧ d.name = ⟨#[110]⟩ ++ digit k))
set_option maxRecDepth 10000 in
set_option maxHeartbeats 4000000 in
theorem leaf_any (w : World) (mb : Nat) (xs : List Int) (at_ nodes : Nat) (cals : Int) (h : MkSt w mb xs at_ nodes) (hx : XsOK xs) (hat : at_ ≤ 10000000) (hc1 : 0 < cals) (hc2 : cals ≤ 1000) :
    Calls Tryz.prog 85 #[pt mb, I cals] w (Leafed w mb xs at_ nodes (LeafOK cals)) := by
  have HM0 := Lib.hid (h.grow (below_var w (.cells zNode 75)))
  have HX := Lib.hid hx
  have hml := h.lt
  clear h hx
  go_enter Tryz.func85, Tryz.ntmps85
  go_wp2_with fail
  refine (pick_any _ mb xs at_ nodes 8 HM0.out HX.out (by omega) (by omega) (by omega)).mono ?_
  rintro e w1 ⟨r, rfl, hr1, hr2, hm1, hk1⟩
  have HM1 := Lib.hid hm1
  have HK1 := Lib.hid hk1
  have hlt1 : mb < w1.heap.size := hm1.lt
  clear hm1 hk1 HM0
  have hr : r = 0 ∨ r = 1 ∨ r = 2 ∨ r = 3 ∨ r = 4 ∨ r = 5 ∨ r = 6 ∨ r = 7 := by omega
  clear hr1 hr2
  rcases hr with rfl | rfl | rfl | rfl | rfl | rfl | rfl | rfl
  · have L0 : Hid (LS w mb xs (at_ + 1) nodes w.heap.size w1.heap.size #[I 1, I 0, I 0, I 0, I 0, I 0, .slice none 0 0, .string ⟨#[]⟩] (w1.alloc (.cells #[I 1, I 0, I 0, I 0, I 0, I 0, .slice none 0 0, .string ⟨#[]⟩] 75))) := Lib.hid (LS.start HM1.out hml HK1.out)
    have L0c := L0.out.cell
    have L0f := L0.out.froz
    go_wp2_with fail
    clear L0c L0f
    refine (L0.out.pick HX.out 12 (by omega) (by omega) (by omega)).mono ?_
    rintro e w2 ⟨n, rfl, n1, n2, L1S⟩
    have L1c := L1S.cell
    have L1f := L1S.froz
    have L1 := Lib.hid (L1S.store 4 (I (1 + n)))
    clear L1S
    go_wp2_with fail
    clear L1c L1f
    refine (L1.out.pick HX.out 20 (by omega) (by omega) (by omega)).mono ?_
    rintro e w3 ⟨m, rfl, m1, m2, L2S⟩
    have L2c := L2S.cell
    have L2f := L2S.froz
    have L2 := Lib.hid (L2S.store 5 (I m))
    clear L2S
    have HD : Hid (LS w mb xs _ nodes w.heap.size w1.heap.size (ndCells ⟨1, 0, 0, 0, 1 + n, m, [], ⟨#[]⟩⟩ none 0) _) := Lib.hid L2.out
    have HRW : Hid (Row _ w1.heap.size (ndCells ⟨1, 0, 0, 0, 1 + n, m, [], ⟨#[]⟩⟩ none 0)) := Lib.hid ⟨HD.out.lt, HD.out.cell⟩
    go_wp2_with (first
      | (with_reducible refine g_load 75 ?_; refine wpList_load_Row rfl _ _ rfl w1.heap.size rfl (ndCells ⟨1, 0, 0, 0, 1 + n, m, [], ⟨#[]⟩⟩ none 0) HRW.out _ Tryz.underlying75 rfl (nd_size _ _ _) ?_)
      | (with_reducible refine g_store 75 ?_; refine wpList_store_row rfl _ _ _ rfl w.heap.size (ndCells ⟨1, 0, 0, 0, 1 + n, m, [], ⟨#[]⟩⟩ none 0) rfl rfl 75 zNode HD.out.res (nd_size _ _ _) rfl (nd_one _ _ _) ?_))
    exact bodyPost_ret (v := .agg (ndCells ⟨1, 0, 0, 0, 1 + n, m, [], ⟨#[]⟩⟩ none 0)) (results_cell_row rfl _ _ w.heap.size _ (ndCells ⟨1, 0, 0, 0, 1 + n, m, [], ⟨#[]⟩⟩ none 0) (0, 0) _ rfl (setRow_heap _ _ _ _ _ _ HD.out.res) Tryz.underlying75 rfl (nd_size _ _ _)) rfl (HD.out.done at_ (by omega) _ (⟨rfl, .inl ⟨rfl, rfl, rfl, by show 1 ≤ 1 + n; omega, by show 1 + n ≤ 12; omega, m1, m2, rfl, rfl⟩⟩) (.inl rfl))
  · have L0 : Hid (LS w mb xs (at_ + 1) nodes w.heap.size w1.heap.size #[I 2, I 0, I 0, I 0, I 0, I 0, .slice none 0 0, .string ⟨#[]⟩] (w1.alloc (.cells #[I 2, I 0, I 0, I 0, I 0, I 0, .slice none 0 0, .string ⟨#[]⟩] 75))) := Lib.hid (LS.start HM1.out hml HK1.out)
    have L0c := L0.out.cell
    have L0f := L0.out.froz
    go_wp2_with fail
    clear L0c L0f
    refine (L0.out.pick HX.out cals (by omega) (by omega) (by omega)).mono ?_
    rintro e w2 ⟨q, rfl, q1, q2, L1S⟩
    have L1c := L1S.cell
    have L1f := L1S.froz
    have L1 := Lib.hid (L1S.store 1 (I q))
    clear L1S
    go_wp2_with fail
    clear L1c L1f
    refine (L1.out.pick HX.out 4 (by omega) (by omega) (by omega)).mono ?_
    rintro e w3 ⟨n, rfl, n1, n2, L2S⟩
    have L2c := L2S.cell
    have L2f := L2S.froz
    have L2 := Lib.hid (L2S.store 4 (I (1 + n)))
    clear L2S
    go_wp2_with fail
    clear L2c L2f
    refine (L2.out.pick HX.out (1 + n) (by omega) (by omega) (by omega)).mono ?_
    rintro e w4 ⟨m, rfl, m1, m2, L3S⟩
    have L3c := L3S.cell
    have L3f := L3S.froz
    have L3 := Lib.hid (L3S.store 5 (I m))
    clear L3S
    have HD : Hid (LS w mb xs _ nodes w.heap.size w1.heap.size (ndCells ⟨2, q, 0, 0, 1 + n, m, [], ⟨#[]⟩⟩ none 0) _) := Lib.hid L3.out
    have HRW : Hid (Row _ w1.heap.size (ndCells ⟨2, q, 0, 0, 1 + n, m, [], ⟨#[]⟩⟩ none 0)) := Lib.hid ⟨HD.out.lt, HD.out.cell⟩
    go_wp2_with (first
      | (with_reducible refine g_load 75 ?_; refine wpList_load_Row rfl _ _ rfl w1.heap.size rfl (ndCells ⟨2, q, 0, 0, 1 + n, m, [], ⟨#[]⟩⟩ none 0) HRW.out _ Tryz.underlying75 rfl (nd_size _ _ _) ?_)
      | (with_reducible refine g_store 75 ?_; refine wpList_store_row rfl _ _ _ rfl w.heap.size (ndCells ⟨2, q, 0, 0, 1 + n, m, [], ⟨#[]⟩⟩ none 0) rfl rfl 75 zNode HD.out.res (nd_size _ _ _) rfl (nd_one _ _ _) ?_))
    exact bodyPost_ret (v := .agg (ndCells ⟨2, q, 0, 0, 1 + n, m, [], ⟨#[]⟩⟩ none 0)) (results_cell_row rfl _ _ w.heap.size _ (ndCells ⟨2, q, 0, 0, 1 + n, m, [], ⟨#[]⟩⟩ none 0) (0, 0) _ rfl (setRow_heap _ _ _ _ _ _ HD.out.res) Tryz.underlying75 rfl (nd_size _ _ _)) rfl (HD.out.done at_ (by omega) _ (⟨rfl, .inr (.inl ⟨rfl, q1, q2, rfl, by show 1 ≤ 1 + n; omega, by show 1 + n ≤ 4; omega, m1, m2, rfl, rfl⟩)⟩) (.inl rfl))
  · have L0 : Hid (LS w mb xs (at_ + 1) nodes w.heap.size w1.heap.size #[I 3, I 0, I 0, I 0, I 0, I 0, .slice none 0 0, .string ⟨#[]⟩] (w1.alloc (.cells #[I 3, I 0, I 0, I 0, I 0, I 0, .slice none 0 0, .string ⟨#[]⟩] 75))) := Lib.hid (LS.start HM1.out hml HK1.out)
    have L0c := L0.out.cell
    have L0f := L0.out.froz
    go_wp2_with fail
    clear L0c L0f
    refine (L0.out.pick HX.out cals (by omega) (by omega) (by omega)).mono ?_
    rintro e w2 ⟨q, rfl, q1, q2, L1S⟩
    have L1c := L1S.cell
    have L1f := L1S.froz
    have L1 := Lib.hid (L1S.store 1 (I q))
    clear L1S
    go_wp2_with fail
    clear L1c L1f
    refine (L1.out.rise HX.out (1) 4 (by omega) (by omega) (by omega) (by omega) (by omega)).mono ?_
    rintro e w3 ⟨zs, A, c, a', rfl, hz, hli, ha', L2S⟩
    have L2c := L2S.cell
    have L2f := L2S.froz
    have HLI : Hid (LI (w1.heap.size + 1) _ A zs) := Lib.hid ((hli.lower L1.out.lt).of_blocks (w' := w3.setCell ⟨w1.heap.size, 6, none⟩ (.slice A zs.length c)) (by simp [World.setCell]) fun k hk1 _ => heap_setCell_other _ _ k _ (by show k ≠ w1.heap.size; omega))
    have L2 := Lib.hid (L2S.store 6 (.slice A zs.length c))
    have HZ := Lib.hid hz
    clear L2S hli hz
    have HD : Hid (LS w mb xs _ nodes w.heap.size w1.heap.size (ndCells ⟨3, q, 0, 0, 0, 0, zs, ⟨#[]⟩⟩ A c) _) := Lib.hid L2.out
    have HRW : Hid (Row _ w1.heap.size (ndCells ⟨3, q, 0, 0, 0, 0, zs, ⟨#[]⟩⟩ A c)) := Lib.hid ⟨HD.out.lt, HD.out.cell⟩
    go_wp2_with (first
      | (with_reducible refine g_load 75 ?_; refine wpList_load_Row rfl _ _ rfl w1.heap.size rfl (ndCells ⟨3, q, 0, 0, 0, 0, zs, ⟨#[]⟩⟩ A c) HRW.out _ Tryz.underlying75 rfl (nd_size _ _ _) ?_)
      | (with_reducible refine g_store 75 ?_; refine wpList_store_row rfl _ _ _ rfl w.heap.size (ndCells ⟨3, q, 0, 0, 0, 0, zs, ⟨#[]⟩⟩ A c) rfl rfl 75 zNode HD.out.res (nd_size _ _ _) rfl (nd_one _ _ _) ?_))
    exact bodyPost_ret (v := .agg (ndCells ⟨3, q, 0, 0, 0, 0, zs, ⟨#[]⟩⟩ A c)) (results_cell_row rfl _ _ w.heap.size _ (ndCells ⟨3, q, 0, 0, 0, 0, zs, ⟨#[]⟩⟩ A c) (0, 0) _ rfl (setRow_heap _ _ _ _ _ _ HD.out.res) Tryz.underlying75 rfl (nd_size _ _ _)) rfl (HD.out.done at_ (by omega) _ (⟨rfl, .inr (.inr (.inl ⟨rfl, q1, q2, rfl, rfl, rfl, HZ.out, rfl⟩))⟩) (HLI.out))
  · have L0 : Hid (LS w mb xs (at_ + 1) nodes w.heap.size w1.heap.size #[I 4, I 0, I 0, I 0, I 0, I 0, .slice none 0 0, .string ⟨#[]⟩] (w1.alloc (.cells #[I 4, I 0, I 0, I 0, I 0, I 0, .slice none 0 0, .string ⟨#[]⟩] 75))) := Lib.hid (LS.start HM1.out hml HK1.out)
    have L0c := L0.out.cell
    have L0f := L0.out.froz
    go_wp2_with fail
    clear L0c L0f
    refine (L0.out.pick HX.out cals (by omega) (by omega) (by omega)).mono ?_
    rintro e w2 ⟨q, rfl, q1, q2, L1S⟩
    have L1c := L1S.cell
    have L1f := L1S.froz
    have L1 := Lib.hid (L1S.store 1 (I q))
    clear L1S
    go_wp2_with fail
    clear L1c L1f
    refine (L1.out.rise HX.out (-4) 7 (by omega) (by omega) (by omega) (by omega) (by omega)).mono ?_
    rintro e w3 ⟨zs, A, c, a', rfl, hz, hli, ha', L2S⟩
    have L2c := L2S.cell
    have L2f := L2S.froz
    have HLI : Hid (LI (w1.heap.size + 1) _ A zs) := Lib.hid ((hli.lower L1.out.lt).of_blocks (w' := w3.setCell ⟨w1.heap.size, 6, none⟩ (.slice A zs.length c)) (by simp [World.setCell]) fun k hk1 _ => heap_setCell_other _ _ k _ (by show k ≠ w1.heap.size; omega))
    have L2 := Lib.hid (L2S.store 6 (.slice A zs.length c))
    have HZ := Lib.hid hz
    clear L2S hli hz
    have HD : Hid (LS w mb xs _ nodes w.heap.size w1.heap.size (ndCells ⟨4, q, 0, 0, 0, 0, zs, ⟨#[]⟩⟩ A c) _) := Lib.hid L2.out
    have HRW : Hid (Row _ w1.heap.size (ndCells ⟨4, q, 0, 0, 0, 0, zs, ⟨#[]⟩⟩ A c)) := Lib.hid ⟨HD.out.lt, HD.out.cell⟩
    go_wp2_with (first
      | (with_reducible refine g_load 75 ?_; refine wpList_load_Row rfl _ _ rfl w1.heap.size rfl (ndCells ⟨4, q, 0, 0, 0, 0, zs, ⟨#[]⟩⟩ A c) HRW.out _ Tryz.underlying75 rfl (nd_size _ _ _) ?_)
      | (with_reducible refine g_store 75 ?_; refine wpList_store_row rfl _ _ _ rfl w.heap.size (ndCells ⟨4, q, 0, 0, 0, 0, zs, ⟨#[]⟩⟩ A c) rfl rfl 75 zNode HD.out.res (nd_size _ _ _) rfl (nd_one _ _ _) ?_))
    exact bodyPost_ret (v := .agg (ndCells ⟨4, q, 0, 0, 0, 0, zs, ⟨#[]⟩⟩ A c)) (results_cell_row rfl _ _ w.heap.size _ (ndCells ⟨4, q, 0, 0, 0, 0, zs, ⟨#[]⟩⟩ A c) (0, 0) _ rfl (setRow_heap _ _ _ _ _ _ HD.out.res) Tryz.underlying75 rfl (nd_size _ _ _)) rfl (HD.out.done at_ (by omega) _ (⟨rfl, .inr (.inr (.inr (.inl ⟨rfl, q1, q2, rfl, rfl, rfl, HZ.out, rfl⟩)))⟩) (HLI.out))
  · have L0 : Hid (LS w mb xs (at_ + 1) nodes w.heap.size w1.heap.size #[I 5, I 0, I 0, I 0, I 0, I 0, .slice none 0 0, .string ⟨#[]⟩] (w1.alloc (.cells #[I 5, I 0, I 0, I 0, I 0, I 0, .slice none 0 0, .string ⟨#[]⟩] 75))) := Lib.hid (LS.start HM1.out hml HK1.out)
    have L0c := L0.out.cell
    have L0f := L0.out.froz
    go_wp2_with fail
    clear L0c L0f
    refine (L0.out.rise HX.out (0) 6 (by omega) (by omega) (by omega) (by omega) (by omega)).mono ?_
    rintro e w3 ⟨zs, A, c, a', rfl, hz, hli, ha', L2S⟩
    have L2c := L2S.cell
    have L2f := L2S.froz
    have HLI : Hid (LI (w1.heap.size + 1) _ A zs) := Lib.hid ((hli.lower L0.out.lt).of_blocks (w' := w3.setCell ⟨w1.heap.size, 6, none⟩ (.slice A zs.length c)) (by simp [World.setCell]) fun k hk1 _ => heap_setCell_other _ _ k _ (by show k ≠ w1.heap.size; omega))
    have L2 := Lib.hid (L2S.store 6 (.slice A zs.length c))
    have HZ := Lib.hid hz
    clear L2S hli hz
    have HD : Hid (LS w mb xs _ nodes w.heap.size w1.heap.size (ndCells ⟨5, 0, 0, 0, 0, 0, zs, ⟨#[]⟩⟩ A c) _) := Lib.hid L2.out
    have HRW : Hid (Row _ w1.heap.size (ndCells ⟨5, 0, 0, 0, 0, 0, zs, ⟨#[]⟩⟩ A c)) := Lib.hid ⟨HD.out.lt, HD.out.cell⟩
    go_wp2_with (first
      | (with_reducible refine g_load 75 ?_; refine wpList_load_Row rfl _ _ rfl w1.heap.size rfl (ndCells ⟨5, 0, 0, 0, 0, 0, zs, ⟨#[]⟩⟩ A c) HRW.out _ Tryz.underlying75 rfl (nd_size _ _ _) ?_)
      | (with_reducible refine g_store 75 ?_; refine wpList_store_row rfl _ _ _ rfl w.heap.size (ndCells ⟨5, 0, 0, 0, 0, 0, zs, ⟨#[]⟩⟩ A c) rfl rfl 75 zNode HD.out.res (nd_size _ _ _) rfl (nd_one _ _ _) ?_))
    exact bodyPost_ret (v := .agg (ndCells ⟨5, 0, 0, 0, 0, 0, zs, ⟨#[]⟩⟩ A c)) (results_cell_row rfl _ _ w.heap.size _ (ndCells ⟨5, 0, 0, 0, 0, 0, zs, ⟨#[]⟩⟩ A c) (0, 0) _ rfl (setRow_heap _ _ _ _ _ _ HD.out.res) Tryz.underlying75 rfl (nd_size _ _ _)) rfl (HD.out.done at_ (by omega) _ (⟨rfl, .inr (.inr (.inr (.inr (.inl ⟨rfl, rfl, rfl, rfl, rfl, HZ.out, rfl⟩))))⟩) (HLI.out))
  · have L0 : Hid (LS w mb xs (at_ + 1) nodes w.heap.size w1.heap.size #[I 6, I 0, I 0, I 0, I 0, I 0, .slice none 0 0, .string ⟨#[]⟩] (w1.alloc (.cells #[I 6, I 0, I 0, I 0, I 0, I 0, .slice none 0 0, .string ⟨#[]⟩] 75))) := Lib.hid (LS.start HM1.out hml HK1.out)
    have L0c := L0.out.cell
    have L0f := L0.out.froz
    go_wp2_with fail
    clear L0c L0f
    refine (L0.out.pick HX.out 2 (by omega) (by omega) (by omega)).mono ?_
    rintro e w2 ⟨t, rfl, t1, t2, L1S⟩
    have L1c := L1S.cell
    have L1f := L1S.froz
    have L1 := Lib.hid L1S
    clear L1S
    have ht : t = 0 ∨ t = 1 := by omega
    rcases ht with rfl | rfl
    · have L1k := Lib.hid (L1.out.store 0 (I 1))
      go_wp2_with fail
      clear L1c L1f
      refine (L1k.out.pick HX.out 12 (by omega) (by omega) (by omega)).mono ?_
      rintro e w3 ⟨n, rfl, n1, n2, L2S⟩
      have L2c := L2S.cell
      have L2f := L2S.froz
      have L2 := Lib.hid (L2S.store 4 (I (1 + n)))
      clear L2S
      go_wp2_with fail
      clear L2c L2f
      refine (L2.out.pick HX.out 20 (by omega) (by omega) (by omega)).mono ?_
      rintro e w4 ⟨m, rfl, m1, m2, L3S⟩
      have L3c := L3S.cell
      have L3f := L3S.froz
      have L3 := Lib.hid (L3S.store 5 (I m))
      clear L3S
      have HD : Hid (LS w mb xs _ nodes w.heap.size w1.heap.size (ndCells ⟨1, 0, 0, 0, 1 + n, m, [], ⟨#[]⟩⟩ none 0) _) := Lib.hid L3.out
      have HRW : Hid (Row _ w1.heap.size (ndCells ⟨1, 0, 0, 0, 1 + n, m, [], ⟨#[]⟩⟩ none 0)) := Lib.hid ⟨HD.out.lt, HD.out.cell⟩
      go_wp2_with (first
        | (with_reducible refine g_load 75 ?_; refine wpList_load_Row rfl _ _ rfl w1.heap.size rfl (ndCells ⟨1, 0, 0, 0, 1 + n, m, [], ⟨#[]⟩⟩ none 0) HRW.out _ Tryz.underlying75 rfl (nd_size _ _ _) ?_)
        | (with_reducible refine g_store 75 ?_; refine wpList_store_row rfl _ _ _ rfl w.heap.size (ndCells ⟨1, 0, 0, 0, 1 + n, m, [], ⟨#[]⟩⟩ none 0) rfl rfl 75 zNode HD.out.res (nd_size _ _ _) rfl (nd_one _ _ _) ?_))
      exact bodyPost_ret (v := .agg (ndCells ⟨1, 0, 0, 0, 1 + n, m, [], ⟨#[]⟩⟩ none 0)) (results_cell_row rfl _ _ w.heap.size _ (ndCells ⟨1, 0, 0, 0, 1 + n, m, [], ⟨#[]⟩⟩ none 0) (0, 0) _ rfl (setRow_heap _ _ _ _ _ _ HD.out.res) Tryz.underlying75 rfl (nd_size _ _ _)) rfl (HD.out.done at_ (by omega) _ (⟨rfl, .inl ⟨rfl, rfl, rfl, by show 1 ≤ 1 + n; omega, by show 1 + n ≤ 12; omega, m1, m2, rfl, rfl⟩⟩) (.inl rfl))
    · go_wp2_with fail
      clear L1c L1f
      refine (L1.out.pick HX.out cals (by omega) (by omega) (by omega)).mono ?_
      rintro e w3 ⟨q, rfl, q1, q2, L2S⟩
      have L2c := L2S.cell
      have L2f := L2S.froz
      have L2 := Lib.hid (L2S.store 1 (I q))
      clear L2S
      go_wp2_with fail
      clear L2c L2f
      refine (L2.out.rise HX.out (1) 4 (by omega) (by omega) (by omega) (by omega) (by omega)).mono ?_
      rintro e w4 ⟨zs, A, c, a', rfl, hz, hli, ha', L3S⟩
      have L3c := L3S.cell
      have L3f := L3S.froz
      have HLI : Hid (LI (w1.heap.size + 1) _ A zs) := Lib.hid ((hli.lower L2.out.lt).of_blocks (w' := w4.setCell ⟨w1.heap.size, 6, none⟩ (.slice A zs.length c)) (by simp [World.setCell]) fun k hk1 _ => heap_setCell_other _ _ k _ (by show k ≠ w1.heap.size; omega))
      have L3 := Lib.hid (L3S.store 6 (.slice A zs.length c))
      have HZ := Lib.hid hz
      clear L3S hli hz
      have HD : Hid (LS w mb xs _ nodes w.heap.size w1.heap.size (ndCells ⟨6, q, 0, 0, 0, 0, zs, ⟨#[]⟩⟩ A c) _) := Lib.hid L3.out
      have HRW : Hid (Row _ w1.heap.size (ndCells ⟨6, q, 0, 0, 0, 0, zs, ⟨#[]⟩⟩ A c)) := Lib.hid ⟨HD.out.lt, HD.out.cell⟩
      go_wp2_with (first
        | (with_reducible refine g_load 75 ?_; refine wpList_load_Row rfl _ _ rfl w1.heap.size rfl (ndCells ⟨6, q, 0, 0, 0, 0, zs, ⟨#[]⟩⟩ A c) HRW.out _ Tryz.underlying75 rfl (nd_size _ _ _) ?_)
        | (with_reducible refine g_store 75 ?_; refine wpList_store_row rfl _ _ _ rfl w.heap.size (ndCells ⟨6, q, 0, 0, 0, 0, zs, ⟨#[]⟩⟩ A c) rfl rfl 75 zNode HD.out.res (nd_size _ _ _) rfl (nd_one _ _ _) ?_))
      exact bodyPost_ret (v := .agg (ndCells ⟨6, q, 0, 0, 0, 0, zs, ⟨#[]⟩⟩ A c)) (results_cell_row rfl _ _ w.heap.size _ (ndCells ⟨6, q, 0, 0, 0, 0, zs, ⟨#[]⟩⟩ A c) (0, 0) _ rfl (setRow_heap _ _ _ _ _ _ HD.out.res) Tryz.underlying75 rfl (nd_size _ _ _)) rfl (HD.out.done at_ (by omega) _ (⟨rfl, .inr (.inr (.inr (.inr (.inr (.inl ⟨rfl, q1, q2, rfl, rfl, rfl, HZ.out, rfl⟩)))))⟩) (HLI.out))
  · have L0 : Hid (LS w mb xs (at_ + 1) nodes w.heap.size w1.heap.size #[I 7, I 0, I 0, I 0, I 0, I 0, .slice none 0 0, .string ⟨#[]⟩] (w1.alloc (.cells #[I 7, I 0, I 0, I 0, I 0, I 0, .slice none 0 0, .string ⟨#[]⟩] 75))) := Lib.hid (LS.start HM1.out hml HK1.out)
    have L0c := L0.out.cell
    have L0f := L0.out.froz
    go_wp2_with fail
    clear L0c L0f
    refine (L0.out.pick HX.out cals (by omega) (by omega) (by omega)).mono ?_
    rintro e w2 ⟨q, rfl, q1, q2, L1S⟩
    have L1c := L1S.cell
    have L1f := L1S.froz
    have L1 := Lib.hid (L1S.store 1 (I q))
    clear L1S
    go_wp2_with fail
    clear L1c L1f
    refine (L1.out.pick HX.out 3 (by omega) (by omega) (by omega)).mono ?_
    rintro e w3 ⟨n, rfl, n1, n2, L2S⟩
    have L2c := L2S.cell
    have L2f := L2S.froz
    have L2 := Lib.hid (L2S.store 4 (I (1 + n)))
    clear L2S
    go_wp2_with fail
    clear L2c L2f
    refine (L2.out.pick HX.out 2 (by omega) (by omega) (by omega)).mono ?_
    rintro e w4 ⟨t, rfl, t1, t2, L3S⟩
    have L3c := L3S.cell
    have L3f := L3S.froz
    have L3 := Lib.hid L3S
    clear L3S
    have ht : t = 0 ∨ t = 1 := by omega
    rcases ht with rfl | rfl
    · go_wp2_with fail
      clear L3c L3f
      refine (L3.out.pick HX.out 7 (by omega) (by omega) (by omega)).mono ?_
      rintro e w5 ⟨m, rfl, m1, m2, L4S⟩
      have L4c := L4S.cell
      have L4f := L4S.froz
      have L4 := Lib.hid (L4S.store 5 (I m))
      clear L4S
      go_wp2_with fail
      clear L4c L4f
      refine (L4.out.pick HX.out 2 (by omega) (by omega) (by omega)).mono ?_
      rintro e w6 ⟨l, rfl, l1, l2, L5S⟩
      have L5c := L5S.cell
      have L5f := L5S.froz
      have L5 := Lib.hid (L5S.store 2 (I l))
      clear L5S
      have HD : Hid (LS w mb xs _ nodes w.heap.size w1.heap.size (ndCells ⟨7, q, l, 0, 1 + n, m, [], ⟨#[]⟩⟩ none 0) _) := Lib.hid L5.out
      have HRW : Hid (Row _ w1.heap.size (ndCells ⟨7, q, l, 0, 1 + n, m, [], ⟨#[]⟩⟩ none 0)) := Lib.hid ⟨HD.out.lt, HD.out.cell⟩
      go_wp2_with (first
        | (with_reducible refine g_load 75 ?_; refine wpList_load_Row rfl _ _ rfl w1.heap.size rfl (ndCells ⟨7, q, l, 0, 1 + n, m, [], ⟨#[]⟩⟩ none 0) HRW.out _ Tryz.underlying75 rfl (nd_size _ _ _) ?_)
        | (with_reducible refine g_store 75 ?_; refine wpList_store_row rfl _ _ _ rfl w.heap.size (ndCells ⟨7, q, l, 0, 1 + n, m, [], ⟨#[]⟩⟩ none 0) rfl rfl 75 zNode HD.out.res (nd_size _ _ _) rfl (nd_one _ _ _) ?_))
      exact bodyPost_ret (v := .agg (ndCells ⟨7, q, l, 0, 1 + n, m, [], ⟨#[]⟩⟩ none 0)) (results_cell_row rfl _ _ w.heap.size _ (ndCells ⟨7, q, l, 0, 1 + n, m, [], ⟨#[]⟩⟩ none 0) (0, 0) _ rfl (setRow_heap _ _ _ _ _ _ HD.out.res) Tryz.underlying75 rfl (nd_size _ _ _)) rfl (HD.out.done at_ (by omega) _ (⟨rfl, .inr (.inr (.inr (.inr (.inr (.inr (.inl ⟨rfl, q1, q2, l1, l2, .inl (by show 1 ≤ 1 + n ∧ 1 + n ≤ 3; omega), m1, m2, rfl, rfl⟩))))))⟩) (.inl rfl))
    · have L3k := Lib.hid (L3.out.store 4 (I (-(1 + n))))
      go_wp2_with fail
      clear L3c L3f
      refine (L3k.out.pick HX.out 7 (by omega) (by omega) (by omega)).mono ?_
      rintro e w5 ⟨m, rfl, m1, m2, L4S⟩
      have L4c := L4S.cell
      have L4f := L4S.froz
      have L4 := Lib.hid (L4S.store 5 (I m))
      clear L4S
      go_wp2_with fail
      clear L4c L4f
      refine (L4.out.pick HX.out 2 (by omega) (by omega) (by omega)).mono ?_
      rintro e w6 ⟨l, rfl, l1, l2, L5S⟩
      have L5c := L5S.cell
      have L5f := L5S.froz
      have L5 := Lib.hid (L5S.store 2 (I l))
      clear L5S
      have HD : Hid (LS w mb xs _ nodes w.heap.size w1.heap.size (ndCells ⟨7, q, l, 0, -(1 + n), m, [], ⟨#[]⟩⟩ none 0) _) := Lib.hid L5.out
      have HRW : Hid (Row _ w1.heap.size (ndCells ⟨7, q, l, 0, -(1 + n), m, [], ⟨#[]⟩⟩ none 0)) := Lib.hid ⟨HD.out.lt, HD.out.cell⟩
      go_wp2_with (first
        | (with_reducible refine g_load 75 ?_; refine wpList_load_Row rfl _ _ rfl w1.heap.size rfl (ndCells ⟨7, q, l, 0, -(1 + n), m, [], ⟨#[]⟩⟩ none 0) HRW.out _ Tryz.underlying75 rfl (nd_size _ _ _) ?_)
        | (with_reducible refine g_store 75 ?_; refine wpList_store_row rfl _ _ _ rfl w.heap.size (ndCells ⟨7, q, l, 0, -(1 + n), m, [], ⟨#[]⟩⟩ none 0) rfl rfl 75 zNode HD.out.res (nd_size _ _ _) rfl (nd_one _ _ _) ?_))
      exact bodyPost_ret (v := .agg (ndCells ⟨7, q, l, 0, -(1 + n), m, [], ⟨#[]⟩⟩ none 0)) (results_cell_row rfl _ _ w.heap.size _ (ndCells ⟨7, q, l, 0, -(1 + n), m, [], ⟨#[]⟩⟩ none 0) (0, 0) _ rfl (setRow_heap _ _ _ _ _ _ HD.out.res) Tryz.underlying75 rfl (nd_size _ _ _)) rfl (HD.out.done at_ (by omega) _ (⟨rfl, .inr (.inr (.inr (.inr (.inr (.inr (.inl ⟨rfl, q1, q2, l1, l2, .inr (by show -3 ≤ -(1 + n) ∧ -(1 + n) ≤ -1; omega), m1, m2, rfl, rfl⟩))))))⟩) (.inl rfl))
  · have L0 : Hid (LS w mb xs (at_ + 1) nodes w.heap.size w1.heap.size #[I 8, I 0, I 0, I 0, I 0, I 0, .slice none 0 0, .string ⟨#[]⟩] (w1.alloc (.cells #[I 8, I 0, I 0, I 0, I 0, I 0, .slice none 0 0, .string ⟨#[]⟩] 75))) := Lib.hid (LS.start HM1.out hml HK1.out)
    have L0c := L0.out.cell
    have L0f := L0.out.froz
    have hnm : (w1.alloc (.cells #[I 8, I 0, I 0, I 0, I 0, I 0, .slice none 0 0, .string ⟨#[]⟩] 75)).cell? ⟨mb, 2, none⟩ = some (I 2) := by obtain ⟨A, c, g1, _⟩ := L0.out.mkr; exact cell_of_row _ mb 2 _ _ _ g1
    have L0k : Hid (LS w mb xs (at_ + 1) nodes w.heap.size w1.heap.size #[I 18, I 0, I 0, I 0, I 0, I 0, .slice none 0 0, .string ⟨#[]⟩] (w1.alloc (.cells #[I 18, I 0, I 0, I 0, I 0, I 0, .slice none 0 0, .string ⟨#[]⟩] 75))) := Lib.hid (LS.start HM1.out hml HK1.out)
    have hnm2 : (w1.alloc (.cells #[I 18, I 0, I 0, I 0, I 0, I 0, .slice none 0 0, .string ⟨#[]⟩] 75)).cell? ⟨mb, 2, none⟩ = some (I 2) := by obtain ⟨A, c, g1, _⟩ := L0k.out.mkr; exact cell_of_row _ mb 2 _ _ _ g1
    go_wp2_with fail
    clear L0c L0f hnm hnm2
    refine (L0k.out.pick HX.out 2 (by omega) (by omega) (by omega)).mono ?_
    rintro e w2 ⟨k, rfl, k1, k2, L1S⟩
    have L1c := L1S.cell
    have L1f := L1S.froz
    have L1 := Lib.hid L1S
    clear L1S
    go_wp2_with fail
    refine (decimal_any k k1 (by omega) _).mono ?_
    rintro e w3 ⟨rfl, hb3⟩
    have L2 := Lib.hid (L1.out.step (L1.out.mkr.grow hb3) (MKeep.of_below hb3))
    have L2c := L2.out.cell
    have L2f := L2.out.froz
    clear L1c L1f hb3
    have L3 := Lib.hid (L2.out.store 7 (.string (⟨#[110]⟩ ++ digit k)))
    have HD : Hid (LS w mb xs _ nodes w.heap.size w1.heap.size (ndCells ⟨18, 0, 0, 0, 0, 0, [], ⟨#[110]⟩ ++ digit k⟩ none 0) _) := Lib.hid L3.out
    have HRW : Hid (Row _ w1.heap.size (ndCells ⟨18, 0, 0, 0, 0, 0, [], ⟨#[110]⟩ ++ digit k⟩ none 0)) := Lib.hid ⟨HD.out.lt, HD.out.cell⟩
    go_wp2_with (first
      | (with_reducible refine g_load 75 ?_; refine wpList_load_Row rfl _ _ rfl w1.heap.size rfl (ndCells ⟨18, 0, 0, 0, 0, 0, [], ⟨#[110]⟩ ++ digit k⟩ none 0) HRW.out _ Tryz.underlying75 rfl (nd_size _ _ _) ?_)
      | (with_reducible refine g_store 75 ?_; refine wpList_store_row rfl _ _ _ rfl w.heap.size (ndCells ⟨18, 0, 0, 0, 0, 0, [], ⟨#[110]⟩ ++ digit k⟩ none 0) rfl rfl 75 zNode HD.out.res (nd_size _ _ _) rfl (nd_one _ _ _) ?_))
    exact bodyPost_ret (v := .agg (ndCells ⟨18, 0, 0, 0, 0, 0, [], ⟨#[110]⟩ ++ digit k⟩ none 0)) (results_cell_row rfl _ _ w.heap.size _ (ndCells ⟨18, 0, 0, 0, 0, 0, [], ⟨#[110]⟩ ++ digit k⟩ none 0) (0, 0) _ rfl (setRow_heap _ _ _ _ _ _ HD.out.res) Tryz.underlying75 rfl (nd_size _ _ _)) rfl (HD.out.done at_ (by omega) _ (⟨rfl, .inr (.inr (.inr (.inr (.inr (.inr (.inr (⟨rfl, rfl, rfl, rfl, rfl, rfl, k, k1, k2, rfl⟩)))))))⟩) (.inl rfl))
end Go.Proofs.YthhbbebabmemfaaGreat

/- kalendsref20.SetNumber. -/
namespace Go.Proofs.YthhbbebabmemfaaGreat
open Go Go.RowKit

section
variable {P : Program} {ops : Array Oper} {Q : Exit → Act → World → Prop} {a : Act} {w : World} {rest : List Oper} {d : Option Tmp} {t : TypeId} {pos : String} {af : Array Edge} {g : Option (Nat × Bool)}
theorem g_alloc (ty : TypeId) (h : wpList P ops Q (⟨d, .alloc ty, t, pos, af, g⟩ :: rest) a w) : wpList P ops Q (⟨d, .alloc ty, t, pos, af, g⟩ :: rest) a w := h
end
attribute [local go_sem] ltVal_get lt_get3 lt_get4 lt_get5 lt_get6 lt_get7 lt_get8 lt_get9 lt_get10 lt_get11 lt_get24 lt_get25 lt_get26
set_option maxRecDepth 10000 in
set_option maxHeartbeats 8000000 in
theorem setNumber_any (l : Lt) (s : Sl) (k : Nat) (hk : k < 17) (x : Int) (w : World) (hr : l.ref.length = 32) : Calls Tryz.prog 52 #[.agg (ltVal l s), I k, I x] w (Gives (.agg (ltVal (setNum l k x) s)) w) := by
  have HRF : Hid ((setNum l k x).ref.length = 32) := Lib.hid (by rw [setNum_ref]; exact hr)
  have HSN := Lib.hid (fun o (h : numOff k = some o) => (ltVal_setNum l s x k o hk h).symm)
  have HRM : Hid (Row ((w.alloc (.cells (ltVal (setNum l k x) s) 37)).alloc (.cells (ltVal zLt zSl) 37)) w.heap.size (ltVal (setNum l k x) s)) := Lib.hid ((Row.new w (ltVal (setNum l k x) s) 37).keep (below_var _ _))
  have HBM := Lib.hid (below_trans (below_var w (.cells (ltVal (setNum l k x) s) 37)) (below_var _ (.cells (ltVal zLt zSl) 37)))
  have HRN : Hid (Row ((w.alloc (.cells (ltVal l s) 37)).alloc (.cells (ltVal zLt zSl) 37)) w.heap.size (ltVal l s)) := Lib.hid ((Row.new w (ltVal l s) 37).keep (below_var _ _))
  have HBN := Lib.hid (below_trans (below_var w (.cells (ltVal l s) 37)) (below_var _ (.cells (ltVal zLt zSl) 37)))
  have hk' : k = 0 ∨ k = 1 ∨ k = 2 ∨ k = 3 ∨ k = 4 ∨ k = 5 ∨ k = 6 ∨ k = 7 ∨ k = 8 ∨ k = 9 ∨ k = 10 ∨ k = 11 ∨ k = 12 ∨ k = 13 ∨ k = 14 ∨ k = 15 ∨ k = 16 := by omega
  clear hk
  rcases hk' with rfl | rfl | rfl | rfl | rfl | rfl | rfl | rfl | rfl | rfl | rfl | rfl | rfl | rfl | rfl | rfl | rfl
  · have hset : (ltVal l s).setIfInBounds 3 (.int .i64 x) = ltVal (setNum l _ x) s := HSN.out 3 rfl
    clear HSN HRN HBN
    go_enter Tryz.func52, Tryz.ntmps52
    go_wp2_with (first
      | (with_reducible refine g_alloc 37 ?_; refine wpList_alloc_as rfl _ rfl (ltVal zLt zSl) lt_zero ?_)
      | (with_reducible refine g_load 37 ?_; refine wpList_load_Row rfl _ _ rfl w.heap.size rfl (ltVal (setNum l 0 x) s) HRM.out _ Tryz.underlying37 rfl (size62 _ _ HRF.out) ?_)
      | (with_reducible refine g_store 37 ?_; refine wpList_store_row rfl _ _ _ rfl (w.heap.size + 1) (ltVal (setNum l 0 x) s) rfl rfl 37 (ltVal zLt zSl) (heap_alloc2_new w _ _) (size62 _ _ HRF.out) (sz_eq _ _ HRF.out) (ltVal_one _ _) ?_))
    exact bodyPost_ret (v := .agg (ltVal (setNum l 0 x) s)) (results_cell_row rfl _ _ (w.heap.size + 1) _ (ltVal (setNum l 0 x) s) (0, 0) _ rfl (setRow_heap _ _ _ _ _ _ (heap_alloc2_new w _ _)) Tryz.underlying37 rfl (size62 _ _ HRF.out)) rfl ⟨rfl, below_setRow HBM.out (Nat.le_succ _) _⟩
  · have hset : (ltVal l s).setIfInBounds 4 (.int .i64 x) = ltVal (setNum l _ x) s := HSN.out 4 rfl
    clear HSN HRN HBN
    go_enter Tryz.func52, Tryz.ntmps52
    go_wp2_with (first
      | (with_reducible refine g_alloc 37 ?_; refine wpList_alloc_as rfl _ rfl (ltVal zLt zSl) lt_zero ?_)
      | (with_reducible refine g_load 37 ?_; refine wpList_load_Row rfl _ _ rfl w.heap.size rfl (ltVal (setNum l 1 x) s) HRM.out _ Tryz.underlying37 rfl (size62 _ _ HRF.out) ?_)
      | (with_reducible refine g_store 37 ?_; refine wpList_store_row rfl _ _ _ rfl (w.heap.size + 1) (ltVal (setNum l 1 x) s) rfl rfl 37 (ltVal zLt zSl) (heap_alloc2_new w _ _) (size62 _ _ HRF.out) (sz_eq _ _ HRF.out) (ltVal_one _ _) ?_))
    exact bodyPost_ret (v := .agg (ltVal (setNum l 1 x) s)) (results_cell_row rfl _ _ (w.heap.size + 1) _ (ltVal (setNum l 1 x) s) (0, 0) _ rfl (setRow_heap _ _ _ _ _ _ (heap_alloc2_new w _ _)) Tryz.underlying37 rfl (size62 _ _ HRF.out)) rfl ⟨rfl, below_setRow HBM.out (Nat.le_succ _) _⟩
  · have hset : (ltVal l s).setIfInBounds 5 (.int .i64 x) = ltVal (setNum l _ x) s := HSN.out 5 rfl
    clear HSN HRN HBN
    go_enter Tryz.func52, Tryz.ntmps52
    go_wp2_with (first
      | (with_reducible refine g_alloc 37 ?_; refine wpList_alloc_as rfl _ rfl (ltVal zLt zSl) lt_zero ?_)
      | (with_reducible refine g_load 37 ?_; refine wpList_load_Row rfl _ _ rfl w.heap.size rfl (ltVal (setNum l 2 x) s) HRM.out _ Tryz.underlying37 rfl (size62 _ _ HRF.out) ?_)
      | (with_reducible refine g_store 37 ?_; refine wpList_store_row rfl _ _ _ rfl (w.heap.size + 1) (ltVal (setNum l 2 x) s) rfl rfl 37 (ltVal zLt zSl) (heap_alloc2_new w _ _) (size62 _ _ HRF.out) (sz_eq _ _ HRF.out) (ltVal_one _ _) ?_))
    exact bodyPost_ret (v := .agg (ltVal (setNum l 2 x) s)) (results_cell_row rfl _ _ (w.heap.size + 1) _ (ltVal (setNum l 2 x) s) (0, 0) _ rfl (setRow_heap _ _ _ _ _ _ (heap_alloc2_new w _ _)) Tryz.underlying37 rfl (size62 _ _ HRF.out)) rfl ⟨rfl, below_setRow HBM.out (Nat.le_succ _) _⟩
  · have hset : (ltVal l s).setIfInBounds 6 (.int .i64 x) = ltVal (setNum l _ x) s := HSN.out 6 rfl
    clear HSN HRN HBN
    go_enter Tryz.func52, Tryz.ntmps52
    go_wp2_with (first
      | (with_reducible refine g_alloc 37 ?_; refine wpList_alloc_as rfl _ rfl (ltVal zLt zSl) lt_zero ?_)
      | (with_reducible refine g_load 37 ?_; refine wpList_load_Row rfl _ _ rfl w.heap.size rfl (ltVal (setNum l 3 x) s) HRM.out _ Tryz.underlying37 rfl (size62 _ _ HRF.out) ?_)
      | (with_reducible refine g_store 37 ?_; refine wpList_store_row rfl _ _ _ rfl (w.heap.size + 1) (ltVal (setNum l 3 x) s) rfl rfl 37 (ltVal zLt zSl) (heap_alloc2_new w _ _) (size62 _ _ HRF.out) (sz_eq _ _ HRF.out) (ltVal_one _ _) ?_))
    exact bodyPost_ret (v := .agg (ltVal (setNum l 3 x) s)) (results_cell_row rfl _ _ (w.heap.size + 1) _ (ltVal (setNum l 3 x) s) (0, 0) _ rfl (setRow_heap _ _ _ _ _ _ (heap_alloc2_new w _ _)) Tryz.underlying37 rfl (size62 _ _ HRF.out)) rfl ⟨rfl, below_setRow HBM.out (Nat.le_succ _) _⟩
  · have hset : (ltVal l s).setIfInBounds 7 (.int .i64 x) = ltVal (setNum l _ x) s := HSN.out 7 rfl
    clear HSN HRN HBN
    go_enter Tryz.func52, Tryz.ntmps52
    go_wp2_with (first
      | (with_reducible refine g_alloc 37 ?_; refine wpList_alloc_as rfl _ rfl (ltVal zLt zSl) lt_zero ?_)
      | (with_reducible refine g_load 37 ?_; refine wpList_load_Row rfl _ _ rfl w.heap.size rfl (ltVal (setNum l 4 x) s) HRM.out _ Tryz.underlying37 rfl (size62 _ _ HRF.out) ?_)
      | (with_reducible refine g_store 37 ?_; refine wpList_store_row rfl _ _ _ rfl (w.heap.size + 1) (ltVal (setNum l 4 x) s) rfl rfl 37 (ltVal zLt zSl) (heap_alloc2_new w _ _) (size62 _ _ HRF.out) (sz_eq _ _ HRF.out) (ltVal_one _ _) ?_))
    exact bodyPost_ret (v := .agg (ltVal (setNum l 4 x) s)) (results_cell_row rfl _ _ (w.heap.size + 1) _ (ltVal (setNum l 4 x) s) (0, 0) _ rfl (setRow_heap _ _ _ _ _ _ (heap_alloc2_new w _ _)) Tryz.underlying37 rfl (size62 _ _ HRF.out)) rfl ⟨rfl, below_setRow HBM.out (Nat.le_succ _) _⟩
  · have hset : (ltVal l s).setIfInBounds 8 (.int .i64 x) = ltVal (setNum l _ x) s := HSN.out 8 rfl
    clear HSN HRN HBN
    go_enter Tryz.func52, Tryz.ntmps52
    go_wp2_with (first
      | (with_reducible refine g_alloc 37 ?_; refine wpList_alloc_as rfl _ rfl (ltVal zLt zSl) lt_zero ?_)
      | (with_reducible refine g_load 37 ?_; refine wpList_load_Row rfl _ _ rfl w.heap.size rfl (ltVal (setNum l 5 x) s) HRM.out _ Tryz.underlying37 rfl (size62 _ _ HRF.out) ?_)
      | (with_reducible refine g_store 37 ?_; refine wpList_store_row rfl _ _ _ rfl (w.heap.size + 1) (ltVal (setNum l 5 x) s) rfl rfl 37 (ltVal zLt zSl) (heap_alloc2_new w _ _) (size62 _ _ HRF.out) (sz_eq _ _ HRF.out) (ltVal_one _ _) ?_))
    exact bodyPost_ret (v := .agg (ltVal (setNum l 5 x) s)) (results_cell_row rfl _ _ (w.heap.size + 1) _ (ltVal (setNum l 5 x) s) (0, 0) _ rfl (setRow_heap _ _ _ _ _ _ (heap_alloc2_new w _ _)) Tryz.underlying37 rfl (size62 _ _ HRF.out)) rfl ⟨rfl, below_setRow HBM.out (Nat.le_succ _) _⟩
  · have hset : (ltVal l s).setIfInBounds 9 (.int .i64 x) = ltVal (setNum l _ x) s := HSN.out 9 rfl
    clear HSN HRN HBN
    go_enter Tryz.func52, Tryz.ntmps52
    go_wp2_with (first
      | (with_reducible refine g_alloc 37 ?_; refine wpList_alloc_as rfl _ rfl (ltVal zLt zSl) lt_zero ?_)
      | (with_reducible refine g_load 37 ?_; refine wpList_load_Row rfl _ _ rfl w.heap.size rfl (ltVal (setNum l 6 x) s) HRM.out _ Tryz.underlying37 rfl (size62 _ _ HRF.out) ?_)
      | (with_reducible refine g_store 37 ?_; refine wpList_store_row rfl _ _ _ rfl (w.heap.size + 1) (ltVal (setNum l 6 x) s) rfl rfl 37 (ltVal zLt zSl) (heap_alloc2_new w _ _) (size62 _ _ HRF.out) (sz_eq _ _ HRF.out) (ltVal_one _ _) ?_))
    exact bodyPost_ret (v := .agg (ltVal (setNum l 6 x) s)) (results_cell_row rfl _ _ (w.heap.size + 1) _ (ltVal (setNum l 6 x) s) (0, 0) _ rfl (setRow_heap _ _ _ _ _ _ (heap_alloc2_new w _ _)) Tryz.underlying37 rfl (size62 _ _ HRF.out)) rfl ⟨rfl, below_setRow HBM.out (Nat.le_succ _) _⟩
  · have hset : (ltVal l s).setIfInBounds 10 (.int .i64 x) = ltVal (setNum l _ x) s := HSN.out 10 rfl
    clear HSN HRN HBN
    go_enter Tryz.func52, Tryz.ntmps52
    go_wp2_with (first
      | (with_reducible refine g_alloc 37 ?_; refine wpList_alloc_as rfl _ rfl (ltVal zLt zSl) lt_zero ?_)
      | (with_reducible refine g_load 37 ?_; refine wpList_load_Row rfl _ _ rfl w.heap.size rfl (ltVal (setNum l 7 x) s) HRM.out _ Tryz.underlying37 rfl (size62 _ _ HRF.out) ?_)
      | (with_reducible refine g_store 37 ?_; refine wpList_store_row rfl _ _ _ rfl (w.heap.size + 1) (ltVal (setNum l 7 x) s) rfl rfl 37 (ltVal zLt zSl) (heap_alloc2_new w _ _) (size62 _ _ HRF.out) (sz_eq _ _ HRF.out) (ltVal_one _ _) ?_))
    exact bodyPost_ret (v := .agg (ltVal (setNum l 7 x) s)) (results_cell_row rfl _ _ (w.heap.size + 1) _ (ltVal (setNum l 7 x) s) (0, 0) _ rfl (setRow_heap _ _ _ _ _ _ (heap_alloc2_new w _ _)) Tryz.underlying37 rfl (size62 _ _ HRF.out)) rfl ⟨rfl, below_setRow HBM.out (Nat.le_succ _) _⟩
  · have hset : (ltVal l s).setIfInBounds 11 (.int .i64 x) = ltVal (setNum l _ x) s := HSN.out 11 rfl
    clear HSN HRN HBN
    go_enter Tryz.func52, Tryz.ntmps52
    go_wp2_with (first
      | (with_reducible refine g_alloc 37 ?_; refine wpList_alloc_as rfl _ rfl (ltVal zLt zSl) lt_zero ?_)
      | (with_reducible refine g_load 37 ?_; refine wpList_load_Row rfl _ _ rfl w.heap.size rfl (ltVal (setNum l 8 x) s) HRM.out _ Tryz.underlying37 rfl (size62 _ _ HRF.out) ?_)
      | (with_reducible refine g_store 37 ?_; refine wpList_store_row rfl _ _ _ rfl (w.heap.size + 1) (ltVal (setNum l 8 x) s) rfl rfl 37 (ltVal zLt zSl) (heap_alloc2_new w _ _) (size62 _ _ HRF.out) (sz_eq _ _ HRF.out) (ltVal_one _ _) ?_))
    exact bodyPost_ret (v := .agg (ltVal (setNum l 8 x) s)) (results_cell_row rfl _ _ (w.heap.size + 1) _ (ltVal (setNum l 8 x) s) (0, 0) _ rfl (setRow_heap _ _ _ _ _ _ (heap_alloc2_new w _ _)) Tryz.underlying37 rfl (size62 _ _ HRF.out)) rfl ⟨rfl, below_setRow HBM.out (Nat.le_succ _) _⟩
  · clear HSN HRF HRM HBM
    go_enter Tryz.func52, Tryz.ntmps52
    go_wp2_with (first
      | (with_reducible refine g_alloc 37 ?_; refine wpList_alloc_as rfl _ rfl (ltVal zLt zSl) lt_zero ?_)
      | (with_reducible refine g_load 37 ?_; refine wpList_load_Row rfl _ _ rfl w.heap.size rfl (ltVal l s) HRN.out _ Tryz.underlying37 rfl (size62 _ _ hr) ?_)
      | (with_reducible refine g_store 37 ?_; refine wpList_store_row rfl _ _ _ rfl (w.heap.size + 1) (ltVal l s) rfl rfl 37 (ltVal zLt zSl) (heap_alloc2_new w _ _) (size62 _ _ hr) (sz_eq _ _ hr) (ltVal_one _ _) ?_))
    exact bodyPost_ret (v := .agg (ltVal l s)) (results_cell_row rfl _ _ (w.heap.size + 1) _ (ltVal l s) (0, 0) _ rfl (setRow_heap _ _ _ _ _ _ (heap_alloc2_new w _ _)) Tryz.underlying37 rfl (size62 _ _ hr)) rfl ⟨rfl, below_setRow HBN.out (Nat.le_succ _) _⟩
  · clear HSN HRF HRM HBM
    go_enter Tryz.func52, Tryz.ntmps52
    go_wp2_with (first
      | (with_reducible refine g_alloc 37 ?_; refine wpList_alloc_as rfl _ rfl (ltVal zLt zSl) lt_zero ?_)
      | (with_reducible refine g_load 37 ?_; refine wpList_load_Row rfl _ _ rfl w.heap.size rfl (ltVal l s) HRN.out _ Tryz.underlying37 rfl (size62 _ _ hr) ?_)
      | (with_reducible refine g_store 37 ?_; refine wpList_store_row rfl _ _ _ rfl (w.heap.size + 1) (ltVal l s) rfl rfl 37 (ltVal zLt zSl) (heap_alloc2_new w _ _) (size62 _ _ hr) (sz_eq _ _ hr) (ltVal_one _ _) ?_))
    exact bodyPost_ret (v := .agg (ltVal l s)) (results_cell_row rfl _ _ (w.heap.size + 1) _ (ltVal l s) (0, 0) _ rfl (setRow_heap _ _ _ _ _ _ (heap_alloc2_new w _ _)) Tryz.underlying37 rfl (size62 _ _ hr)) rfl ⟨rfl, below_setRow HBN.out (Nat.le_succ _) _⟩
  · have hset : (ltVal l s).setIfInBounds 24 (.int .i64 x) = ltVal (setNum l _ x) s := HSN.out 24 rfl
    clear HSN HRN HBN
    go_enter Tryz.func52, Tryz.ntmps52
    go_wp2_with (first
      | (with_reducible refine g_alloc 37 ?_; refine wpList_alloc_as rfl _ rfl (ltVal zLt zSl) lt_zero ?_)
      | (with_reducible refine g_load 37 ?_; refine wpList_load_Row rfl _ _ rfl w.heap.size rfl (ltVal (setNum l 11 x) s) HRM.out _ Tryz.underlying37 rfl (size62 _ _ HRF.out) ?_)
      | (with_reducible refine g_store 37 ?_; refine wpList_store_row rfl _ _ _ rfl (w.heap.size + 1) (ltVal (setNum l 11 x) s) rfl rfl 37 (ltVal zLt zSl) (heap_alloc2_new w _ _) (size62 _ _ HRF.out) (sz_eq _ _ HRF.out) (ltVal_one _ _) ?_))
    exact bodyPost_ret (v := .agg (ltVal (setNum l 11 x) s)) (results_cell_row rfl _ _ (w.heap.size + 1) _ (ltVal (setNum l 11 x) s) (0, 0) _ rfl (setRow_heap _ _ _ _ _ _ (heap_alloc2_new w _ _)) Tryz.underlying37 rfl (size62 _ _ HRF.out)) rfl ⟨rfl, below_setRow HBM.out (Nat.le_succ _) _⟩
  · have hset : (ltVal l s).setIfInBounds 25 (.int .i64 x) = ltVal (setNum l _ x) s := HSN.out 25 rfl
    clear HSN HRN HBN
    go_enter Tryz.func52, Tryz.ntmps52
    go_wp2_with (first
      | (with_reducible refine g_alloc 37 ?_; refine wpList_alloc_as rfl _ rfl (ltVal zLt zSl) lt_zero ?_)
      | (with_reducible refine g_load 37 ?_; refine wpList_load_Row rfl _ _ rfl w.heap.size rfl (ltVal (setNum l 12 x) s) HRM.out _ Tryz.underlying37 rfl (size62 _ _ HRF.out) ?_)
      | (with_reducible refine g_store 37 ?_; refine wpList_store_row rfl _ _ _ rfl (w.heap.size + 1) (ltVal (setNum l 12 x) s) rfl rfl 37 (ltVal zLt zSl) (heap_alloc2_new w _ _) (size62 _ _ HRF.out) (sz_eq _ _ HRF.out) (ltVal_one _ _) ?_))
    exact bodyPost_ret (v := .agg (ltVal (setNum l 12 x) s)) (results_cell_row rfl _ _ (w.heap.size + 1) _ (ltVal (setNum l 12 x) s) (0, 0) _ rfl (setRow_heap _ _ _ _ _ _ (heap_alloc2_new w _ _)) Tryz.underlying37 rfl (size62 _ _ HRF.out)) rfl ⟨rfl, below_setRow HBM.out (Nat.le_succ _) _⟩
  · have hset : (ltVal l s).setIfInBounds 26 (.int .i64 x) = ltVal (setNum l _ x) s := HSN.out 26 rfl
    clear HSN HRN HBN
    go_enter Tryz.func52, Tryz.ntmps52
    go_wp2_with (first
      | (with_reducible refine g_alloc 37 ?_; refine wpList_alloc_as rfl _ rfl (ltVal zLt zSl) lt_zero ?_)
      | (with_reducible refine g_load 37 ?_; refine wpList_load_Row rfl _ _ rfl w.heap.size rfl (ltVal (setNum l 13 x) s) HRM.out _ Tryz.underlying37 rfl (size62 _ _ HRF.out) ?_)
      | (with_reducible refine g_store 37 ?_; refine wpList_store_row rfl _ _ _ rfl (w.heap.size + 1) (ltVal (setNum l 13 x) s) rfl rfl 37 (ltVal zLt zSl) (heap_alloc2_new w _ _) (size62 _ _ HRF.out) (sz_eq _ _ HRF.out) (ltVal_one _ _) ?_))
    exact bodyPost_ret (v := .agg (ltVal (setNum l 13 x) s)) (results_cell_row rfl _ _ (w.heap.size + 1) _ (ltVal (setNum l 13 x) s) (0, 0) _ rfl (setRow_heap _ _ _ _ _ _ (heap_alloc2_new w _ _)) Tryz.underlying37 rfl (size62 _ _ HRF.out)) rfl ⟨rfl, below_setRow HBM.out (Nat.le_succ _) _⟩
  · clear HSN HRF HRM HBM
    go_enter Tryz.func52, Tryz.ntmps52
    go_wp2_with (first
      | (with_reducible refine g_alloc 37 ?_; refine wpList_alloc_as rfl _ rfl (ltVal zLt zSl) lt_zero ?_)
      | (with_reducible refine g_load 37 ?_; refine wpList_load_Row rfl _ _ rfl w.heap.size rfl (ltVal l s) HRN.out _ Tryz.underlying37 rfl (size62 _ _ hr) ?_)
      | (with_reducible refine g_store 37 ?_; refine wpList_store_row rfl _ _ _ rfl (w.heap.size + 1) (ltVal l s) rfl rfl 37 (ltVal zLt zSl) (heap_alloc2_new w _ _) (size62 _ _ hr) (sz_eq _ _ hr) (ltVal_one _ _) ?_))
    exact bodyPost_ret (v := .agg (ltVal l s)) (results_cell_row rfl _ _ (w.heap.size + 1) _ (ltVal l s) (0, 0) _ rfl (setRow_heap _ _ _ _ _ _ (heap_alloc2_new w _ _)) Tryz.underlying37 rfl (size62 _ _ hr)) rfl ⟨rfl, below_setRow HBN.out (Nat.le_succ _) _⟩
  · clear HSN HRF HRM HBM
    go_enter Tryz.func52, Tryz.ntmps52
    go_wp2_with (first
      | (with_reducible refine g_alloc 37 ?_; refine wpList_alloc_as rfl _ rfl (ltVal zLt zSl) lt_zero ?_)
      | (with_reducible refine g_load 37 ?_; refine wpList_load_Row rfl _ _ rfl w.heap.size rfl (ltVal l s) HRN.out _ Tryz.underlying37 rfl (size62 _ _ hr) ?_)
      | (with_reducible refine g_store 37 ?_; refine wpList_store_row rfl _ _ _ rfl (w.heap.size + 1) (ltVal l s) rfl rfl 37 (ltVal zLt zSl) (heap_alloc2_new w _ _) (size62 _ _ hr) (sz_eq _ _ hr) (ltVal_one _ _) ?_))
    exact bodyPost_ret (v := .agg (ltVal l s)) (results_cell_row rfl _ _ (w.heap.size + 1) _ (ltVal l s) (0, 0) _ rfl (setRow_heap _ _ _ _ _ _ (heap_alloc2_new w _ _)) Tryz.underlying37 rfl (size62 _ _ hr)) rfl ⟨rfl, below_setRow HBN.out (Nat.le_succ _) _⟩
  · clear HSN HRF HRM HBM
    go_enter Tryz.func52, Tryz.ntmps52
    go_wp2_with (first
      | (with_reducible refine g_alloc 37 ?_; refine wpList_alloc_as rfl _ rfl (ltVal zLt zSl) lt_zero ?_)
      | (with_reducible refine g_load 37 ?_; refine wpList_load_Row rfl _ _ rfl w.heap.size rfl (ltVal l s) HRN.out _ Tryz.underlying37 rfl (size62 _ _ hr) ?_)
      | (with_reducible refine g_store 37 ?_; refine wpList_store_row rfl _ _ _ rfl (w.heap.size + 1) (ltVal l s) rfl rfl 37 (ltVal zLt zSl) (heap_alloc2_new w _ _) (size62 _ _ hr) (sz_eq _ _ hr) (ltVal_one _ _) ?_))
    exact bodyPost_ret (v := .agg (ltVal l s)) (results_cell_row rfl _ _ (w.heap.size + 1) _ (ltVal l s) (0, 0) _ rfl (setRow_heap _ _ _ _ _ _ (heap_alloc2_new w _ _)) Tryz.underlying37 rfl (size62 _ _ hr)) rfl ⟨rfl, below_setRow HBN.out (Nat.le_succ _) _⟩
end Go.Proofs.YthhbbebabmemfaaGreat

/- rule.shapes, rule.nameOK at made names, slices.ContainsFunc over numbers (where the answer is no). -/
namespace Go.Proofs.YthhbbebabmemfaaGreat
open Go Go.RowKit

def shT : List (Int × Bool × Int × Int) := [(0, false, 0, 0), (0, false, 0, 0), (0, true, 0, 0), (0, true, 1, 16), (0, true, -40, 40), (0, false, 0, 6), (0, true, 1, 54), (0, true, 0, 0), (2, false, 0, 0), (2, false, 0, 0), (2, false, 0, 0), (1, false, 0, 0), (1, false, 0, 0), (1, false, 0, 0), (1, false, 0, 1099511627776), (1, false, 0, 1099511627776), (1, true, -400, 400), (2, false, 0, 0), (0, false, 0, 0)]
def shC : Array Value := (shT.flatMap fun x => [I x.1, .bool x.2.1, I x.2.2.1, I x.2.2.2]).toArray
def zShC : Array Value := ((List.replicate 19 ()).flatMap fun _ => [I 0, .bool false, I 0, I 0]).toArray
def opn (k : Nat) : Int := (shT[k]?.getD (0, false, 0, 0)).1
def calB (k : Nat) : Bool := (shT[k]?.getD (0, false, 0, 0)).2.1
def shLo (k : Nat) : Int := (shT[k]?.getD (0, false, 0, 0)).2.2.1
def shHi (k : Nat) : Int := (shT[k]?.getD (0, false, 0, 0)).2.2.2
theorem sh_info : (Tryz.prog.info? 142).map (fun i => (i.zero, i.size)) = some (some (.agg zShC), zShC.size) := by kernel_rfl
theorem sh_size : (Tryz.prog.info? 142).map (·.size) = some shC.size := by kernel_rfl
theorem sh_info' : (Tryz.prog.info? 142).map (fun i => (i.zero, i.size)) = some (some (.agg zShC), shC.size) := by kernel_rfl
theorem sh_one : shC.all (·.oneCell') = true := by kernel_rfl
theorem shC_at : ∀ k : Nat, k < 19 → shC[k * 4]? = some (I (opn k)) ∧ shC[k * 4 + 1]? = some (.bool (calB k)) ∧ shC[k * 4 + 2]? = some (I (shLo k)) ∧ shC[k * 4 + 3]? = some (I (shHi k)) := by
  intro k hk
  have h : k = 0 ∨ k = 1 ∨ k = 2 ∨ k = 3 ∨ k = 4 ∨ k = 5 ∨ k = 6 ∨ k = 7 ∨ k = 8 ∨ k = 9 ∨ k = 10 ∨ k = 11 ∨ k = 12 ∨ k = 13 ∨ k = 14 ∨ k = 15 ∨ k = 16 ∨ k = 17 ∨ k = 18 := by omega
  rcases h with rfl | rfl | rfl | rfl | rfl | rfl | rfl | rfl | rfl | rfl | rfl | rfl | rfl | rfl | rfl | rfl | rfl | rfl | rfl <;> exact ⟨by kernel_rfl, by kernel_rfl, by kernel_rfl, by kernel_rfl⟩
set_option maxRecDepth 10000 in
set_option maxHeartbeats 4000000 in
theorem shapes_any (w : World) : Calls Tryz.prog 79 #[] w (Gives (.agg shC) w) := by
  have HB := Lib.hid (below_var w (.cells zShC 142))
  have HRES := Lib.hid (heap_alloc_last w (.cells zShC 142))
  go_enter Tryz.func79, Tryz.ntmps79
  go_wp2_with (first
    | (with_reducible refine g_alloc 142 ?_; refine wpList_alloc_as rfl _ rfl zShC sh_info ?_)
    | (with_reducible refine at_build 142 ?_; refine wpList_build_as rfl _ rfl shC (by kernel_rfl) ?_)
    | (with_reducible refine g_store 142 ?_; refine wpList_store_row rfl _ _ _ rfl w.heap.size shC rfl rfl 142 zShC HRES.out sh_size rfl sh_one ?_))
  exact bodyPost_ret (v := .agg shC) (results_cell_row rfl _ _ w.heap.size _ shC (0, 0) _ rfl (setRow_heap _ _ _ _ _ _ HRES.out) Tryz.underlying142 rfl sh_size) rfl ⟨rfl, below_setRow HB.out (Nat.le_refl _) _⟩
theorem below_iter (w : World) (s : ByteArray) (pos : Nat) : Below w.heap.size w (w.iter s pos) := below_var w (.stringIter s pos)
set_option maxRecDepth 10000 in
set_option maxHeartbeats 4000000 in
theorem nameOK_two (b : UInt8) (hb : b = 48 ∨ b = 49) (w : World) : Calls Tryz.prog 92 #[.string ⟨#[110, b]⟩] w (Gives (.bool true) w) := by
  have n0 : ∀ ty, (Instr.next (.pointer (some ⟨w.heap.size, 0, none⟩)) true ty).run Tryz.prog (w.iter ⟨#[110, b]⟩ 0) = .ok (.tuple #[.bool true, .int .i64 0, .int .i32 110]) (w.iter ⟨#[110, b]⟩ 1) := fun ty => run_next_ascii w ⟨#[110, b]⟩ 0 ty (by show 0 < 2; omega) (by show (110 : UInt8).toNat < 128; decide)
  have n1 : ∀ ty, (Instr.next (.pointer (some ⟨w.heap.size, 0, none⟩)) true ty).run Tryz.prog (w.iter ⟨#[110, b]⟩ 1) = .ok (.tuple #[.bool true, .int .i64 1, .int .i32 b.toNat]) (w.iter ⟨#[110, b]⟩ 2) := fun ty => run_next_ascii w ⟨#[110, b]⟩ 1 ty (by show 1 < 2; omega) (by show b.toNat < 128; rcases hb with rfl | rfl <;> decide)
  have n2 : ∀ ty, (Instr.next (.pointer (some ⟨w.heap.size, 0, none⟩)) true ty).run Tryz.prog (w.iter ⟨#[110, b]⟩ 2) = .ok (.tuple #[.bool false]) (w.iter ⟨#[110, b]⟩ 2) := fun ty => run_next_end w ⟨#[110, b]⟩ 2 ty (by show ¬ 2 < 2; omega)
  have hb1 : (48 : Int) ≤ b.toNat ∧ (b.toNat : Int) ≤ 57 := by rcases hb with rfl | rfl <;> decide
  obtain ⟨c, hc⟩ : ∃ c : Nat, b.toNat = c := ⟨_, rfl⟩
  rw [hc] at n1 hb1
  have HB := Lib.hid (below_iter w ⟨#[110, b]⟩ 2)
  have hsz : (⟨#[110, b]⟩ : ByteArray).size = 2 := rfl
  have hne : (⟨#[110, b]⟩ : ByteArray).toList.isEmpty = false := by rcases hb with rfl | rfl <;> kernel_rfl
  have hne2 : ¬ (⟨#[110, b]⟩ : ByteArray).toList = [] := fun h => by rw [h] at hne; cases hne
  obtain ⟨s, hs⟩ : ∃ s : ByteArray, (⟨#[110, b]⟩ : ByteArray) = s := ⟨_, rfl⟩
  rw [hs] at n0 n1 n2 HB hsz hne hne2 ⊢
  have hit : ∀ p, (w.iter s p).iterPos w.heap.size = p := fun p => by simp [World.iterPos, World.iter_heap]
  obtain ⟨h1, h2⟩ := hb1
  clear hb hc hs
  go_enter Tryz.func92, Tryz.ntmps92
  go_wp2
  go_loopw [3] (fun _ wr => ∃ p : Nat, p ≤ 2 ∧ wr = w.iter s p) (fun _ wr => 2 - wr.iterPos w.heap.size)
  case atStart => exact ⟨0, by omega, rfl⟩
  case round =>
    obtain ⟨p, hp, rfl⟩ := hrel
    have h : p = 0 ∨ p = 1 ∨ p = 2 := by omega
    clear hp
    rcases h with rfl | rfl | rfl
    · clear n1 n2
      go_wp2
      go_roundw
      case rel => exact ⟨1, by omega, rfl⟩
      case measure => rw [hit, hit]; omega
    · clear n0 n2
      go_wp2
      all_goals
        go_roundw
        case rel => exact ⟨2, by omega, rfl⟩
        case measure => rw [hit, hit]; omega
    · clear n0 n1
      go_wp2
      go_ret
      exact ⟨rfl, HB.out⟩
theorem nameOK_made (k : Int) (hk : k = 0 ∨ k = 1) (w : World) : Calls Tryz.prog 92 #[.string (⟨#[110]⟩ ++ digit k)] w (Gives (.bool true) w) := by
  rcases hk with rfl | rfl
  · exact nameOK_two 48 (.inl rfl) w
  · exact nameOK_two 49 (.inr rfl) w
end Go.Proofs.YthhbbebabmemfaaGreat

/- rule.nameOK on any string. -/
namespace Go.Proofs.YthhbbebabmemfaaGreat
open Go Go.RowKit

def okAt (c p : Nat) : Prop := (97 ≤ c ∧ c ≤ 122) ∨ (65 ≤ c ∧ c ≤ 90) ∨ (p ≠ 0 ∧ ((48 ≤ c ∧ c ≤ 57) ∨ c = 45))
def runPos (s : ByteArray) : Nat → Nat
  | 0 => 0
  | k + 1 => runPos s k + (Utf8.decode s (runPos s k)).2
/-- A name that is well-formed. -/
def NameG (s : ByteArray) : Prop := 1 ≤ s.size ∧ s.size ≤ 32 ∧ ∀ k, runPos s k < s.size → okAt (Utf8.decode s (runPos s k)).1 (runPos s k)
theorem width_pos (s : ByteArray) (p : Nat) (h : p < s.size) : 1 ≤ (Utf8.decode s p).2 := by
  by_cases ha : (s[p]'h).toNat < 128
  · rw [decode_ascii s p h ha]; exact Nat.le_refl _
  · exact (decode_high s p h (by omega)).2
def NameIs (s : ByteArray) (w : World) (e : Ending) (w' : World) : Prop := ∃ b : Bool, e = .returned (.bool b) ∧ (b = true ↔ NameG s) ∧ Below w.heap.size w w'
theorem NameIs.no {s : ByteArray} {w w' : World} (h : ¬ NameG s) (hb : Below w.heap.size w w') : NameIs s w (.returned (.bool false)) w' := ⟨false, rfl, ⟨fun h => (nomatch h), fun h2 => absurd h2 h⟩, hb⟩
theorem NameIs.yes {s : ByteArray} {w w' : World} (h : NameG s) (hb : Below w.heap.size w w') : NameIs s w (.returned (.bool true)) w' := ⟨true, rfl, ⟨fun _ => h, fun _ => rfl⟩, hb⟩
set_option maxRecDepth 10000 in
set_option maxHeartbeats 4000000 in
theorem nameOK_is (s : ByteArray) (w : World) : Calls Tryz.prog 92 #[.string s] w (NameIs s w) := by
  have hit : ∀ p, (w.iter s p).iterPos w.heap.size = p := fun p => World.iterPos_iter w s p
  have HB : Hid (∀ p, Below w.heap.size w (w.iter s p)) := Lib.hid fun p => below_iter w s p
  go_enter Tryz.func92, Tryz.ntmps92
  go_wp2
  go_loopw [3] (fun _ wr => ∃ k : Nat, wr = w.iter s (runPos s k) ∧ ∀ j, j < k → runPos s j < s.size ∧ okAt (Utf8.decode s (runPos s j)).1 (runPos s j)) (fun _ wr => s.size - wr.iterPos w.heap.size)
  case atStart => exact ⟨0, rfl, fun j hj => absurd hj (Nat.not_lt_zero _)⟩
  case round =>
    obtain ⟨k, rfl, hal⟩ := hrel
    have HAL := Lib.hid hal
    clear hal
    by_cases hlt : runPos s k < s.size
    · have hn : ∀ ty, (Instr.next (.pointer (some ⟨w.heap.size, 0, none⟩)) true ty).run Tryz.prog (w.iter s (runPos s k)) = .ok (.tuple #[.bool true, .int .i64 (runPos s k), .int .i32 (Utf8.decode s (runPos s k)).1]) (w.iter s (runPos s k + (Utf8.decode s (runPos s k)).2)) := fun ty => run_next_any w s (runPos s k) ty hlt
      have hw := width_pos s (runPos s k) hlt
      have HSN : Hid (okAt (Utf8.decode s (runPos s k)).1 (runPos s k) → ∀ j, j < k + 1 → runPos s j < s.size ∧ okAt (Utf8.decode s (runPos s j)).1 (runPos s j)) := Lib.hid fun h j hj => by
        by_cases e : j = k
        · subst e; exact ⟨hlt, h⟩
        · exact HAL.out j (by omega)
      have HNO : Hid (¬ okAt (Utf8.decode s (runPos s k)).1 (runPos s k) → ¬ NameG s) := Lib.hid fun h hg => h (hg.2.2 k hlt)
      have HRS : Hid (runPos s (k + 1) = runPos s k + (Utf8.decode s (runPos s k)).2) := Lib.hid rfl
      have HLT := Lib.hid hlt
      obtain ⟨p, hp⟩ : ∃ p, runPos s k = p := ⟨_, rfl⟩
      rw [hp] at hn hw HSN HNO HRS HLT ⊢
      obtain ⟨c, hc⟩ : ∃ c, (Utf8.decode s p).1 = c := ⟨_, rfl⟩
      obtain ⟨d, hd⟩ : ∃ d, (Utf8.decode s p).2 = d := ⟨_, rfl⟩
      rw [hc, hd] at hn
      rw [hd] at hw HRS
      rw [hc] at HSN HNO
      have HW := Lib.hid hw
      clear hc hd hp hlt hw HAL
      by_cases l1 : 97 ≤ c ∧ c ≤ 122
      · have a1 : (97 : Int) ≤ (c : Int) := by omega
        have a2 : (c : Int) ≤ 122 := by omega
        have HL := Lib.hid l1
        clear l1
        go_wp2
        go_roundw
        case rel => exact ⟨k + 1, by rw [HRS.out], HSN.out (.inl HL.out)⟩
        case measure => rw [hit, hit]; have := HLT.out; have := HW.out; omega
      · by_cases l2 : 65 ≤ c ∧ c ≤ 90
        · have a1 : (65 : Int) ≤ (c : Int) := by omega
          have a2 : (c : Int) ≤ 90 := by omega
          have a3 : ¬ (97 : Int) ≤ (c : Int) := by omega
          have HL := Lib.hid l2
          clear l1 l2
          go_wp2
          go_roundw
          case rel => exact ⟨k + 1, by rw [HRS.out], HSN.out (.inr (.inl HL.out))⟩
          case measure => rw [hit, hit]; have := HLT.out; have := HW.out; omega
        · by_cases l0 : p = 0
          · subst l0
            have HL : Hid (¬ NameG s) := Lib.hid (HNO.out (by unfold okAt; omega))
            have a1 : (97 : Int) ≤ (c : Int) → ¬ (c : Int) ≤ 122 := by omega
            have a2 : (65 : Int) ≤ (c : Int) → ¬ (c : Int) ≤ 90 := by omega
            clear l1 l2
            by_cases b1 : (97 : Int) ≤ (c : Int)
            · have b2 := a1 b1
              have b3 : (65 : Int) ≤ (c : Int) := by omega
              have b4 := a2 b3
              clear a1 a2
              go_wp2
              go_ret
              exact NameIs.no HL.out (HB.out _)
            · by_cases b3 : (65 : Int) ≤ (c : Int)
              · have b4 := a2 b3
                clear a1 a2
                go_wp2
                go_ret
                exact NameIs.no HL.out (HB.out _)
              · clear a1 a2
                go_wp2
                go_ret
                exact NameIs.no HL.out (HB.out _)
          · have l00 : ((p : Int) == 0) = false := by simp; omega
            by_cases l3 : (48 ≤ c ∧ c ≤ 57) ∨ c = 45
            · have HL : Hid (okAt c p) := Lib.hid (.inr (.inr ⟨l0, l3⟩))
              have b1 : ¬ (97 : Int) ≤ (c : Int) := by omega
              have b3 : ¬ (65 : Int) ≤ (c : Int) := by omega
              rcases l3 with ⟨d1, d2⟩ | d3
              · have e1 : (48 : Int) ≤ (c : Int) := by omega
                have e2 : (c : Int) ≤ 57 := by omega
                clear l1 l2 l0 d1 d2
                go_wp2
                go_roundw
                case rel => exact ⟨k + 1, by rw [HRS.out], HSN.out HL.out⟩
                case measure => rw [hit, hit]; have := HLT.out; have := HW.out; omega
              · subst d3
                clear l1 l2 l0
                go_wp2
                go_roundw
                case rel => exact ⟨k + 1, by rw [HRS.out], HSN.out HL.out⟩
                case measure => rw [hit, hit]; have := HLT.out; have := HW.out; omega
            · have HL : Hid (¬ NameG s) := Lib.hid (HNO.out (by unfold okAt; omega))
              have e45 : ((c : Int) == 45) = false := by simp; omega
              have b2 : (97 : Int) ≤ (c : Int) → ¬ (c : Int) ≤ 122 := by omega
              have b4 : (65 : Int) ≤ (c : Int) → ¬ (c : Int) ≤ 90 := by omega
              have b6 : (48 : Int) ≤ (c : Int) → ¬ (c : Int) ≤ 57 := by omega
              have g1 : (97 : Int) ≤ (c : Int) ∨ (¬ (97 : Int) ≤ (c : Int) ∧ (65 : Int) ≤ (c : Int)) ∨ (¬ (65 : Int) ≤ (c : Int) ∧ ¬ (97 : Int) ≤ (c : Int) ∧ (48 : Int) ≤ (c : Int)) ∨ (¬ (65 : Int) ≤ (c : Int) ∧ ¬ (97 : Int) ≤ (c : Int) ∧ ¬ (48 : Int) ≤ (c : Int)) := by omega
              rcases g1 with b1 | ⟨b1, b3⟩ | ⟨b3, b1, b5⟩ | ⟨b3, b1, b5⟩
              · have c2 := b2 b1
                have b3 : (65 : Int) ≤ (c : Int) := by omega
                have c4 := b4 b3
                have b5 : (48 : Int) ≤ (c : Int) := by omega
                have c6 := b6 b5
                clear b2 b4 b6 l1 l2 l3 l0
                go_wp2
                go_ret
                exact NameIs.no HL.out (HB.out _)
              · have c4 := b4 b3
                have b5 : (48 : Int) ≤ (c : Int) := by omega
                have c6 := b6 b5
                clear b2 b4 b6 l1 l2 l3 l0
                go_wp2
                go_ret
                exact NameIs.no HL.out (HB.out _)
              · have c6 := b6 b5
                clear b2 b4 b6 l1 l2 l3 l0
                go_wp2
                go_ret
                exact NameIs.no HL.out (HB.out _)
              · clear b2 b4 b6 l1 l2 l3 l0
                go_wp2
                go_ret
                exact NameIs.no HL.out (HB.out _)
    · have hn : ∀ ty, (Instr.next (.pointer (some ⟨w.heap.size, 0, none⟩)) true ty).run Tryz.prog (w.iter s (runPos s k)) = .ok (.tuple #[.bool false]) (w.iter s (runPos s k)) := fun ty => run_next_end w s (runPos s k) ty hlt
      have HALL : Hid (∀ j, runPos s j < s.size → okAt (Utf8.decode s (runPos s j)).1 (runPos s j)) := Lib.hid fun j hj => by
        by_cases e : j < k
        · exact (HAL.out j e).2
        · exfalso
          have hmon : ∀ d, runPos s k ≤ runPos s (k + d) := fun d => by
            induction d with
            | zero => exact Nat.le_refl _
            | succ d ih => exact Nat.le_trans ih (Nat.le_add_right _ _)
          have h := hmon (j - k)
          rw [Nat.add_sub_cancel' (by omega)] at h
          omega
      clear HAL hlt
      obtain ⟨p, hp⟩ : ∃ p, runPos s k = p := ⟨_, rfl⟩
      rw [hp] at hn ⊢
      clear hp
      by_cases h0 : s.size = 0
      · have hs : s = ⟨#[]⟩ := by obtain ⟨d⟩ := s; have h : d.size = 0 := h0; rw [Array.eq_empty_of_size_eq_zero h]
        have HL : Hid (¬ NameG s) := Lib.hid fun h => by have := h.1; omega
        subst hs
        clear h0
        go_wp2
        go_ret
        exact NameIs.no HL.out (HB.out _)
      · have hne : s.toList.isEmpty = false := by
          rw [ByteArray.toList_eq, List.isEmpty_eq_false_iff]
          intro h
          apply h0
          have h2 := congrArg List.length h
          simpa using h2
        have hne2 : ¬ s.toList = [] := fun h => by rw [h] at hne; cases hne
        by_cases h32 : s.size ≤ 32
        · have HL : Hid (NameG s) := Lib.hid ⟨by omega, h32, HALL.out⟩
          have i1 : (s.size : Int) ≤ 32 := by omega
          clear h0 h32
          go_wp2
          go_ret
          exact NameIs.yes HL.out (HB.out _)
        · have HL : Hid (¬ NameG s) := Lib.hid fun h => h32 h.2.1
          have i1 : ¬ (s.size : Int) ≤ 32 := by omega
          clear h0 h32
          go_wp2
          go_ret
          exact NameIs.no HL.out (HB.out _)
theorem nameOK_good (s : ByteArray) (h : NameG s) (w : World) : Calls Tryz.prog 92 #[.string s] w (Gives (.bool true) w) :=
  (nameOK_is s w).mono fun e w' ⟨b, h1, h2, h3⟩ => by
    rw [h2.2 h] at h1
    exact ⟨h1, h3⟩
theorem nameG_two (b : UInt8) (hb : b = 48 ∨ b = 49) : NameG ⟨#[110, b]⟩ := by
  obtain ⟨s, hs⟩ : ∃ s : ByteArray, (⟨#[110, b]⟩ : ByteArray) = s := ⟨_, rfl⟩
  have hz : s.size = 2 := by rw [← hs]; rfl
  have d0 : Utf8.decode s 0 = (110, 1) := by
    have h := decode_ascii s 0 (by omega) (by subst hs; show (110 : UInt8).toNat < 128; decide)
    rw [h]; subst hs; rfl
  have d1 : Utf8.decode s 1 = (b.toNat, 1) := by
    have h := decode_ascii s 1 (by omega) (by subst hs; show b.toNat < 128; rcases hb with rfl | rfl <;> decide)
    rw [h]; subst hs; rfl
  have r1 : runPos s 1 = 1 := by show 0 + (Utf8.decode s 0).2 = 1; rw [d0]; rfl
  have r2 : runPos s 2 = 2 := by show runPos s 1 + (Utf8.decode s (runPos s 1)).2 = 2; rw [r1, d1]; rfl
  rw [hs]
  refine ⟨by omega, by omega, fun k hk => ?_⟩
  have hmon : ∀ d, runPos s 2 ≤ runPos s (2 + d) := fun d => by
    induction d with
    | zero => exact Nat.le_refl _
    | succ d ih => exact Nat.le_trans ih (Nat.le_add_right _ _)
  match k, hk with
  | 0, _ => show okAt (Utf8.decode s 0).1 0; rw [d0]; exact .inl (by decide)
  | 1, _ => rw [r1, d1]; exact .inr (.inr ⟨by decide, .inl (by rcases hb with rfl | rfl <;> decide)⟩)
  | k + 2, hk =>
    have h := hmon k
    rw [Nat.add_comm 2 k] at h
    omega
theorem nameG_made (k : Int) (hk : k = 0 ∨ k = 1) : NameG (⟨#[110]⟩ ++ digit k) := by
  rcases hk with rfl | rfl
  · exact nameG_two 48 (.inl rfl)
  · exact nameG_two 49 (.inr rfl)
end Go.Proofs.YthhbbebabmemfaaGreat

/- A struct under way beside the maker, of any type; kalendsref20.MadeMove. -/
namespace Go.Proofs.YthhbbebabmemfaaGreat
open Go Go.RowKit

/-- The result's variable at b4 (zero), a variable of the same type at b6. -/
structure GS (t : TypeId) (z : Array Value) (w0 : World) (mb : Nat) (xs : List Int) (a nd b4 b6 : Nat) (cs : Array Value) (W : World) : Prop where
  hm : mb < w0.heap.size
  mkr : MkSt W mb xs a nd
  keep : MKeep mb w0 W
  lo : w0.heap.size ≤ b4
  ne : b4 < b6
  res : W.heap[b4]? = some (.cells z t (0, 0))
  var : W.heap[b6]? = some (.cells cs t (0, 0))
section
variable {t : TypeId} {z : Array Value} {w0 W W' : World} {mb a a' nd nd' b4 b6 : Nat} {xs : List Int} {cs : Array Value}
theorem GS.lt (h : GS t z w0 mb xs a nd b4 b6 cs W) : b6 < W.heap.size := (Array.getElem?_eq_some_iff.1 h.var).1
theorem GS.cell (h : GS t z w0 mb xs a nd b4 b6 cs W) : ∀ i, W.cell? ⟨b6, i, none⟩ = cs[i]? := fun i => cell_of_row W b6 i _ _ _ h.var
theorem GS.froz (h : GS t z w0 mb xs a nd b4 b6 cs W) : ∀ i, W.frozen? ⟨b6, i, none⟩ = false := fun i => frozen_of_row W b6 i _ _ h.var
theorem GS.row (h : GS t z w0 mb xs a nd b4 b6 cs W) : Row W b6 cs := ⟨h.lt, h.cell⟩
theorem GS.step (h : GS t z w0 mb xs a nd b4 b6 cs W) (hm : MkSt W' mb xs a' nd') (hk : MKeep mb W W') : GS t z w0 mb xs a' nd' b4 b6 cs W' :=
  have h1 := h.hm
  have h2 := h.lo
  have h3 := h.ne
  have h4 := h.lt
  ⟨h.hm, hm, h.keep.trans hk, h.lo, h.ne, (hk.block b4 (by omega) (by omega)).trans h.res, (hk.block b6 (by omega) (by omega)).trans h.var⟩
theorem GS.pick (h : GS t z w0 mb xs a nd b4 b6 cs W) (hx : XsOK xs) (n : Int) (ha : a ≤ 1000000000) (hn : 0 < n) (hn2 : n ≤ 1000000000000000000) :
    Calls Tryz.prog 30 #[pt mb, I n] W fun e W' => ∃ r, e = .returned (I r) ∧ 0 ≤ r ∧ r < n ∧ MKeep mb W W' ∧ GS t z w0 mb xs (a + 1) nd b4 b6 cs W' :=
  (pick_any W mb xs a nd n h.mkr hx ha hn hn2).mono fun _ _ ⟨r, h1, h2, h3, h4, h5⟩ => ⟨r, h1, h2, h3, h5, h.step h4 h5⟩
theorem GS.store (h : GS t z w0 mb xs a nd b4 b6 cs W) (o : Nat) (v : Value) : GS t z w0 mb xs a nd b4 b6 (cs.setIfInBounds o v) (W.setCell ⟨b6, o, none⟩ v) := by
  have h1 := h.hm
  have h2 := h.lo
  have h3 := h.ne
  have hb : Below b6 W (W.setCell ⟨b6, o, none⟩ v) := (Below.refl b6 W).setCell (p := ⟨b6, o, none⟩) (Nat.le_refl _) _
  refine ⟨h.hm, h.mkr.far _ _ (by show mb < b6; omega), ?_, h.lo, h.ne, (hb.block b4 (by omega)).trans h.res, heap_setCell_same W b6 o _ _ _ h.var⟩
  exact ⟨hb.os.trans h.keep.os, hb.tape.trans h.keep.tape, hb.output.trans h.keep.output, Nat.le_trans h.keep.size hb.size, fun k hk hn => (hb.block k (by omega)).trans (h.keep.block k hk hn)⟩
theorem GS.start {w w1 : World} (hm : MkSt w1 mb xs a nd) (hml : mb < w.heap.size) (hk : MKeep mb (w.alloc (.cells z t)) w1) :
    GS t z w mb xs a nd w.heap.size w1.heap.size cs (w1.alloc (.cells cs t)) := by
  have hs := hk.size
  rw [World.size_alloc] at hs
  have hk0 : MKeep mb w w1 := (MKeep.of_below (below_var w (.cells z t))).trans hk
  refine ⟨hml, hm.grow (below_var w1 _), hk0.trans (MKeep.of_below (below_var w1 _)), Nat.le_refl _, by omega, ?_, heap_alloc_last w1 _⟩
  rw [Below.heap_alloc w1 _ _ (by omega), hk.block _ (by simp) (by omega), heap_alloc_last]
/-- Behind the store of the result. -/
theorem GS.fin (h : GS t z w0 mb xs a nd b4 b6 cs W) : MkSt (W.setRow b4 cs) mb xs a nd ∧ MKeep mb w0 (W.setRow b4 cs) := by
  have h1 := h.hm
  have h2 := h.lo
  have hb : Below b4 W (W.setRow b4 cs) := below_setRow (Below.refl b4 W) (Nat.le_refl _) _
  refine ⟨?_, ?_⟩
  · obtain ⟨A', c', g1, g2⟩ := h.mkr
    exact ⟨A', c', (setRow_other W b4 mb _ (by omega)).trans g1, g2.keep (hb.mono (by omega))⟩
  · exact ⟨hb.os.trans h.keep.os, hb.tape.trans h.keep.tape, hb.output.trans h.keep.output, Nat.le_trans h.keep.size hb.size, fun k hk hn => (setRow_other W b4 k _ (by omega)).trans (h.keep.block k hk hn)⟩
end
def MoveOK (day : Int) (m : Mv) : Prop := m.day = day ∧ ((m.drop = true ∧ m.toDay = 0 ∧ m.minute = 0 ∧ m.length = 0) ∨ (m.drop = false ∧ 0 ≤ m.toDay ∧ m.toDay < 60 ∧ 0 ≤ m.minute ∧ m.minute < 1440 ∧ 1 ≤ m.length ∧ m.length ≤ 300))
def Moved1 (w : World) (mb : Nat) (xs : List Int) (at_ nodes : Nat) (day : Int) (e : Ending) (w' : World) : Prop :=
  ∃ m a', e = .returned (.agg (mvCells m)) ∧ MoveOK day m ∧ MkSt w' mb xs a' nodes ∧ a' ≤ at_ + 4 ∧ MKeep mb w w'
def zMove : Array Value := #[I 0, .bool false, I 0, I 0, I 0]
theorem mv_size (m : Mv) : (Tryz.prog.info? 26).map (·.size) = some (mvCells m).size := by kernel_rfl
theorem mv_one (m : Mv) : (mvCells m).all (·.oneCell') = true := by kernel_rfl
set_option maxRecDepth 10000 in
set_option maxHeartbeats 1000000 in
theorem madeMove_any (w : World) (mb : Nat) (xs : List Int) (at_ nodes : Nat) (day : Int) (h : MkSt w mb xs at_ nodes) (hx : XsOK xs) (hat : at_ ≤ 10000000) :
    Calls Tryz.prog 53 #[pt mb, I day] w (Moved1 w mb xs at_ nodes day) := by
  have HM0 := Lib.hid (h.grow (below_var w (.cells zMove 26)))
  have hml := h.lt
  clear h
  go_enter Tryz.func53, Tryz.ntmps53
  go_wp2_with fail
  refine (pick_any _ mb xs at_ nodes 3 HM0.out hx (by omega) (by omega) (by omega)).mono ?_
  rintro e w1 ⟨r, rfl, hr1, hr2, hm1, hk1⟩
  have HM1 := Lib.hid hm1
  have HK1 := Lib.hid hk1
  clear hm1 hk1 HM0
  by_cases hr : r = 1
  · subst hr
    clear hr1 hr2
    have hres : w1.heap[w.heap.size]? = some (.cells zMove 26 (0, 0)) := (HK1.out.block _ (by simp) (by omega)).trans (heap_alloc_last w _)
    have HRES := Lib.hid hres
    clear hres
    go_wp2_with (with_reducible refine g_store 26 ?_; refine wpList_store_row rfl _ _ _ rfl w.heap.size (mvCells ⟨day, true, 0, 0, 0⟩) rfl rfl 26 zMove HRES.out (mv_size _) rfl (mv_one _) ?_)
    have hb : Below w.heap.size w1 (w1.setRow w.heap.size (mvCells ⟨day, true, 0, 0, 0⟩)) := below_setRow (Below.refl _ w1) (Nat.le_refl _) _
    have hk0 : MKeep mb w w1 := (MKeep.of_below (below_var w (.cells zMove 26))).trans HK1.out
    refine bodyPost_ret (v := .agg (mvCells ⟨day, true, 0, 0, 0⟩)) (results_cell_row rfl _ _ w.heap.size _ (mvCells ⟨day, true, 0, 0, 0⟩) (0, 0) _ rfl (setRow_heap _ _ _ _ _ _ HRES.out) Tryz.underlying26 rfl (mv_size _)) rfl ⟨⟨day, true, 0, 0, 0⟩, at_ + 1, rfl, ⟨rfl, .inl ⟨rfl, rfl, rfl, rfl⟩⟩, ?_, by omega, ?_⟩
    · obtain ⟨A', c', g1, g2⟩ := HM1.out
      exact ⟨A', c', (setRow_other w1 w.heap.size mb _ (by omega)).trans g1, g2.keep (hb.mono (by omega))⟩
    · exact ⟨hb.os.trans hk0.os, hb.tape.trans hk0.tape, hb.output.trans hk0.output, Nat.le_trans hk0.size hb.size, fun k hk hn => (setRow_other w1 w.heap.size k _ (by omega)).trans (hk0.block k hk hn)⟩
  · go_wp2_with fail
    refine (pick_any _ mb xs (at_ + 1) nodes 60 HM1.out hx (by omega) (by omega) (by omega)).mono ?_
    rintro e w2 ⟨d, rfl, hd1, hd2, hm2, hk2⟩
    have HM2 := Lib.hid hm2
    have HK2 := Lib.hid (HK1.out.trans hk2)
    clear hm2 hk2 HM1 HK1 hr hr1 hr2
    have G0 : Hid (GS 26 zMove w mb xs (at_ + 1 + 1) nodes w.heap.size w2.heap.size #[I day, .bool false, I d, I 0, I 0] (w2.alloc (.cells #[I day, .bool false, I d, I 0, I 0] 26))) := Lib.hid (GS.start HM2.out hml HK2.out)
    go_wp2_with fail
    refine (G0.out.pick hx 1440 (by omega) (by omega) (by omega)).mono ?_
    rintro e w3 ⟨m, rfl, m1, m2, _, g1⟩
    have g1c := g1.cell
    have g1f := g1.froz
    have G1 := Lib.hid (g1.store 3 (I m))
    clear g1
    go_wp2_with fail
    clear g1c g1f
    refine (G1.out.pick hx 300 (by omega) (by omega) (by omega)).mono ?_
    rintro e w4 ⟨n, rfl, n1, n2, _, g2⟩
    have g2c := g2.cell
    have g2f := g2.froz
    have G2 : Hid (GS 26 zMove w mb xs _ nodes w.heap.size w2.heap.size (mvCells ⟨day, false, d, m, 1 + n⟩) _) := Lib.hid (g2.store 4 (I (1 + n)))
    clear g2
    have HRW := Lib.hid G2.out.row
    go_wp2_with (first
      | (with_reducible refine g_load 26 ?_; refine wpList_load_Row rfl _ _ rfl w2.heap.size rfl (mvCells ⟨day, false, d, m, 1 + n⟩) HRW.out _ Tryz.underlying26 rfl (mv_size _) ?_)
      | (with_reducible refine g_store 26 ?_; refine wpList_store_row rfl _ _ _ rfl w.heap.size (mvCells ⟨day, false, d, m, 1 + n⟩) rfl rfl 26 zMove G2.out.res (mv_size _) rfl (mv_one _) ?_))
    exact bodyPost_ret (v := .agg (mvCells ⟨day, false, d, m, 1 + n⟩)) (results_cell_row rfl _ _ w.heap.size _ (mvCells ⟨day, false, d, m, 1 + n⟩) (0, 0) _ rfl (setRow_heap _ _ _ _ _ _ G2.out.res) Tryz.underlying26 rfl (mv_size _)) rfl ⟨⟨day, false, d, m, 1 + n⟩, _, rfl, ⟨rfl, .inr ⟨rfl, hd1, hd2, m1, m2, by show 1 ≤ 1 + n; omega, by show 1 + n ≤ 300; omega⟩⟩, G2.out.fin.1, by omega, G2.out.fin.2⟩
end Go.Proofs.YthhbbebabmemfaaGreat

/- Rules as they lie; kalendsref07.Two and over. -/
namespace Go.Proofs.YthhbbebabmemfaaGreat
open Go Go.RowKit

structure NdV where
  d : Nd
  A : Option Addr
  c : Nat
def NdV.cells (x : NdV) : List Value := (ndCells x.d x.A x.c).toList
def rcells (ns : List NdV) : List Value := ns.flatMap NdV.cells
theorem NdV.len (x : NdV) : x.cells.length = 8 := rfl
theorem rcells_len (ns : List NdV) : (rcells ns).length = ns.length * 8 := by
  induction ns with
  | nil => rfl
  | cons x ns ih => unfold rcells at ih ⊢; rw [List.flatMap_cons, List.length_append, ih, x.len, List.length_cons]; omega
theorem rcells_app (ns ms : List NdV) : rcells (ns ++ ms) = rcells ns ++ rcells ms := by simp [rcells]
theorem rcells_one (x : NdV) : rcells [x] = x.cells := by simp [rcells]
theorem rcells_ok (ns : List NdV) : ∀ u ∈ rcells ns, u.oneCell' = true := by
  intro u hu
  unfold rcells at hu
  obtain ⟨x, _, hx⟩ := List.mem_flatMap.1 hu
  have := nd_one x.d x.A x.c
  rw [Array.all_eq_true_iff_forall_mem] at this
  exact this u (by simpa [NdV.cells] using hx)
/-- A rule in a row that is not older than block lo, and so its lists. -/
structure RuleIs (lo : Nat) (w : World) (v : Value) (ns : List NdV) : Prop where
  row : w.ownsRow lo 75 8 v ns.length (rcells ns)
  lists : ∀ x ∈ ns, LI lo w x.A x.d.list
theorem RuleIs.of_blocks {lo : Nat} {w w' : World} {v : Value} {ns : List NdV} (h : RuleIs lo w v ns) (hs : w.heap.size ≤ w'.heap.size) (hb : ∀ k, lo ≤ k → k < w.heap.size → w'.heap[k]? = w.heap[k]?) : RuleIs lo w' v ns :=
  ⟨ownsRow_blocks h.row hb, fun x hx => (h.lists x hx).of_blocks hs hb⟩
theorem RuleIs.below {lo : Nat} {w w' : World} {v : Value} {ns : List NdV} (h : RuleIs lo w v ns) (hb : Below w.heap.size w w') : RuleIs lo w' v ns := h.of_blocks hb.size fun k _ h2 => hb.block k h2
theorem RuleIs.mkeep {lo mb : Nat} {w w' : World} {v : Value} {ns : List NdV} (h : RuleIs lo w v ns) (hk : MKeep mb w w') (hm : mb < lo) : RuleIs lo w' v ns := h.of_blocks hk.size fun k h1 h2 => hk.block k h2 (by omega)
theorem info_node : (Tryz.prog.info? 75).map (fun i => (i.zero, i.size, i.bytes)) = some (some (.agg zNode), 8, 88) := by kernel_rfl
/-- append of nodes to a row of the call's own. -/
theorem wpList_app_nodes {ops : Array Oper} {rest : List Oper} {o : Oper} {a : Act} {Q : Exit → Act → World → Prop} {w : World} (hgd : o.guard = none) (s x : Operand)
    (ho : o.op = .call { callee := .builtin .append, args := #[s, x], argTypes := #[28, 28] }) (base : Nat) (v : Value) (ns : List NdV) (hs : a.eval s = v) (hown : w.ownsRow base 75 8 v ns.length (rcells ns))
    (ad : Addr) (c : Nat) (ms : List NdV) (hx : a.eval x = .slice (some ad) ms.length c) (hnews : ∀ j u, (rcells ms)[j]? = some u → w.cell? (ad.add j) = some u) (hn : ns.length + ms.length ≤ 1000000) (hb : base ≤ w.heap.size)
    (h : ∀ v' w', w'.ownsRow base 75 8 v' (ns ++ ms).length (rcells (ns ++ ms)) → w.grownBy w' v.ownBlock → wpList Tryz.prog ops Q rest (a.put o.dst v') w') :
    wpList Tryz.prog ops Q (o :: rest) a w := by
  obtain ⟨i0, hi, hz0, hz1, hz2⟩ := info_parts info_node
  refine wpList_append_own_at _ hgd s x 28 ho base 75 i0 (.agg zNode) 8 88 Tryz.underlying28 hi hz0 hz1 hz2 rfl (by decide) v ns.length (rcells ns) hs hown ad ms.length c (rcells ms) hx (rcells_len ms) hnews (rcells_ok ms) (by unfold maxLen; omega) (by omega) hb (fun v' w' h1 h2 _ _ => h v' w' (by rw [List.length_append, rcells_app]; exact h1) h2)
/-- A slice literal of one node. -/
theorem wpList_node_slice {ops : Array Oper} {rest : List Oper} {o : Oper} {a : Act} {Q : Exit → Act → World → Prop} {w : World} (hgd : o.guard = none) (x : Operand) (ho : o.op = .buildSlice 28 1 #[(0, x)]) (d : Nd) (A : Option Addr) (c : Nat)
    (hx : a.eval x = .agg (ndCells d A c)) (h : wpList Tryz.prog ops Q rest (a.put o.dst (.slice (some ⟨w.heap.size, 0, none⟩) 1 1)) (w.alloc (.cells (ndCells d A c) 75))) : wpList Tryz.prog ops Q (o :: rest) a w := by
  obtain ⟨i0, hi, hz0, hz1, hz2⟩ := info_parts info_node
  refine wpList_buildSlice hgd 28 75 1 _ ho (ndCells d A c) i0 (.agg zNode) Tryz.underlying28 hi hz0 (by rw [hz1]; decide) (by rw [hz1]; decide) ?_ h
  rw [hz1]
  simp only [List.map_toArray, List.map_cons, List.map_nil, hx]
  kernel_rfl
section
variable {P : Program} {ops : Array Oper} {Q : Exit → Act → World → Prop} {a : Act} {w : World} {rest : List Oper} {d : Option Tmp} {t : TypeId} {pos : String} {af : Array Edge} {g : Option (Nat × Bool)}
theorem g_bslice (ty : TypeId) {n : Nat} {x : Array (Nat × Operand)} (h : wpList P ops Q (⟨d, .buildSlice ty n x, t, pos, af, g⟩ :: rest) a w) : wpList P ops Q (⟨d, .buildSlice ty n x, t, pos, af, g⟩ :: rest) a w := h
end
theorem own_empty (w : World) (lo : Nat) (h : lo ≤ w.heap.size) : (w.alloc (.cells #[] 75)).ownsRow lo 75 8 (.slice (some ⟨w.heap.size, 0, none⟩) 0 0) ([] : List NdV).length (rcells []) :=
  ⟨rfl, .inr ⟨w.heap.size, 0, #[], rfl, h, heap_alloc_last w _, Nat.le_refl _, Nat.zero_le _, rfl, rfl⟩⟩
theorem RuleIs.form {lo : Nat} {w : World} {v : Value} {ns : List NdV} (h : RuleIs lo w v ns) (hn : ns ≠ []) : ∃ g cap, v = .slice (some ⟨g, 0, none⟩) ns.length cap ∧ lo ≤ g ∧ g < w.heap.size ∧ ∀ j u, (rcells ns)[j]? = some u → w.cell? ⟨g, j, none⟩ = some u := by
  obtain ⟨h0, ⟨_, h1⟩ | ⟨g, cap, cur, rfl, hg, hb, h1, h2, h3, h4⟩⟩ := h.row
  · exact absurd (List.eq_nil_of_length_eq_zero h1) hn
  · refine ⟨g, cap, rfl, hg, (Array.getElem?_eq_some_iff.1 hb).1, fun j u hu => ?_⟩
    rw [cell_of_row w g j _ _ _ hb]
    rw [← h4] at hu
    rw [List.getElem?_take] at hu
    split at hu
    · simpa using hu
    · cases hu
def twoB (k : Int) : Bool := (k == 8) || (k == 9) || (k == 10) || (k == 17)
set_option maxRecDepth 10000 in
set_option maxHeartbeats 400000 in
theorem two_any (k : Int) (w : World) : Calls Tryz.prog 86 #[I k] w fun e w' => e = .returned (.bool (twoB k)) ∧ w' = w := by
  unfold twoB
  cases h1 : (k == 8)
  · cases h2 : (k == 9)
    · cases h3 : (k == 10)
      · cases h4 : (k == 17)
        all_goals
          go_enter Tryz.func86, Tryz.ntmps86
          go_wp2
          go_ret
          exact ⟨rfl, rfl⟩
      · go_enter Tryz.func86, Tryz.ntmps86
        go_wp2
        go_ret
        exact ⟨rfl, rfl⟩
    · go_enter Tryz.func86, Tryz.ntmps86
      go_wp2
      go_ret
      exact ⟨rfl, rfl⟩
  · go_enter Tryz.func86, Tryz.ntmps86
    go_wp2
    go_ret
    exact ⟨rfl, rfl⟩
end Go.Proofs.YthhbbebabmemfaaGreat
