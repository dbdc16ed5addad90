/- kalendsref13.Made, the calendar with leap years. -/
import Derived.Test.YtbdkalpljhpnmaaGreatKj
import Derived.BigQuiet
import Derived.Deep.AppendLies
import Derived.Deep.CutBlock
import Derived.Deep.DeepCutAuto
import Derived.Deep.DrawnRows
import Derived.Deep.MidRow
import Derived.Deep.QuietTactic
import Derived.Deep.RegionHeld3
import Derived.Deep.RegionLaw
import Derived.Deep.WholeRow
import Derived.Great.BuildSlice
import Derived.Handy
import Derived.Laws.BytesString
import Derived.Laws.CopyOwn
import Derived.Laws.EntriesVeiled
import Derived.Laws.MakeOwn
import Derived.Laws.ResultCell
import Derived.Laws.Rows
import Derived.Laws.Tables
import Derived.Lib.Hide
import Derived.LoopIn
import Derived.LoopNIn
import Derived.Maps.AppendAt
import Derived.Outline
import Derived.OwnWalkIn
import Derived.RangeFuncBound
import Derived.RangeFuncBox
import Derived.RangeFuncCalls
import Derived.RangeFuncLeaves
import Derived.RangeFuncNested
import Derived.Shelf.Abstract
import Derived.Shelf.Bytes.SlSmallAll
import Derived.Shelf.RegionOpen
import Derived.StillTailTactics
import Derived.Stop.BytesEq
import Derived.TacticsInMore
import Derived.WalkKit
import Derived.WalkLawsBesides
import Derived.WalkSpells
namespace Go.Proofs.YtbdkalpljhpnmaaGreat
open Go Go.RowKit

set_option maxRecDepth 10000 in
set_option maxHeartbeats 8000000 in
theorem made_1 (x : RwZ) (G O : Option Addr) (gc oc : Nat) (w : World) (hpar : x.cal.toNat % 2 = 1) (hgl : x.gaps.length ≤ 9223372036854775807) (hol : x.offs.length ≤ 9223372036854775807) (hg : CellsAt w w.heap.size G (x.gaps.map Extern.Stop.cell)) (ho : CellsAt w w.heap.size O (x.offs.map Extern.Stop.cell)) :
    Calls Tryz.prog 33 #[.agg (rwCells x G O gc oc)] w (MadeL w (madeZn x)) := by
  have HG := Lib.hid hg
  have HO := Lib.hid ho
  have hxs1 : (rwCells x G O gc oc)[1]? = some (.slice G x.gaps.length gc) := rfl
  have hxs2 : (rwCells x G O gc oc)[2]? = some (.slice O x.offs.length oc) := rfl
  have hxs0 : (rwCells x G O gc oc)[0]? = some (.int .u8 (x.st.toNat : Int)) := rfl
  have hxs12 : (rwCells x G O gc oc)[12]? = some (.int .u8 (x.cal.toNat : Int)) := rfl
  have hxs3 : (rwCells x G O gc oc)[3]? = some (.int .u8 (x.bh.toNat : Int)) := rfl
  have hxs13 : (rwCells x G O gc oc)[13]? = some (.bool x.rules) := rfl
  obtain ⟨gl, hgl'⟩ : ∃ n, x.gaps.length = n := ⟨_, rfl⟩
  obtain ⟨ol, hol'⟩ : ∃ n, x.offs.length = n := ⟨_, rfl⟩
  rw [hgl'] at hxs1 hgl
  rw [hol'] at hxs2 hol
  have HGL := Lib.hid hgl'
  have HOL := Lib.hid hol'
  have hpm : Int.tmod (x.cal.toNat : Int) 2 = 1 := by rw [Int.tmod_eq_emod_of_nonneg (by omega)]; omega
  have HPAR := Lib.hid hpar
  clear hgl' hol' hg ho hpar
  have HXS := Lib.hid (And.intro hxs0 (And.intro hxs1 (And.intro hxs2 (And.intro hxs3 (And.intro hxs12 hxs13)))))
  clear hxs0 hxs1 hxs2 hxs3 hxs12 hxs13
  obtain ⟨xs, hxs⟩ : ∃ a, rwCells x G O gc oc = a := ⟨_, rfl⟩
  rw [hxs] at HXS ⊢
  have HXE := Lib.hid hxs
  clear hxs
  have H0 := Lib.hid (M0.start w xs 95)
  have c0 : ((w.alloc (.cells xs 95)).alloc (.cells zZn 41)).cell? ⟨w.heap.size, 0, none⟩ = some (.int .u8 (x.st.toNat : Int)) := (H0.out.x.2 0).trans HXS.out.1
  go_enter Tryz.func33, Tryz.ntmps33
  go_wp2_with (with_reducible refine g_alloc 41 ?_; refine wpList_alloc_as rfl _ rfl zZn (by kernel_rfl) ?_)
  refine (some_any x.st.toNat _ (byte_lt _)).mono ?_
  rintro e w1 ⟨rfl, hb1⟩
  have H1 := Lib.hid (H0.out.grow hb1)
  clear hb1 H0 c0
  obtain ⟨st, hst⟩ : ∃ v, someF x.st.toNat = v := ⟨_, rfl⟩
  rw [hst]
  have HST := Lib.hid hst
  clear hst
  have H2 : Hid (MZ w xs (w1.heap.size + 1) (w1.heap.size + 2) #[I 2, .slice (some ⟨w1.heap.size, 0, none⟩) 2 2, I (-1), .slice none 0 0, I st, .slice none 0 0, I 0, .slice none 0 0] (some ⟨w1.heap.size, 0, none⟩) none none [I 7, I 6] [] [] (((w1.alloc (.cells #[I 7, I 6] 3)).alloc (.cells #[I 0, .slice none 0 0, I 0, .slice none 0 0, I 0, .slice none 0 0, I 0, .slice none 0 0] 41)).setRow (w1.heap.size + 1) #[I 2, .slice (some ⟨w1.heap.size, 0, none⟩) 2 2, I (-1), .slice none 0 0, I st, .slice none 0 0, I 0, .slice none 0 0])) := Lib.hid (H1.out.zone _ _ rfl)
  have hone : (#[I 2, .slice (some ⟨w1.heap.size, 0, none⟩) 2 2, I (-1), .slice none 0 0, I st, .slice none 0 0, I 0, .slice none 0 0] : Array Value).all (·.oneCell') = true := by simp [Value.oneCell']
  have c12 : (((w1.alloc (.cells #[I 7, I 6] 3)).alloc (.cells #[I 0, .slice none 0 0, I 0, .slice none 0 0, I 0, .slice none 0 0, I 0, .slice none 0 0] 41)).setRow (w1.heap.size + 1) #[I 2, .slice (some ⟨w1.heap.size, 0, none⟩) 2 2, I (-1), .slice none 0 0, I st, .slice none 0 0, I 0, .slice none 0 0]).cell? ⟨w.heap.size, 12, none⟩ = some (.int .u8 (x.cal.toNat : Int)) := (H2.out.x.2 12).trans HXS.out.2.2.2.2.1
  go_upto_region 3 with (first
    | ((with_reducible refine g_sto 41 ?_); go_must (refine wpList_store_row rfl _ _ _ rfl (w1.heap.size + 1) #[I 2, .slice (some ⟨w1.heap.size, 0, none⟩) 2 2, I (-1), .slice none 0 0, I st, .slice none 0 0, I 0, .slice none 0 0] rfl rfl 41 zZn (heap_alloc2_new w1 _ _) (by kernel_rfl) rfl hone ?_)))
  generalize (((w1.alloc (.cells #[I 7, I 6] 3)).alloc (.cells #[I 0, .slice none 0 0, I 0, .slice none 0 0, I 0, .slice none 0 0, I 0, .slice none 0 0] 41)).setRow (w1.heap.size + 1) #[I 2, .slice (some ⟨w1.heap.size, 0, none⟩) 2 2, I (-1), .slice none 0 0, I st, .slice none 0 0, I 0, .slice none 0 0]) = W2 at H2 ⊢
  clear c12 hone H1
  obtain ⟨zb, hzb⟩ : ∃ b, w1.heap.size + 1 = b := ⟨_, rfl⟩
  obtain ⟨mb, hmb⟩ : ∃ b, w1.heap.size = b := ⟨_, rfl⟩
  obtain ⟨B, hB⟩ : ∃ b, w1.heap.size + 2 = b := ⟨_, rfl⟩
  rw [hzb, hB, hmb] at H2
  rw [hzb, hmb]
  clear hzb hmb hB
  have hlt2 : w.heap.size < W2.heap.size := H2.out.x.1
  have hzl2 : zb < W2.heap.size := H2.out.zlt
  have hzw : w.heap.size + 2 ≤ zb := H2.out.lo
  have c12 : W2.cell? ⟨w.heap.size, 12, none⟩ = some (.int .u8 (x.cal.toNat : Int)) := (H2.out.x.2 12).trans HXS.out.2.2.2.2.1
  have hf : ∀ i, W2.frozen? ⟨zb, i, none⟩ = false := H2.out.froz
  have z0 : W2.cell? ⟨zb, 0, none⟩ = some (I 2) := H2.out.cell 0
  have z1 : W2.cell? ⟨zb, 1, none⟩ = some (.slice (some ⟨mb, 0, none⟩) 2 2) := H2.out.cell 1
  have z2 : W2.cell? ⟨zb, 2, none⟩ = some (I (-1)) := H2.out.cell 2
  have z3 : W2.cell? ⟨zb, 3, none⟩ = some (.slice none 0 0) := H2.out.cell 3
  obtain ⟨q, hq⟩ : ∃ q, x.cal.toNat / 2 = q := ⟨_, rfl⟩
  obtain ⟨r, hr⟩ : ∃ r, q % 2 = r := ⟨_, rfl⟩
  have hbl := byte_lt x.cal
  have hqd : Int.tdiv (x.cal.toNat : Int) 2 = (q : Int) := by rw [Int.tdiv_eq_ediv_of_nonneg (by omega)]; omega
  have hrm : Int.tmod (q : Int) 2 = (r : Int) := by rw [Int.tmod_eq_emod_of_nonneg (by omega)]; omega
  have hq8 : (q : Int) % 256 = q := by omega
  have hr8 : (r : Int) % 256 = r := by omega
  have HQR : Hid (x.cal.toNat / 2 % 2 = r) := Lib.hid (by rw [hq, hr])
  clear hq hr hbl
  go_upto_region 4 with fail
  have H3 : Hid (MZ w xs zb (W2.heap.size + 2) #[I 5, .slice (some ⟨W2.heap.size, 0, none⟩) 2 2, I 1, .slice (some ⟨W2.heap.size + 1, 0, none⟩) 1 1, I st, .slice none 0 0, I 0, .slice none 0 0] (some ⟨W2.heap.size, 0, none⟩) (some ⟨W2.heap.size + 1, 0, none⟩) none [I 7, I 8] [I 2, I (r : Int), .bool true] [] ((((((W2.setCell ⟨zb, 0, none⟩ (I 5)).setCell ⟨zb, 1, none⟩ (.slice (some ⟨W2.heap.size, 0, none⟩) 2 2)).setCell ⟨zb, 2, none⟩ (I 1)).setCell ⟨zb, 3, none⟩ (.slice (some ⟨W2.heap.size + 1, 0, none⟩) 1 1)).alloc (.cells #[I 7, I 8] 3)).alloc (.cells #[I 2, I (r : Int), .bool true] 105))) := Lib.hid (by
    have h := ((((H2.out.store 0 (I 5)).store 1 (.slice (some ⟨W2.heap.size, 0, none⟩) 2 2)).store 2 (I 1)).store 3 (.slice (some ⟨W2.heap.size + 1, 0, none⟩) 1 1)).relay #[I 7, I 8] #[I 2, I (r : Int), .bool true] 3 105 _ _ rfl rfl
    have e : ((((W2.setCell ⟨zb, 0, none⟩ (I 5)).setCell ⟨zb, 1, none⟩ (.slice (some ⟨W2.heap.size, 0, none⟩) 2 2)).setCell ⟨zb, 2, none⟩ (I 1)).setCell ⟨zb, 3, none⟩ (.slice (some ⟨W2.heap.size + 1, 0, none⟩) 1 1)).heap.size = W2.heap.size := by simp [World.setCell]
    rw [e] at h
    exact h)
  clear c12 hf z0 z1 z2 z3 hlt2 hzl2 hzw hqd hrm hq8 hr8 H2
  generalize (((((W2.setCell ⟨zb, 0, none⟩ (Value.int .i64 5)).setCell ⟨zb, 1, none⟩ (.slice (some ⟨W2.heap.size, 0, none⟩) 2 2)).setCell ⟨zb, 2, none⟩ (Value.int .i64 1)).setCell ⟨zb, 3, none⟩ (.slice (some ⟨W2.heap.size + 1, 0, none⟩) 1 1)).alloc (.cells #[Value.int .i64 7, Value.int .i64 8] 3)).alloc (.cells #[Value.int .i64 2, Value.int .i64 (r : Int), .bool true] 105) = W3 at H3 ⊢
  obtain ⟨mb2, hmb2⟩ : ∃ b, W2.heap.size = b := ⟨_, rfl⟩
  rw [hmb2] at H3
  rw [hmb2]
  obtain ⟨B3, hB3⟩ : ∃ b, mb2 + 2 = b := ⟨_, rfl⟩
  rw [hB3] at H3
  clear hmb2 hB3
  obtain ⟨cnt, hcnt⟩ : ∃ n, mcnt x = n := ⟨_, rfl⟩
  have hcl := mcnt_le x
  have hco := mcnt_or x
  rw [hcnt, HGL.out, HOL.out] at hcl hco
  have HCNT := Lib.hid hcnt
  have HCO := Lib.hid hco
  clear hcnt hco
  obtain ⟨i0, hi, hz0, hz1, hz2⟩ := info_parts info_tr
  go_upto_block 0 with fail
  go_cut [4] (fun a wx => a = .int .i64 (atF x.gaps cnt) ∧ ∃ cc C, TrsO B3 wx C cnt cc (mtrs x.gaps x.offs cnt) ∧ MZ w xs zb B3 #[I 5, .slice (some ⟨mb2, 0, none⟩) 2 2, I 1, .slice (some ⟨mb2 + 1, 0, none⟩) 1 1, I st, (.slice C cnt cc), I 0, .slice none 0 0] (some ⟨mb2, 0, none⟩) (some ⟨mb2 + 1, 0, none⟩) none [I 7, I 8] [I 2, I (r : Int), .bool true] [] wx)
  case first =>
    go_wp2_with fail
    go_loopw [4, 5] (fun a i wr => TlRel w x xs zb B3 (fun v => #[I 5, .slice (some ⟨mb2, 0, none⟩) 2 2, I 1, .slice (some ⟨mb2 + 1, 0, none⟩) 1 1, I st, v, I 0, .slice none 0 0]) (some ⟨mb2, 0, none⟩) (some ⟨mb2 + 1, 0, none⟩) [I 7, I 8] [I 2, I (r : Int), .bool true] cnt a i wr) (fun _ i _ => cnt - (intOf i).toNat)
    case atStart => exact ⟨0, 0, none, Nat.zero_le _, rfl, by go_num, World.ownsRow_nil _ _ _ _, H3.out⟩
    case round =>
      obtain ⟨k, cc, C, hk, rfl, rfl, hto, hmz⟩ := hrel
      have HT := Lib.hid hto
      have HX := Lib.hid hmz
      clear hto hmz H3
      have x1 : wr.cell? ⟨w.heap.size, 1, none⟩ = some (.slice G gl gc) := (HX.out.x.2 1).trans HXS.out.2.1
      have x2 : wr.cell? ⟨w.heap.size, 2, none⟩ = some (.slice O ol oc) := (HX.out.x.2 2).trans HXS.out.2.2.1
      obtain ⟨ak, hak⟩ : ∃ v, atF x.gaps k = v := ⟨_, rfl⟩
      have hab := atF_bd x.gaps k
      rw [hak] at hab ⊢
      have HAK := Lib.hid hak
      clear hak
      by_cases hlt : k < cnt
      · obtain ⟨gb, gf, hG, hgb, hgc⟩ := bytes_there HG.out HX.out.up (by rw [HGL.out]; omega)
        obtain ⟨ob, of, hO, hob, hoc⟩ := bytes_there HO.out HX.out.up (by rw [HOL.out]; omega)
        subst hG hO
        have g0 := hgc k (by rw [HGL.out]; omega)
        have o0 := hoc k (by rw [HOL.out]; omega)
        obtain ⟨gk, hgk⟩ : ∃ b, x.gaps[k]?.getD 0 = b := ⟨_, rfl⟩
        obtain ⟨ok, hok⟩ : ∃ b, x.offs[k]?.getD 0 = b := ⟨_, rfl⟩
        rw [hgk] at g0
        rw [hok] at o0
        have hg8 := byte_lt gk
        have hat : atF x.gaps (k + 1) = ak + 2160 + 20 * (gk.toNat : Int) := by rw [← HAK.out, ← hgk]; rfl
        have HAT := Lib.hid hat
        have HOK := Lib.hid hok
        have HSO := Lib.hid (fun W => some_any ok.toNat W (byte_lt ok))
        clear hgc hoc hgk hok hat
        obtain ⟨gn, hgn⟩ : ∃ n, gk.toNat = n := ⟨_, rfl⟩
        rw [hgn] at g0 hg8 HAT
        obtain ⟨on, hon⟩ : ∃ n, ok.toNat = n := ⟨_, rfl⟩
        rw [hon] at o0 HSO
        have HON := Lib.hid hon
        clear hgn hon
        have j1 : (k : Int) < (gl : Int) := by omega
        have j2 : (k : Int) < (ol : Int) := by omega
        have j3 : (k : Int) < 3 := by omega
        have j0 : (0 : Int) ≤ (k : Int) := by omega
        have z5 : wr.cell? ⟨zb, 5, none⟩ = some (.slice C k cc) := HX.out.cell 5
        obtain ⟨ov, hov⟩ : ∃ v, someF on = v := ⟨_, rfl⟩
        rw [hov] at HSO
        have HOV : Hid (someF (x.offs[k]?.getD 0).toNat = ov) := Lib.hid (by rw [HOK.out, HON.out]; exact hov)
        clear hov
        have hbsz : B3 ≤ wr.heap.size := HX.out.sz
        have hzB : zb < B3 := HX.out.hi
        go_wp2_with fail
        go_region_law (first
          | (refine step_append_lies _ (by rfl) _ _ _ (by rfl) B3 78 i0 (.agg #[I 0, I 0]) 2 16 Tryz.underlying38 hi hz0 hz1 hz2 rfl (by omega) (.slice C k cc) k ((mtrs x.gaps x.offs k).flatMap Tr.cells) (by rfl) (HO5.out.alloc _) ⟨w5.heap.size, 0, none⟩ 1 1 [I (ak + 2160 + 20 * (gn : Int)), I ov] (by rfl) rfl (cell_two_new _ _ _ _) (tr_one ⟨ak + 2160 + 20 * (gn : Int), ov⟩) (by omega) (by unfold maxLen; omega) (by omega) (by simp; omega) _ rfl ?_; intro gg cap w6 hown6 hgrow6 hat6 hlt6; have HX6 := Lib.hid ((HX5.out.grow (below_var w5 (.cells #[I (ak + 2160 + 20 * (gn : Int)), I ov] 78))).grown hgrow6 (trs_base HO5.out)); have c66 : w6.cell? ⟨zb, 5, none⟩ = some (.slice C k cc) := HX6.out.cell 5; have f66 : w6.frozen? ⟨zb, 5, none⟩ = false := HX6.out.froz 5; have HO6 := Lib.hid hown6; clear hown6 hgrow6 hat6)
          | (go_simp; go_at_call 51; refine (HSO.out _).mono ?_; rintro e w5 ⟨rfl, hb5⟩; have HX5 := Lib.hid (HX.out.drew.grow hb5); have HO5 : Hid (TrsO B3 w5 C k cc (mtrs x.gaps x.offs k)) := Lib.hid (TrsO.below (show TrsO B3 wr.drew C k cc _ from HT.out) hb5); have z55 : w5.cell? ⟨zb, 5, none⟩ = some (.slice C k cc) := HX5.out.cell 5; have hsz5 : B3 ≤ w5.heap.size := HX5.out.sz; have hzl5 : zb < w5.heap.size := HX5.out.zlt; clear hb5))
        all_goals
          go_wp2_with fail
          go_roundw
          case rel => exact ⟨k + 1, cap, some ⟨gg, 0, none⟩, by omega, by rw [HAT.out], by go_num, TrsO.cellB (by unfold TrsO; rw [mtrs_cells, HAT.out, HOV.out]; exact HO6.out) hzB _, HX6.out.store 5 (.slice (some ⟨gg, 0, none⟩) (k + 1) cap)⟩
          case measure => simp [intOf]; omega
      · obtain rfl : k = cnt := by omega
        have hex : ¬ (k : Int) < (gl : Int) ∨ ((k : Int) < (gl : Int) ∧ ¬ (k : Int) < (ol : Int)) ∨ ((k : Int) < (gl : Int) ∧ (k : Int) < (ol : Int) ∧ ¬ (k : Int) < 3) := by have := HCO.out; omega
        rcases hex with h1 | ⟨h1, h2⟩ | ⟨h1, h2, h3⟩
        all_goals
          go_wp2_with fail
          go_meet
          exact ⟨by rw [HAK.out], cc, C, HT.out, HX.out⟩
  case rest =>
    obtain ⟨rfl, cc, C, hto, hmz⟩ := hcut
    have HT := Lib.hid hto
    have HX := Lib.hid hmz
    clear hto hmz
    have hab := atF_bd x.gaps cnt
    obtain ⟨ac, hac⟩ : ∃ v, atF x.gaps cnt = v := ⟨_, rfl⟩
    rw [hac] at hab ⊢
    have hb8 := byte_lt x.bh
    obtain ⟨hz, hhz⟩ : ∃ v, ac + 2160 + 20 * (x.bh.toNat : Int) = v := ⟨_, rfl⟩
    have HHZ : Hid (atF x.gaps cnt + 2160 + 20 * (x.bh.toNat : Int) = hz) := Lib.hid (by rw [hac]; exact hhz)
    have hzb1 : hz ≤ 100000 := by omega
    have hzb0 : 0 ≤ hz := by omega
    clear hac
    have x3 : wc.cell? ⟨w.heap.size, 3, none⟩ = some (.int .u8 (x.bh.toNat : Int)) := (HX.out.x.2 3).trans HXS.out.2.2.2.1
    have z6 : wc.cell? ⟨zb, 6, none⟩ = some (I 0) := HX.out.cell 6
    have f6 : wc.frozen? ⟨zb, 6, none⟩ = false := HX.out.froz 6
    go_upto_region 11 with fail
    have H4 : Hid (MZ w xs zb B3 #[I 5, .slice (some ⟨mb2, 0, none⟩) 2 2, I 1, .slice (some ⟨mb2 + 1, 0, none⟩) 1 1, I st, .slice C cnt cc, I hz, .slice none 0 0] (some ⟨mb2, 0, none⟩) (some ⟨mb2 + 1, 0, none⟩) none [I 7, I 8] [I 2, I (r : Int), .bool true] [] (wc.setCell ⟨zb, 6, none⟩ (I hz))) := Lib.hid (HX.out.store 6 (I hz))
    have HT4 : Hid (TrsO B3 (wc.setCell ⟨zb, 6, none⟩ (I hz)) C cnt cc (mtrs x.gaps x.offs cnt)) := Lib.hid (HT.out.cellB HX.out.hi _)
    clear x3 z6 f6 HT HX hab hb8 hhz
    generalize wc.setCell ⟨zb, 6, none⟩ (.int .i64 hz) = W4 at H4 HT4 ⊢
    have x13 : W4.cell? ⟨w.heap.size, 13, none⟩ = some (.bool x.rules) := (H4.out.x.2 13).trans HXS.out.2.2.2.2.2
    have HM4 : Hid (MZ w xs zb W4.heap.size #[I 5, .slice (some ⟨mb2, 0, none⟩) 2 2, I 1, .slice (some ⟨mb2 + 1, 0, none⟩) 1 1, I st, .slice C cnt cc, I hz, .slice none 0 0] (some ⟨mb2, 0, none⟩) (some ⟨mb2 + 1, 0, none⟩) C [I 7, I 8] [I 2, I (r : Int), .bool true] ((mtrs x.gaps x.offs cnt).flatMap Tr.cells) W4) := Lib.hid (H4.out.next HT4.out (by have := H4.out.lo; have := H4.out.hi; omega))
    have hzn0 : znCells (zn0 x) ⟨some ⟨mb2, 0, none⟩, 2, some ⟨mb2 + 1, 0, none⟩, 1, C, cc, none, 0⟩ = #[I 5, .slice (some ⟨mb2, 0, none⟩) 2 2, I 1, .slice (some ⟨mb2 + 1, 0, none⟩) 1 1, I st, .slice C cnt cc, I hz, .slice none 0 0] := zn0_cells_1 x _ _ _ _ HPAR.out HCNT.out HST.out HHZ.out
    have HZN := Lib.hid hzn0
    clear hzn0 H4 HT4
    obtain ⟨rl, hrl⟩ : ∃ b, x.rules = b := ⟨_, rfl⟩
    rw [hrl] at x13
    have HRL := Lib.hid hrl
    clear hrl
    cases rl with
    | false =>
      have hmade : madeZn x = zn0 x := by unfold madeZn; rw [if_neg (by rw [HRL.out]; simp)]
      have hone : (#[I 5, .slice (some ⟨mb2, 0, none⟩) 2 2, I 1, .slice (some ⟨mb2 + 1, 0, none⟩) 1 1, I st, .slice C cnt cc, I hz, .slice none 0 0] : Array Value).all (·.oneCell') = true := by simp [Value.oneCell']
      have HROW : Hid (Row W4 zb #[I 5, .slice (some ⟨mb2, 0, none⟩) 2 2, I 1, .slice (some ⟨mb2 + 1, 0, none⟩) 1 1, I st, .slice C cnt cc, I hz, .slice none 0 0]) := Lib.hid ⟨HM4.out.zlt, fun i => HM4.out.cell i⟩
      have HMADE := Lib.hid hmade
      clear hmade
      go_wp2_with (first
        | ((with_reducible refine g_loa 41 ?_); go_must (refine wpList_load_Row rfl _ _ rfl zb rfl #[I 5, .slice (some ⟨mb2, 0, none⟩) 2 2, I 1, .slice (some ⟨mb2 + 1, 0, none⟩) 1 1, I st, .slice C cnt cc, I hz, .slice none 0 0] HROW.out _ Tryz.underlying41 rfl (by kernel_rfl) ?_))
        | ((with_reducible refine g_sto 41 ?_); go_must (refine wpList_store_row rfl _ _ _ rfl (w.heap.size + 1) #[I 5, .slice (some ⟨mb2, 0, none⟩) 2 2, I 1, .slice (some ⟨mb2 + 1, 0, none⟩) 1 1, I st, .slice C cnt cc, I hz, .slice none 0 0] rfl rfl 41 zZn HM4.out.res (by kernel_rfl) rfl hone ?_)))
      obtain ⟨d1, d2, d3, d4⟩ := HM4.out.done #[I 5, .slice (some ⟨mb2, 0, none⟩) 2 2, I 1, .slice (some ⟨mb2 + 1, 0, none⟩) 1 1, I st, .slice C cnt cc, I hz, .slice none 0 0]
      refine bodyPost_ret (v := .agg #[I 5, .slice (some ⟨mb2, 0, none⟩) 2 2, I 1, .slice (some ⟨mb2 + 1, 0, none⟩) 1 1, I st, .slice C cnt cc, I hz, .slice none 0 0]) (results_cell_row rfl _ _ (w.heap.size + 1) _ #[I 5, .slice (some ⟨mb2, 0, none⟩) 2 2, I 1, .slice (some ⟨mb2 + 1, 0, none⟩) 1 1, I st, .slice C cnt cc, I hz, .slice none 0 0] (0, 0) _ rfl (setRow_heap _ _ _ _ _ _ HM4.out.res) Tryz.underlying41 rfl (by kernel_rfl)) rfl ?_
      refine ⟨⟨some ⟨mb2, 0, none⟩, 2, some ⟨mb2 + 1, 0, none⟩, 1, C, cc, none, 0⟩, by rw [HMADE.out, HZN.out], ?_, ?_, d4⟩
      · rw [HMADE.out]
        exact zn0_at1 x HPAR.out HQR.out HCNT.out d1 d2 d3
      · rw [HMADE.out]
        exact zn0_low1 x HPAR.out HQR.out HCNT.out (HM4.out.mon.low (Nat.le_add_right _ _)) (HM4.out.rul.low (Nat.le_add_right _ _)) (HM4.out.trn.low (Nat.le_add_right _ _))
    | true =>
      obtain ⟨B5, hB5⟩ : ∃ n, W4.heap.size = n := ⟨_, rfl⟩
      rw [hB5] at HM4
      have hzB : zb < B5 := HM4.out.hi
      have hzw : w.heap.size + 2 ≤ zb := HM4.out.lo
      clear hB5
      obtain ⟨i1, hyi, hyz0, hyz1, hyz2⟩ := info_parts info_yr
      go_upto_block 2 with fail
      clear x13
      go_cut [6] (fun i wx => i = .int .i64 2 ∧ ∃ D dc, wx.ownsRow B5 80 5 (.slice D 2 dc) 2 ([myr 0 x.a0 x.a1 x.a2 x.a3, myr 1 x.b0 x.b1 x.b2 x.b3].flatMap Yr.cells) ∧ MZ w xs zb B5 #[I 5, .slice (some ⟨mb2, 0, none⟩) 2 2, I 1, .slice (some ⟨mb2 + 1, 0, none⟩) 1 1, I st, .slice C cnt cc, I hz, (.slice D 2 dc)] (some ⟨mb2, 0, none⟩) (some ⟨mb2 + 1, 0, none⟩) C [I 7, I 8] [I 2, I (r : Int), .bool true] ((mtrs x.gaps x.offs cnt).flatMap Tr.cells) wx)
      case first =>
        go_wp2_with fail
        go_loopw [6] (fun i wr => ∃ (k dc : Nat) (D : Option Addr), k ≤ 2 ∧ i = .int .i64 k ∧ wr.ownsRow B5 80 5 (.slice D k dc) k (([myr 0 x.a0 x.a1 x.a2 x.a3, myr 1 x.b0 x.b1 x.b2 x.b3].take k).flatMap Yr.cells) ∧ MZ w xs zb B5 #[I 5, .slice (some ⟨mb2, 0, none⟩) 2 2, I 1, .slice (some ⟨mb2 + 1, 0, none⟩) 1 1, I st, .slice C cnt cc, I hz, (.slice D k dc)] (some ⟨mb2, 0, none⟩) (some ⟨mb2 + 1, 0, none⟩) C [I 7, I 8] [I 2, I (r : Int), .bool true] ((mtrs x.gaps x.offs cnt).flatMap Tr.cells) wr) (fun i _ => 2 - (intOf i).toNat)
        case atStart => exact ⟨0, 0, none, Nat.zero_le _, by go_num, World.ownsRow_nil _ _ _ _, HM4.out⟩
        case round =>
          obtain ⟨k, dc, D, hk, rfl, hyo, hmz⟩ := hrel
          have HYO := Lib.hid hyo
          have HX := Lib.hid hmz
          clear hyo hmz HM4
          have hk3 : k = 0 ∨ k = 1 ∨ k = 2 := by omega
          rcases hk3 with rfl | rfl | rfl
          · have x4 : wr.cell? ⟨w.heap.size, 4, none⟩ = some (.int .u8 (x.a0.toNat : Int)) := (HX.out.x.2 4).trans (by rw [← HXE.out]; rfl)
            have x5 : wr.cell? ⟨w.heap.size, 5, none⟩ = some (.int .u8 (x.a1.toNat : Int)) := (HX.out.x.2 5).trans (by rw [← HXE.out]; rfl)
            have x6 : wr.cell? ⟨w.heap.size, 6, none⟩ = some (.int .u8 (x.a2.toNat : Int)) := (HX.out.x.2 6).trans (by rw [← HXE.out]; rfl)
            have x7 : wr.cell? ⟨w.heap.size, 7, none⟩ = some (.int .u8 (x.a3.toNat : Int)) := (HX.out.x.2 7).trans (by rw [← HXE.out]; rfl)
            have l0 := byte_lt x.a0
            have l1 := byte_lt x.a1
            have l2 := byte_lt x.a2
            have l3 := byte_lt x.a3
            obtain ⟨na, hna⟩ : ∃ n, x.a0.toNat = n := ⟨_, rfl⟩
            obtain ⟨nb, hnb⟩ : ∃ n, x.a1.toNat = n := ⟨_, rfl⟩
            obtain ⟨nc, hnc⟩ : ∃ n, x.a2.toNat = n := ⟨_, rfl⟩
            obtain ⟨nd, hnd⟩ : ∃ n, x.a3.toNat = n := ⟨_, rfl⟩
            rw [hna] at x4 l0
            rw [hnb] at x5 l1
            rw [hnc] at x6 l2
            rw [hnd] at x7 l3
            obtain ⟨ma, hma⟩ : ∃ n, na % 3 = n := ⟨_, rfl⟩
            obtain ⟨mc, hmc⟩ : ∃ n, nc % 5 = n := ⟨_, rfl⟩
            obtain ⟨md, hmd⟩ : ∃ n, nd % 2 = n := ⟨_, rfl⟩
            have t0 : Int.tmod (na : Int) 3 = (ma : Int) := by rw [Int.tmod_eq_emod_of_nonneg (by omega)]; omega
            have t2 : Int.tmod (nc : Int) 5 = (mc : Int) := by rw [Int.tmod_eq_emod_of_nonneg (by omega)]; omega
            have t3 : Int.tmod (nd : Int) 2 = (md : Int) := by rw [Int.tmod_eq_emod_of_nonneg (by omega)]; omega
            have u0 : (ma : Int) % 256 = ma := by omega
            have u2 : (mc : Int) % 256 = mc := by omega
            have u3 : (md : Int) % 256 = md := by omega
            have hmd2 : md = 0 ∨ md = 1 := by omega
            have HSO := Lib.hid (fun W => some_any mc W (by omega))
            obtain ⟨ov, hov⟩ : ∃ v, someF mc = v := ⟨_, rfl⟩
            rw [hov] at HSO
            have HYR : Hid (myr 0 x.a0 x.a1 x.a2 x.a3 = ⟨1, if md = 1 then 5 else 1, (ma : Int), ((nb * 5 : Nat) : Int), ov⟩) := Lib.hid (by unfold myr; rw [hna, hnb, hnc, hnd, hma, hmc, hmd, hov]; rfl)
            clear hna hnb hnc hnd hma hmc hmd hov
            have hwl : w.heap.size < wr.heap.size := HX.out.x.1
            go_upto_region 17 with fail
            have HV : Hid (MZ w xs zb B5 #[I 5, .slice (some ⟨mb2, 0, none⟩) 2 2, I 1, .slice (some ⟨mb2 + 1, 0, none⟩) 1 1, I st, .slice C cnt cc, I hz, (.slice D 0 dc)] (some ⟨mb2, 0, none⟩) (some ⟨mb2 + 1, 0, none⟩) C [I 7, I 8] [I 2, I (r : Int), .bool true] ((mtrs x.gaps x.offs cnt).flatMap Tr.cells) (wr.alloc (.cells #[.int .u8 (na : Int), .int .u8 (nb : Int), .int .u8 (nc : Int), .int .u8 (nd : Int)] 92))) := Lib.hid (HX.out.grow (below_var wr _))
            have HYV : Hid (World.ownsRow (wr.alloc (.cells #[.int .u8 (na : Int), .int .u8 (nb : Int), .int .u8 (nc : Int), .int .u8 (nd : Int)] 92)) B5 80 5 (.slice D 0 dc) 0 (([] : List Yr).flatMap Yr.cells)) := Lib.hid (HYO.out.alloc _)
            have HYG : Hid (∀ g, (Value.slice D 0 dc).ownBlock = some g → g < wr.heap.size) := Lib.hid (fun g hg => (World.ownsRow.lt HYO.out g hg).2)
            have HRV := Lib.hid (Row.new wr #[.int .u8 (na : Int), .int .u8 (nb : Int), .int .u8 (nc : Int), .int .u8 (nd : Int)] 92)
            have hB5w : B5 ≤ wr.heap.size := HX.out.sz
            obtain ⟨yv, hyv⟩ : ∃ n, wr.heap.size = n := ⟨_, rfl⟩
            rw [hyv] at HRV hB5w HYG
            rw [hyv]
            clear x4 x5 x6 x7 l0 l2 l3 hwl
            generalize wr.alloc (.cells #[.int .u8 (na : Int), .int .u8 (nb : Int), .int .u8 (nc : Int), .int .u8 (nd : Int)] 92) = V at HV HYV HRV ⊢
            clear hyv HX HYO
            have hzv : zb < yv := by omega
            have hyvl : yv < V.heap.size := HRV.out.1
            have hw1 : IntKind.i64.wrap 1 = 1 := by rw [IntKind.wrap_i64]; omega
            have hwa : IntKind.i64.wrap (ma : Int) = ma := by rw [IntKind.wrap_i64]; omega
            have hwb : IntKind.i64.wrap (nb : Int) = nb := by rw [IntKind.wrap_i64]; omega
            have hwc : IntKind.i64.wrap ((nb : Int) * 5) = (nb : Int) * 5 := by rw [IntKind.wrap_i64]; omega
            go_cut [107] (fun _ wx => ∃ gg cap, wx.ownsRow B5 80 5 (.slice (some ⟨gg, 0, none⟩) 1 cap) 1 (([] : List Yr).flatMap Yr.cells ++ Yr.cells ⟨1, 1, (ma : Int), (nb : Int) * 5, ov⟩) ∧ MZ w xs zb B5 #[I 5, .slice (some ⟨mb2, 0, none⟩) 2 2, I 1, .slice (some ⟨mb2 + 1, 0, none⟩) 1 1, I st, .slice C cnt cc, I hz, (.slice (some ⟨gg, 0, none⟩) 1 cap)] (some ⟨mb2, 0, none⟩) (some ⟨mb2 + 1, 0, none⟩) C [I 7, I 8] [I 2, I (r : Int), .bool true] ((mtrs x.gaps x.offs cnt).flatMap Tr.cells) wx ∧ Row wx yv #[.int .u8 (na : Int), .int .u8 (nb : Int), .int .u8 (nc : Int), .int .u8 (nd : Int)])
            case first =>
              have hS0 : (YvS yv (.int .u8 (na : Int)) (.int .u8 (nb : Int)) (.int .u8 (nc : Int)) (.int .u8 (nd : Int))) V.drew := YvS.of ⟨HRV.out.1, HRV.out.2⟩
              refine wp_region_held_drew (S := (YvS yv (.int .u8 (na : Int)) (.int .u8 (nb : Int)) (.int .u8 (nc : Int)) (.int .u8 (nd : Int)))) (by kernel_rfl) hS0 (fun _ => ?_)
              refine wpAnyH_take_dd (i := 0) (v := (.pointer (some ⟨zb, 7, none⟩))) (d := 89) rfl rfl (by kernel_rfl) (by kernel_rfl) (by kernel_rfl) (fun _ _ _ h => h) (Or.inl ⟨by rfl, fun w' hSw => ?_⟩) hS0 ?_
              · obtain ⟨s0, s1, s2, s3⟩ := hSw
                go_simp
              try simp only [Act.put, List.setIfInBounds_toArray, List.set_cons_zero, List.set_cons_succ]
              refine wpAnyH_take_dd (i := 2) (v := (.int .i64 0)) (d := 91) rfl rfl (by kernel_rfl) (by kernel_rfl) (by kernel_rfl) (fun _ _ _ h => h) (Or.inl ⟨by rfl, fun w' hSw => ?_⟩) hS0 ?_
              · obtain ⟨s0, s1, s2, s3⟩ := hSw
                go_simp
              try simp only [Act.put, List.setIfInBounds_toArray, List.set_cons_zero, List.set_cons_succ]
              refine wpAnyH_take_dd (i := 3) (v := (.int .i64 1)) (d := 92) rfl rfl (by kernel_rfl) (by kernel_rfl) (by kernel_rfl) (fun _ _ _ h => h) (Or.inl ⟨by rfl, fun w' hSw => ?_⟩) hS0 ?_
              · obtain ⟨s0, s1, s2, s3⟩ := hSw
                go_simp
              try simp only [Act.put, List.setIfInBounds_toArray, List.set_cons_zero, List.set_cons_succ]
              refine wpAnyH_take_dd (i := 4) (v := (.pointer (some ⟨yv, 0, none⟩))) (d := 93) rfl rfl (by kernel_rfl) (by kernel_rfl) (by kernel_rfl) (fun _ _ _ h => h) (Or.inl ⟨by rfl, fun w' hSw => ?_⟩) hS0 ?_
              · obtain ⟨s0, s1, s2, s3⟩ := hSw
                go_simp
              try simp only [Act.put, List.setIfInBounds_toArray, List.set_cons_zero, List.set_cons_succ]
              refine wpAnyH_take_dd (i := 5) (v := (.int .u8 (na : Int))) (d := 94) rfl rfl (by kernel_rfl) (by kernel_rfl) (by kernel_rfl) (fun _ _ _ h => h) (Or.inl ⟨by rfl, fun w' hSw => ?_⟩) hS0 ?_
              · obtain ⟨s0, s1, s2, s3⟩ := hSw
                go_simp
              try simp only [Act.put, List.setIfInBounds_toArray, List.set_cons_zero, List.set_cons_succ]
              refine wpAnyH_take_dd (i := 6) (v := (.int .u8 (ma : Int))) (d := 95) rfl rfl (by kernel_rfl) (by kernel_rfl) (by kernel_rfl) (fun _ _ _ h => h) (Or.inl ⟨by rfl, fun w' hSw => ?_⟩) hS0 ?_
              · obtain ⟨s0, s1, s2, s3⟩ := hSw
                go_simp
              try simp only [Act.put, List.setIfInBounds_toArray, List.set_cons_zero, List.set_cons_succ]
              refine wpAnyH_take_dd (i := 7) (v := (.int .i64 (ma : Int))) (d := 96) rfl rfl (by kernel_rfl) (by kernel_rfl) (by kernel_rfl) (fun _ _ _ h => h) (Or.inl ⟨by rfl, fun w' hSw => ?_⟩) hS0 ?_
              · obtain ⟨s0, s1, s2, s3⟩ := hSw
                go_simp
              try simp only [Act.put, List.setIfInBounds_toArray, List.set_cons_zero, List.set_cons_succ]
              refine wpAnyH_take_dd (i := 8) (v := (.pointer (some ⟨yv, 1, none⟩))) (d := 97) rfl rfl (by kernel_rfl) (by kernel_rfl) (by kernel_rfl) (fun _ _ _ h => h) (Or.inl ⟨by rfl, fun w' hSw => ?_⟩) hS0 ?_
              · obtain ⟨s0, s1, s2, s3⟩ := hSw
                go_simp
              try simp only [Act.put, List.setIfInBounds_toArray, List.set_cons_zero, List.set_cons_succ]
              refine wpAnyH_take_dd (i := 9) (v := (.int .u8 (nb : Int))) (d := 98) rfl rfl (by kernel_rfl) (by kernel_rfl) (by kernel_rfl) (fun _ _ _ h => h) (Or.inl ⟨by rfl, fun w' hSw => ?_⟩) hS0 ?_
              · obtain ⟨s0, s1, s2, s3⟩ := hSw
                go_simp
              try simp only [Act.put, List.setIfInBounds_toArray, List.set_cons_zero, List.set_cons_succ]
              refine wpAnyH_take_dd (i := 10) (v := (.int .i64 (nb : Int))) (d := 99) rfl rfl (by kernel_rfl) (by kernel_rfl) (by kernel_rfl) (fun _ _ _ h => h) (Or.inl ⟨by rfl, fun w' hSw => ?_⟩) hS0 ?_
              · obtain ⟨s0, s1, s2, s3⟩ := hSw
                go_simp
              try simp only [Act.put, List.setIfInBounds_toArray, List.set_cons_zero, List.set_cons_succ]
              refine wpAnyH_take_dd (i := 11) (v := (.int .i64 ((nb : Int) * 5))) (d := 100) rfl rfl (by kernel_rfl) (by kernel_rfl) (by kernel_rfl) (fun _ _ _ h => h) (Or.inl ⟨by rfl, fun w' hSw => ?_⟩) hS0 ?_
              · obtain ⟨s0, s1, s2, s3⟩ := hSw
                go_simp
              try simp only [Act.put, List.setIfInBounds_toArray, List.set_cons_zero, List.set_cons_succ]
              refine wpAnyH_take_dd (i := 12) (v := (.pointer (some ⟨yv, 2, none⟩))) (d := 101) rfl rfl (by kernel_rfl) (by kernel_rfl) (by kernel_rfl) (fun _ _ _ h => h) (Or.inl ⟨by rfl, fun w' hSw => ?_⟩) hS0 ?_
              · obtain ⟨s0, s1, s2, s3⟩ := hSw
                go_simp
              try simp only [Act.put, List.setIfInBounds_toArray, List.set_cons_zero, List.set_cons_succ]
              refine wpAnyH_take_dd (i := 13) (v := (.int .u8 (nc : Int))) (d := 102) rfl rfl (by kernel_rfl) (by kernel_rfl) (by kernel_rfl) (fun _ _ _ h => h) (Or.inl ⟨by rfl, fun w' hSw => ?_⟩) hS0 ?_
              · obtain ⟨s0, s1, s2, s3⟩ := hSw
                go_simp
              try simp only [Act.put, List.setIfInBounds_toArray, List.set_cons_zero, List.set_cons_succ]
              refine wpAnyH_take_dd (i := 14) (v := (.int .u8 (mc : Int))) (d := 103) rfl rfl (by kernel_rfl) (by kernel_rfl) (by kernel_rfl) (fun _ _ _ h => h) (Or.inl ⟨by rfl, fun w' hSw => ?_⟩) hS0 ?_
              · obtain ⟨s0, s1, s2, s3⟩ := hSw
                go_simp
              try simp only [Act.put, List.setIfInBounds_toArray, List.set_cons_zero, List.set_cons_succ]
              refine wpAnyH_ready (rs := [1, 15]) (by kernel_rfl) (by simp) ?_
              refine AllReadyH.cons rfl (fun K hK => ?_) (AllReadyH.cons rfl (fun K hK => ?_) AllReadyH.nil)
              · have z7 : V.drew.cell? ⟨zb, 7, none⟩ = some (.slice D 0 dc) := HV.out.drew.cell 7
                go_simp
                refine hK.out _ _ hS0 (fun hS1 => ?_)
                clear hK K z7
                try simp only [Act.put, List.setIfInBounds_toArray, List.set_cons_zero, List.set_cons_succ]
                refine wpAnyH_ready (rs := [15]) (by kernel_rfl) (by simp) ?_
                refine AllReadyH.cons rfl (fun K hK => ?_) AllReadyH.nil
                go_simp
                refine (HSO.out _).mono ?_
                rintro e w5 ⟨rfl, hb5⟩
                have HX5 := Lib.hid (HV.out.drew.grow hb5)
                have HO5 : Hid (w5.ownsRow B5 80 5 (.slice D 0 dc) 0 (([] : List Yr).flatMap Yr.cells)) := Lib.hid (own_below (show World.ownsRow V.drew _ _ _ _ _ _ from HYV.out) hb5)
                have HR5 : Hid (Row w5 yv #[.int .u8 (na : Int), .int .u8 (nb : Int), .int .u8 (nc : Int), .int .u8 (nd : Int)]) := Lib.hid ((show Row V.drew yv _ from ⟨HRV.out.1, HRV.out.2⟩).keep hb5)
                have hsz5 : B5 ≤ w5.heap.size := HX5.out.sz
                clear hb5
                refine hK.out _ _ (YvS.of HR5.out) (fun hS5 => ?_)
                clear hK K
                try simp only [Act.put, List.setIfInBounds_toArray, List.set_cons_zero, List.set_cons_succ]
                refine wpAnyH_take_dd (i := 16) (v := (.agg #[I 1, I 1, I (ma : Int), I ((nb : Int) * 5), I ov])) (d := 105) rfl rfl (by kernel_rfl) (by kernel_rfl) (by kernel_rfl) (fun _ _ _ h => h) (Or.inl ⟨by rfl, fun w' hSw => ?_⟩) hS5 ?_
                · obtain ⟨s0, s1, s2, s3⟩ := hSw
                  go_simp
                try simp only [Act.put, List.setIfInBounds_toArray, List.set_cons_zero, List.set_cons_succ]
                refine wpAnyH_ready (rs := [17]) (by kernel_rfl) (by simp) ?_
                refine AllReadyH.cons rfl (fun K hK => ?_) AllReadyH.nil
                go_simp
                have HRB := Lib.hid (HR5.out.keep (below_var w5 (.cells #[I 1, I 1, I (ma : Int), I ((nb : Int) * 5), I ov] 80)))
                refine hK.out _ _ (YvS.of HRB.out) (fun hSB => ?_)
                clear hK K
                try simp only [Act.put, List.setIfInBounds_toArray, List.set_cons_zero, List.set_cons_succ]
                refine wpAnyH_ready (rs := [18]) (by kernel_rfl) (by simp) ?_
                refine AllReadyH.cons rfl (fun K hK => ?_) AllReadyH.nil
                refine step_append_lies _ (by rfl) _ _ _ (by rfl) B5 80 i1 (.agg #[I 0, I 0, I 0, I 0, I 0]) 5 40 Tryz.underlying39 hyi hyz0 hyz1 hyz2 rfl (by omega) (.slice D 0 dc) 0 (([] : List Yr).flatMap Yr.cells) (by rfl) (HO5.out.alloc _) ⟨w5.heap.size, 0, none⟩ 1 1 (Yr.cells ⟨1, 1, (ma : Int), (nb : Int) * 5, ov⟩) (by rfl) rfl (news_lit _ _ _ _ rfl) (yr_one ⟨1, 1, (ma : Int), (nb : Int) * 5, ov⟩) (by omega) (by unfold maxLen; omega) (by omega) (by simp; omega) _ rfl ?_
                intro gg cap w6 hown6 hgrow6 _ _
                have HX6 := Lib.hid ((HX5.out.grow (below_var w5 (.cells #[I 1, I 1, I (ma : Int), I ((nb : Int) * 5), I ov] 80))).grown hgrow6 (own_base HO5.out))
                have HR6 := Lib.hid ((HR5.out.keep (below_var w5 (.cells #[I 1, I 1, I (ma : Int), I ((nb : Int) * 5), I ov] 80))).grown hgrow6 (ne_own HYG.out))
                have HO6 := Lib.hid hown6
                clear hown6 hgrow6
                refine hK.out _ _ (YvS.of HR6.out) (fun hS6 => ?_)
                clear hK K
                try simp only [Act.put, List.setIfInBounds_toArray]
                refine wpAnyH_take_dd (i := 19) (v := (.pointer (some ⟨zb, 7, none⟩))) (d := 108) rfl rfl (by kernel_rfl) (by kernel_rfl) (by kernel_rfl) (fun _ _ _ h => h) (Or.inl ⟨by rfl, fun w' hSw => ?_⟩) hS6 ?_
                · obtain ⟨s0, s1, s2, s3⟩ := hSw
                  go_simp
                try simp only [Act.put]
                refine wpAnyH_ready (rs := [20]) (by kernel_rfl) (by simp) ?_
                refine AllReadyH.cons rfl (fun K hK => ?_) AllReadyH.nil
                have c66 : w6.cell? ⟨zb, 7, none⟩ = some (.slice D 0 dc) := HX6.out.cell 7
                have f66 : w6.frozen? ⟨zb, 7, none⟩ = false := HX6.out.froz 7
                go_simp
                have HX7 := Lib.hid (HX6.out.store 7 (.slice (some ⟨gg, 0, none⟩) 1 cap))
                have HR7 : Hid (Row (w6.setCell ⟨zb, 7, none⟩ (.slice (some ⟨gg, 0, none⟩) 1 cap)) yv #[.int .u8 (na : Int), .int .u8 (nb : Int), .int .u8 (nc : Int), .int .u8 (nd : Int)]) := Lib.hid ⟨by simpa using HR6.out.1, fun i => (World.cell?_setCell_other _ _ _ _ (by first | (simp; done) | (simp; omega))).trans (HR6.out.2 i)⟩
                refine hK.out _ _ (YvS.of HR7.out) (fun _ => ?_)
                clear hK K
                refine wpAnyH_done (by kernel_rfl) ?_ _
                go_wp2_with fail
                go_meet
                exact ⟨gg, cap, ownsRow_setCell_below (a := ⟨zb, 7, none⟩) HO6.out hzB _, HX7.out, HR7.out⟩
              · go_simp
                refine (HSO.out _).mono ?_
                rintro e w5 ⟨rfl, hb5⟩
                have HX5 := Lib.hid (HV.out.drew.grow hb5)
                have HO5 : Hid (w5.ownsRow B5 80 5 (.slice D 0 dc) 0 (([] : List Yr).flatMap Yr.cells)) := Lib.hid (own_below (show World.ownsRow V.drew _ _ _ _ _ _ from HYV.out) hb5)
                have HR5 : Hid (Row w5 yv #[.int .u8 (na : Int), .int .u8 (nb : Int), .int .u8 (nc : Int), .int .u8 (nd : Int)]) := Lib.hid ((show Row V.drew yv _ from ⟨HRV.out.1, HRV.out.2⟩).keep hb5)
                have hsz5 : B5 ≤ w5.heap.size := HX5.out.sz
                clear hb5
                refine hK.out _ _ (YvS.of HR5.out) (fun hS5 => ?_)
                clear hK K
                try simp only [Act.put, List.setIfInBounds_toArray, List.set_cons_zero, List.set_cons_succ]
                refine wpAnyH_take_dd (i := 16) (v := (.agg #[I 1, I 1, I (ma : Int), I ((nb : Int) * 5), I ov])) (d := 105) rfl rfl (by kernel_rfl) (by kernel_rfl) (by kernel_rfl) (fun _ _ _ h => h) (Or.inl ⟨by rfl, fun w' hSw => ?_⟩) hS5 ?_
                · obtain ⟨s0, s1, s2, s3⟩ := hSw
                  go_simp
                try simp only [Act.put, List.setIfInBounds_toArray, List.set_cons_zero, List.set_cons_succ]
                refine wpAnyH_ready (rs := [1, 17]) (by kernel_rfl) (by simp) ?_
                refine AllReadyH.cons rfl (fun K hK => ?_) (AllReadyH.cons rfl (fun K hK => ?_) AllReadyH.nil)
                · have z7 : w5.cell? ⟨zb, 7, none⟩ = some (.slice D 0 dc) := HX5.out.cell 7
                  go_simp
                  refine hK.out _ _ hS5 (fun hS1 => ?_)
                  clear hK K z7
                  try simp only [Act.put, List.setIfInBounds_toArray, List.set_cons_zero, List.set_cons_succ]
                  refine wpAnyH_ready (rs := [17]) (by kernel_rfl) (by simp) ?_
                  refine AllReadyH.cons rfl (fun K hK => ?_) AllReadyH.nil
                  go_simp
                  have HRB := Lib.hid (HR5.out.keep (below_var w5 (.cells #[I 1, I 1, I (ma : Int), I ((nb : Int) * 5), I ov] 80)))
                  refine hK.out _ _ (YvS.of HRB.out) (fun hSB => ?_)
                  clear hK K
                  try simp only [Act.put, List.setIfInBounds_toArray, List.set_cons_zero, List.set_cons_succ]
                  refine wpAnyH_ready (rs := [18]) (by kernel_rfl) (by simp) ?_
                  refine AllReadyH.cons rfl (fun K hK => ?_) AllReadyH.nil
                  refine step_append_lies _ (by rfl) _ _ _ (by rfl) B5 80 i1 (.agg #[I 0, I 0, I 0, I 0, I 0]) 5 40 Tryz.underlying39 hyi hyz0 hyz1 hyz2 rfl (by omega) (.slice D 0 dc) 0 (([] : List Yr).flatMap Yr.cells) (by rfl) (HO5.out.alloc _) ⟨w5.heap.size, 0, none⟩ 1 1 (Yr.cells ⟨1, 1, (ma : Int), (nb : Int) * 5, ov⟩) (by rfl) rfl (news_lit _ _ _ _ rfl) (yr_one ⟨1, 1, (ma : Int), (nb : Int) * 5, ov⟩) (by omega) (by unfold maxLen; omega) (by omega) (by simp; omega) _ rfl ?_
                  intro gg cap w6 hown6 hgrow6 _ _
                  have HX6 := Lib.hid ((HX5.out.grow (below_var w5 (.cells #[I 1, I 1, I (ma : Int), I ((nb : Int) * 5), I ov] 80))).grown hgrow6 (own_base HO5.out))
                  have HR6 := Lib.hid ((HR5.out.keep (below_var w5 (.cells #[I 1, I 1, I (ma : Int), I ((nb : Int) * 5), I ov] 80))).grown hgrow6 (ne_own HYG.out))
                  have HO6 := Lib.hid hown6
                  clear hown6 hgrow6
                  refine hK.out _ _ (YvS.of HR6.out) (fun hS6 => ?_)
                  clear hK K
                  try simp only [Act.put, List.setIfInBounds_toArray]
                  refine wpAnyH_take_dd (i := 19) (v := (.pointer (some ⟨zb, 7, none⟩))) (d := 108) rfl rfl (by kernel_rfl) (by kernel_rfl) (by kernel_rfl) (fun _ _ _ h => h) (Or.inl ⟨by rfl, fun w' hSw => ?_⟩) hS6 ?_
                  · obtain ⟨s0, s1, s2, s3⟩ := hSw
                    go_simp
                  try simp only [Act.put]
                  refine wpAnyH_ready (rs := [20]) (by kernel_rfl) (by simp) ?_
                  refine AllReadyH.cons rfl (fun K hK => ?_) AllReadyH.nil
                  have c66 : w6.cell? ⟨zb, 7, none⟩ = some (.slice D 0 dc) := HX6.out.cell 7
                  have f66 : w6.frozen? ⟨zb, 7, none⟩ = false := HX6.out.froz 7
                  go_simp
                  have HX7 := Lib.hid (HX6.out.store 7 (.slice (some ⟨gg, 0, none⟩) 1 cap))
                  have HR7 : Hid (Row (w6.setCell ⟨zb, 7, none⟩ (.slice (some ⟨gg, 0, none⟩) 1 cap)) yv #[.int .u8 (na : Int), .int .u8 (nb : Int), .int .u8 (nc : Int), .int .u8 (nd : Int)]) := Lib.hid ⟨by simpa using HR6.out.1, fun i => (World.cell?_setCell_other _ _ _ _ (by first | (simp; done) | (simp; omega))).trans (HR6.out.2 i)⟩
                  refine hK.out _ _ (YvS.of HR7.out) (fun _ => ?_)
                  clear hK K
                  refine wpAnyH_done (by kernel_rfl) ?_ _
                  go_wp2_with fail
                  go_meet
                  exact ⟨gg, cap, ownsRow_setCell_below (a := ⟨zb, 7, none⟩) HO6.out hzB _, HX7.out, HR7.out⟩
                · go_simp
                  have HRB := Lib.hid (HR5.out.keep (below_var w5 (.cells #[I 1, I 1, I (ma : Int), I ((nb : Int) * 5), I ov] 80)))
                  refine hK.out _ _ (YvS.of HRB.out) (fun hSB => ?_)
                  clear hK K
                  try simp only [Act.put, List.setIfInBounds_toArray, List.set_cons_zero, List.set_cons_succ]
                  refine wpAnyH_ready (rs := [1]) (by kernel_rfl) (by simp) ?_
                  refine AllReadyH.cons rfl (fun K hK => ?_) AllReadyH.nil
                  have HXB := Lib.hid (HX5.out.grow (below_var w5 (.cells #[I 1, I 1, I (ma : Int), I ((nb : Int) * 5), I ov] 80)))
                  have z7 : (w5.alloc (.cells #[I 1, I 1, I (ma : Int), I ((nb : Int) * 5), I ov] 80)).cell? ⟨zb, 7, none⟩ = some (.slice D 0 dc) := HXB.out.cell 7
                  go_simp
                  refine hK.out _ _ hSB (fun hS1 => ?_)
                  clear hK K z7
                  try simp only [Act.put, List.setIfInBounds_toArray, List.set_cons_zero, List.set_cons_succ]
                  refine wpAnyH_ready (rs := [18]) (by kernel_rfl) (by simp) ?_
                  refine AllReadyH.cons rfl (fun K hK => ?_) AllReadyH.nil
                  refine step_append_lies _ (by rfl) _ _ _ (by rfl) B5 80 i1 (.agg #[I 0, I 0, I 0, I 0, I 0]) 5 40 Tryz.underlying39 hyi hyz0 hyz1 hyz2 rfl (by omega) (.slice D 0 dc) 0 (([] : List Yr).flatMap Yr.cells) (by rfl) (HO5.out.alloc _) ⟨w5.heap.size, 0, none⟩ 1 1 (Yr.cells ⟨1, 1, (ma : Int), (nb : Int) * 5, ov⟩) (by rfl) rfl (news_lit _ _ _ _ rfl) (yr_one ⟨1, 1, (ma : Int), (nb : Int) * 5, ov⟩) (by omega) (by unfold maxLen; omega) (by omega) (by simp; omega) _ rfl ?_
                  intro gg cap w6 hown6 hgrow6 _ _
                  have HX6 := Lib.hid ((HX5.out.grow (below_var w5 (.cells #[I 1, I 1, I (ma : Int), I ((nb : Int) * 5), I ov] 80))).grown hgrow6 (own_base HO5.out))
                  have HR6 := Lib.hid ((HR5.out.keep (below_var w5 (.cells #[I 1, I 1, I (ma : Int), I ((nb : Int) * 5), I ov] 80))).grown hgrow6 (ne_own HYG.out))
                  have HO6 := Lib.hid hown6
                  clear hown6 hgrow6
                  refine hK.out _ _ (YvS.of HR6.out) (fun hS6 => ?_)
                  clear hK K
                  try simp only [Act.put, List.setIfInBounds_toArray]
                  refine wpAnyH_take_dd (i := 19) (v := (.pointer (some ⟨zb, 7, none⟩))) (d := 108) rfl rfl (by kernel_rfl) (by kernel_rfl) (by kernel_rfl) (fun _ _ _ h => h) (Or.inl ⟨by rfl, fun w' hSw => ?_⟩) hS6 ?_
                  · obtain ⟨s0, s1, s2, s3⟩ := hSw
                    go_simp
                  try simp only [Act.put]
                  refine wpAnyH_ready (rs := [20]) (by kernel_rfl) (by simp) ?_
                  refine AllReadyH.cons rfl (fun K hK => ?_) AllReadyH.nil
                  have c66 : w6.cell? ⟨zb, 7, none⟩ = some (.slice D 0 dc) := HX6.out.cell 7
                  have f66 : w6.frozen? ⟨zb, 7, none⟩ = false := HX6.out.froz 7
                  go_simp
                  have HX7 := Lib.hid (HX6.out.store 7 (.slice (some ⟨gg, 0, none⟩) 1 cap))
                  have HR7 : Hid (Row (w6.setCell ⟨zb, 7, none⟩ (.slice (some ⟨gg, 0, none⟩) 1 cap)) yv #[.int .u8 (na : Int), .int .u8 (nb : Int), .int .u8 (nc : Int), .int .u8 (nd : Int)]) := Lib.hid ⟨by simpa using HR6.out.1, fun i => (World.cell?_setCell_other _ _ _ _ (by first | (simp; done) | (simp; omega))).trans (HR6.out.2 i)⟩
                  refine hK.out _ _ (YvS.of HR7.out) (fun _ => ?_)
                  clear hK K
                  refine wpAnyH_done (by kernel_rfl) ?_ _
                  go_wp2_with fail
                  go_meet
                  exact ⟨gg, cap, ownsRow_setCell_below (a := ⟨zb, 7, none⟩) HO6.out hzB _, HX7.out, HR7.out⟩
            case rest =>
              obtain ⟨gg, cap, hown, hmz, hrv⟩ := hcut
              have HO7 := Lib.hid hown
              have HM7 := Lib.hid hmz
              have hgl : gg < wc.heap.size := (World.ownsRow.lt hown gg rfl).2
              have hgB : B5 ≤ gg := (World.ownsRow.lt hown gg rfl).1
              have y3 : wc.cell? ⟨yv, 3, none⟩ = some (.int .u8 (nd : Int)) := hrv.2 3
              have z7 : wc.cell? ⟨zb, 7, none⟩ = some (.slice (some ⟨gg, 0, none⟩) 1 cap) := hmz.cell 7
              have q1 : wc.cell? ⟨gg, 1, none⟩ = some (I 1) := (hown.cellAt 1 (by omega)).trans rfl
              have qf : ∀ j, wc.frozen? ⟨gg, j, none⟩ = false := fun j => hown.frozenAt j
              clear hown hmz hrv
              rcases hmd2 with rfl | rfl
              · go_wp2_with fail
                go_roundw
                case rel =>
                  have hy := HYR.out
                  rw [if_neg (by omega)] at hy
                  refine ⟨1, cap, some ⟨gg, 0, none⟩, by omega, by go_num, ?_, HM7.out⟩
                  have h := HO7.out
                  have e : ([myr 0 x.a0 x.a1 x.a2 x.a3, myr 1 x.b0 x.b1 x.b2 x.b3].take 1).flatMap Yr.cells = ([] : List Yr).flatMap Yr.cells ++ Yr.cells ⟨1, 1, (ma : Int), (nb : Int) * 5, ov⟩ := by
                    show [myr 0 x.a0 x.a1 x.a2 x.a3].flatMap Yr.cells = _
                    rw [hy]
                    simp [Yr.cells]
                  rw [e]
                  exact h
                case measure => simp [intOf]
              · go_wp2_with fail
                go_roundw
                case rel =>
                  have hy := HYR.out
                  rw [if_pos rfl] at hy
                  refine ⟨1, cap, some ⟨gg, 0, none⟩, by omega, by go_num, ?_, HM7.out.grown (HO7.out.stored 1 (I 5)).2 (fun g hg => by injection hg with hg; omega)⟩
                  have h := (HO7.out.stored 1 (I 5)).1
                  have e : ([myr 0 x.a0 x.a1 x.a2 x.a3, myr 1 x.b0 x.b1 x.b2 x.b3].take 1).flatMap Yr.cells = (([] : List Yr).flatMap Yr.cells ++ Yr.cells ⟨1, 1, (ma : Int), (nb : Int) * 5, ov⟩).set 1 (I 5) := by
                    show [myr 0 x.a0 x.a1 x.a2 x.a3].flatMap Yr.cells = _
                    rw [hy]
                    simp [Yr.cells]
                  rw [e]
                  exact h
                case measure => simp [intOf]
          · have x4 : wr.cell? ⟨w.heap.size, 8, none⟩ = some (.int .u8 (x.b0.toNat : Int)) := (HX.out.x.2 8).trans (by rw [← HXE.out]; rfl)
            have x5 : wr.cell? ⟨w.heap.size, 9, none⟩ = some (.int .u8 (x.b1.toNat : Int)) := (HX.out.x.2 9).trans (by rw [← HXE.out]; rfl)
            have x6 : wr.cell? ⟨w.heap.size, 10, none⟩ = some (.int .u8 (x.b2.toNat : Int)) := (HX.out.x.2 10).trans (by rw [← HXE.out]; rfl)
            have x7 : wr.cell? ⟨w.heap.size, 11, none⟩ = some (.int .u8 (x.b3.toNat : Int)) := (HX.out.x.2 11).trans (by rw [← HXE.out]; rfl)
            have l0 := byte_lt x.b0
            have l1 := byte_lt x.b1
            have l2 := byte_lt x.b2
            have l3 := byte_lt x.b3
            obtain ⟨na, hna⟩ : ∃ n, x.b0.toNat = n := ⟨_, rfl⟩
            obtain ⟨nb, hnb⟩ : ∃ n, x.b1.toNat = n := ⟨_, rfl⟩
            obtain ⟨nc, hnc⟩ : ∃ n, x.b2.toNat = n := ⟨_, rfl⟩
            obtain ⟨nd, hnd⟩ : ∃ n, x.b3.toNat = n := ⟨_, rfl⟩
            rw [hna] at x4 l0
            rw [hnb] at x5 l1
            rw [hnc] at x6 l2
            rw [hnd] at x7 l3
            obtain ⟨ma, hma⟩ : ∃ n, na % 3 = n := ⟨_, rfl⟩
            obtain ⟨mc, hmc⟩ : ∃ n, nc % 5 = n := ⟨_, rfl⟩
            obtain ⟨md, hmd⟩ : ∃ n, nd % 2 = n := ⟨_, rfl⟩
            have t0 : Int.tmod (na : Int) 3 = (ma : Int) := by rw [Int.tmod_eq_emod_of_nonneg (by omega)]; omega
            have t2 : Int.tmod (nc : Int) 5 = (mc : Int) := by rw [Int.tmod_eq_emod_of_nonneg (by omega)]; omega
            have t3 : Int.tmod (nd : Int) 2 = (md : Int) := by rw [Int.tmod_eq_emod_of_nonneg (by omega)]; omega
            have u0 : (ma : Int) % 256 = ma := by omega
            have u2 : (mc : Int) % 256 = mc := by omega
            have u3 : (md : Int) % 256 = md := by omega
            have hmd2 : md = 0 ∨ md = 1 := by omega
            have HSO := Lib.hid (fun W => some_any mc W (by omega))
            obtain ⟨ov, hov⟩ : ∃ v, someF mc = v := ⟨_, rfl⟩
            rw [hov] at HSO
            have HYR : Hid (myr 1 x.b0 x.b1 x.b2 x.b3 = ⟨2, if md = 1 then 5 else 1, (ma : Int), ((nb * 5 : Nat) : Int), ov⟩) := Lib.hid (by unfold myr; rw [hna, hnb, hnc, hnd, hma, hmc, hmd, hov]; rfl)
            clear hna hnb hnc hnd hma hmc hmd hov
            have hwl : w.heap.size < wr.heap.size := HX.out.x.1
            go_upto_region 17 with fail
            have HV : Hid (MZ w xs zb B5 #[I 5, .slice (some ⟨mb2, 0, none⟩) 2 2, I 1, .slice (some ⟨mb2 + 1, 0, none⟩) 1 1, I st, .slice C cnt cc, I hz, (.slice D 1 dc)] (some ⟨mb2, 0, none⟩) (some ⟨mb2 + 1, 0, none⟩) C [I 7, I 8] [I 2, I (r : Int), .bool true] ((mtrs x.gaps x.offs cnt).flatMap Tr.cells) (wr.alloc (.cells #[.int .u8 (na : Int), .int .u8 (nb : Int), .int .u8 (nc : Int), .int .u8 (nd : Int)] 92))) := Lib.hid (HX.out.grow (below_var wr _))
            have HYV : Hid (World.ownsRow (wr.alloc (.cells #[.int .u8 (na : Int), .int .u8 (nb : Int), .int .u8 (nc : Int), .int .u8 (nd : Int)] 92)) B5 80 5 (.slice D 1 dc) 1 ([myr 0 x.a0 x.a1 x.a2 x.a3].flatMap Yr.cells)) := Lib.hid (HYO.out.alloc _)
            have HYG : Hid (∀ g, (Value.slice D 1 dc).ownBlock = some g → g < wr.heap.size) := Lib.hid (fun g hg => (World.ownsRow.lt HYO.out g hg).2)
            have HRV := Lib.hid (Row.new wr #[.int .u8 (na : Int), .int .u8 (nb : Int), .int .u8 (nc : Int), .int .u8 (nd : Int)] 92)
            have hB5w : B5 ≤ wr.heap.size := HX.out.sz
            obtain ⟨yv, hyv⟩ : ∃ n, wr.heap.size = n := ⟨_, rfl⟩
            rw [hyv] at HRV hB5w HYG
            rw [hyv]
            clear x4 x5 x6 x7 l0 l2 l3 hwl
            generalize wr.alloc (.cells #[.int .u8 (na : Int), .int .u8 (nb : Int), .int .u8 (nc : Int), .int .u8 (nd : Int)] 92) = V at HV HYV HRV ⊢
            clear hyv HX HYO
            have hzv : zb < yv := by omega
            have hyvl : yv < V.heap.size := HRV.out.1
            have hw1 : IntKind.i64.wrap 2 = 2 := by rw [IntKind.wrap_i64]; omega
            have hwa : IntKind.i64.wrap (ma : Int) = ma := by rw [IntKind.wrap_i64]; omega
            have hwb : IntKind.i64.wrap (nb : Int) = nb := by rw [IntKind.wrap_i64]; omega
            have hwc : IntKind.i64.wrap ((nb : Int) * 5) = (nb : Int) * 5 := by rw [IntKind.wrap_i64]; omega
            go_cut [107] (fun _ wx => ∃ gg cap, wx.ownsRow B5 80 5 (.slice (some ⟨gg, 0, none⟩) 2 cap) 2 ([myr 0 x.a0 x.a1 x.a2 x.a3].flatMap Yr.cells ++ Yr.cells ⟨2, 1, (ma : Int), (nb : Int) * 5, ov⟩) ∧ MZ w xs zb B5 #[I 5, .slice (some ⟨mb2, 0, none⟩) 2 2, I 1, .slice (some ⟨mb2 + 1, 0, none⟩) 1 1, I st, .slice C cnt cc, I hz, (.slice (some ⟨gg, 0, none⟩) 2 cap)] (some ⟨mb2, 0, none⟩) (some ⟨mb2 + 1, 0, none⟩) C [I 7, I 8] [I 2, I (r : Int), .bool true] ((mtrs x.gaps x.offs cnt).flatMap Tr.cells) wx ∧ Row wx yv #[.int .u8 (na : Int), .int .u8 (nb : Int), .int .u8 (nc : Int), .int .u8 (nd : Int)])
            case first =>
              have hS0 : (YvS yv (.int .u8 (na : Int)) (.int .u8 (nb : Int)) (.int .u8 (nc : Int)) (.int .u8 (nd : Int))) V.drew := YvS.of ⟨HRV.out.1, HRV.out.2⟩
              refine wp_region_held_drew (S := (YvS yv (.int .u8 (na : Int)) (.int .u8 (nb : Int)) (.int .u8 (nc : Int)) (.int .u8 (nd : Int)))) (by kernel_rfl) hS0 (fun _ => ?_)
              refine wpAnyH_take_dd (i := 0) (v := (.pointer (some ⟨zb, 7, none⟩))) (d := 89) rfl rfl (by kernel_rfl) (by kernel_rfl) (by kernel_rfl) (fun _ _ _ h => h) (Or.inl ⟨by rfl, fun w' hSw => ?_⟩) hS0 ?_
              · obtain ⟨s0, s1, s2, s3⟩ := hSw
                go_simp
              try simp only [Act.put, List.setIfInBounds_toArray, List.set_cons_zero, List.set_cons_succ]
              refine wpAnyH_take_dd (i := 2) (v := (.int .i64 1)) (d := 91) rfl rfl (by kernel_rfl) (by kernel_rfl) (by kernel_rfl) (fun _ _ _ h => h) (Or.inl ⟨by rfl, fun w' hSw => ?_⟩) hS0 ?_
              · obtain ⟨s0, s1, s2, s3⟩ := hSw
                go_simp
              try simp only [Act.put, List.setIfInBounds_toArray, List.set_cons_zero, List.set_cons_succ]
              refine wpAnyH_take_dd (i := 3) (v := (.int .i64 2)) (d := 92) rfl rfl (by kernel_rfl) (by kernel_rfl) (by kernel_rfl) (fun _ _ _ h => h) (Or.inl ⟨by rfl, fun w' hSw => ?_⟩) hS0 ?_
              · obtain ⟨s0, s1, s2, s3⟩ := hSw
                go_simp
              try simp only [Act.put, List.setIfInBounds_toArray, List.set_cons_zero, List.set_cons_succ]
              refine wpAnyH_take_dd (i := 4) (v := (.pointer (some ⟨yv, 0, none⟩))) (d := 93) rfl rfl (by kernel_rfl) (by kernel_rfl) (by kernel_rfl) (fun _ _ _ h => h) (Or.inl ⟨by rfl, fun w' hSw => ?_⟩) hS0 ?_
              · obtain ⟨s0, s1, s2, s3⟩ := hSw
                go_simp
              try simp only [Act.put, List.setIfInBounds_toArray, List.set_cons_zero, List.set_cons_succ]
              refine wpAnyH_take_dd (i := 5) (v := (.int .u8 (na : Int))) (d := 94) rfl rfl (by kernel_rfl) (by kernel_rfl) (by kernel_rfl) (fun _ _ _ h => h) (Or.inl ⟨by rfl, fun w' hSw => ?_⟩) hS0 ?_
              · obtain ⟨s0, s1, s2, s3⟩ := hSw
                go_simp
              try simp only [Act.put, List.setIfInBounds_toArray, List.set_cons_zero, List.set_cons_succ]
              refine wpAnyH_take_dd (i := 6) (v := (.int .u8 (ma : Int))) (d := 95) rfl rfl (by kernel_rfl) (by kernel_rfl) (by kernel_rfl) (fun _ _ _ h => h) (Or.inl ⟨by rfl, fun w' hSw => ?_⟩) hS0 ?_
              · obtain ⟨s0, s1, s2, s3⟩ := hSw
                go_simp
              try simp only [Act.put, List.setIfInBounds_toArray, List.set_cons_zero, List.set_cons_succ]
              refine wpAnyH_take_dd (i := 7) (v := (.int .i64 (ma : Int))) (d := 96) rfl rfl (by kernel_rfl) (by kernel_rfl) (by kernel_rfl) (fun _ _ _ h => h) (Or.inl ⟨by rfl, fun w' hSw => ?_⟩) hS0 ?_
              · obtain ⟨s0, s1, s2, s3⟩ := hSw
                go_simp
              try simp only [Act.put, List.setIfInBounds_toArray, List.set_cons_zero, List.set_cons_succ]
              refine wpAnyH_take_dd (i := 8) (v := (.pointer (some ⟨yv, 1, none⟩))) (d := 97) rfl rfl (by kernel_rfl) (by kernel_rfl) (by kernel_rfl) (fun _ _ _ h => h) (Or.inl ⟨by rfl, fun w' hSw => ?_⟩) hS0 ?_
              · obtain ⟨s0, s1, s2, s3⟩ := hSw
                go_simp
              try simp only [Act.put, List.setIfInBounds_toArray, List.set_cons_zero, List.set_cons_succ]
              refine wpAnyH_take_dd (i := 9) (v := (.int .u8 (nb : Int))) (d := 98) rfl rfl (by kernel_rfl) (by kernel_rfl) (by kernel_rfl) (fun _ _ _ h => h) (Or.inl ⟨by rfl, fun w' hSw => ?_⟩) hS0 ?_
              · obtain ⟨s0, s1, s2, s3⟩ := hSw
                go_simp
              try simp only [Act.put, List.setIfInBounds_toArray, List.set_cons_zero, List.set_cons_succ]
              refine wpAnyH_take_dd (i := 10) (v := (.int .i64 (nb : Int))) (d := 99) rfl rfl (by kernel_rfl) (by kernel_rfl) (by kernel_rfl) (fun _ _ _ h => h) (Or.inl ⟨by rfl, fun w' hSw => ?_⟩) hS0 ?_
              · obtain ⟨s0, s1, s2, s3⟩ := hSw
                go_simp
              try simp only [Act.put, List.setIfInBounds_toArray, List.set_cons_zero, List.set_cons_succ]
              refine wpAnyH_take_dd (i := 11) (v := (.int .i64 ((nb : Int) * 5))) (d := 100) rfl rfl (by kernel_rfl) (by kernel_rfl) (by kernel_rfl) (fun _ _ _ h => h) (Or.inl ⟨by rfl, fun w' hSw => ?_⟩) hS0 ?_
              · obtain ⟨s0, s1, s2, s3⟩ := hSw
                go_simp
              try simp only [Act.put, List.setIfInBounds_toArray, List.set_cons_zero, List.set_cons_succ]
              refine wpAnyH_take_dd (i := 12) (v := (.pointer (some ⟨yv, 2, none⟩))) (d := 101) rfl rfl (by kernel_rfl) (by kernel_rfl) (by kernel_rfl) (fun _ _ _ h => h) (Or.inl ⟨by rfl, fun w' hSw => ?_⟩) hS0 ?_
              · obtain ⟨s0, s1, s2, s3⟩ := hSw
                go_simp
              try simp only [Act.put, List.setIfInBounds_toArray, List.set_cons_zero, List.set_cons_succ]
              refine wpAnyH_take_dd (i := 13) (v := (.int .u8 (nc : Int))) (d := 102) rfl rfl (by kernel_rfl) (by kernel_rfl) (by kernel_rfl) (fun _ _ _ h => h) (Or.inl ⟨by rfl, fun w' hSw => ?_⟩) hS0 ?_
              · obtain ⟨s0, s1, s2, s3⟩ := hSw
                go_simp
              try simp only [Act.put, List.setIfInBounds_toArray, List.set_cons_zero, List.set_cons_succ]
              refine wpAnyH_take_dd (i := 14) (v := (.int .u8 (mc : Int))) (d := 103) rfl rfl (by kernel_rfl) (by kernel_rfl) (by kernel_rfl) (fun _ _ _ h => h) (Or.inl ⟨by rfl, fun w' hSw => ?_⟩) hS0 ?_
              · obtain ⟨s0, s1, s2, s3⟩ := hSw
                go_simp
              try simp only [Act.put, List.setIfInBounds_toArray, List.set_cons_zero, List.set_cons_succ]
              refine wpAnyH_ready (rs := [1, 15]) (by kernel_rfl) (by simp) ?_
              refine AllReadyH.cons rfl (fun K hK => ?_) (AllReadyH.cons rfl (fun K hK => ?_) AllReadyH.nil)
              · have z7 : V.drew.cell? ⟨zb, 7, none⟩ = some (.slice D 1 dc) := HV.out.drew.cell 7
                go_simp
                refine hK.out _ _ hS0 (fun hS1 => ?_)
                clear hK K z7
                try simp only [Act.put, List.setIfInBounds_toArray, List.set_cons_zero, List.set_cons_succ]
                refine wpAnyH_ready (rs := [15]) (by kernel_rfl) (by simp) ?_
                refine AllReadyH.cons rfl (fun K hK => ?_) AllReadyH.nil
                go_simp
                refine (HSO.out _).mono ?_
                rintro e w5 ⟨rfl, hb5⟩
                have HX5 := Lib.hid (HV.out.drew.grow hb5)
                have HO5 : Hid (w5.ownsRow B5 80 5 (.slice D 1 dc) 1 ([myr 0 x.a0 x.a1 x.a2 x.a3].flatMap Yr.cells)) := Lib.hid (own_below (show World.ownsRow V.drew _ _ _ _ _ _ from HYV.out) hb5)
                have HR5 : Hid (Row w5 yv #[.int .u8 (na : Int), .int .u8 (nb : Int), .int .u8 (nc : Int), .int .u8 (nd : Int)]) := Lib.hid ((show Row V.drew yv _ from ⟨HRV.out.1, HRV.out.2⟩).keep hb5)
                have hsz5 : B5 ≤ w5.heap.size := HX5.out.sz
                clear hb5
                refine hK.out _ _ (YvS.of HR5.out) (fun hS5 => ?_)
                clear hK K
                try simp only [Act.put, List.setIfInBounds_toArray, List.set_cons_zero, List.set_cons_succ]
                refine wpAnyH_take_dd (i := 16) (v := (.agg #[I 2, I 1, I (ma : Int), I ((nb : Int) * 5), I ov])) (d := 105) rfl rfl (by kernel_rfl) (by kernel_rfl) (by kernel_rfl) (fun _ _ _ h => h) (Or.inl ⟨by rfl, fun w' hSw => ?_⟩) hS5 ?_
                · obtain ⟨s0, s1, s2, s3⟩ := hSw
                  go_simp
                try simp only [Act.put, List.setIfInBounds_toArray, List.set_cons_zero, List.set_cons_succ]
                refine wpAnyH_ready (rs := [17]) (by kernel_rfl) (by simp) ?_
                refine AllReadyH.cons rfl (fun K hK => ?_) AllReadyH.nil
                go_simp
                have HRB := Lib.hid (HR5.out.keep (below_var w5 (.cells #[I 2, I 1, I (ma : Int), I ((nb : Int) * 5), I ov] 80)))
                refine hK.out _ _ (YvS.of HRB.out) (fun hSB => ?_)
                clear hK K
                try simp only [Act.put, List.setIfInBounds_toArray, List.set_cons_zero, List.set_cons_succ]
                refine wpAnyH_ready (rs := [18]) (by kernel_rfl) (by simp) ?_
                refine AllReadyH.cons rfl (fun K hK => ?_) AllReadyH.nil
                refine step_append_lies _ (by rfl) _ _ _ (by rfl) B5 80 i1 (.agg #[I 0, I 0, I 0, I 0, I 0]) 5 40 Tryz.underlying39 hyi hyz0 hyz1 hyz2 rfl (by omega) (.slice D 1 dc) 1 ([myr 0 x.a0 x.a1 x.a2 x.a3].flatMap Yr.cells) (by rfl) (HO5.out.alloc _) ⟨w5.heap.size, 0, none⟩ 1 1 (Yr.cells ⟨2, 1, (ma : Int), (nb : Int) * 5, ov⟩) (by rfl) rfl (news_lit _ _ _ _ rfl) (yr_one ⟨2, 1, (ma : Int), (nb : Int) * 5, ov⟩) (by omega) (by unfold maxLen; omega) (by omega) (by simp; omega) _ rfl ?_
                intro gg cap w6 hown6 hgrow6 _ _
                have HX6 := Lib.hid ((HX5.out.grow (below_var w5 (.cells #[I 2, I 1, I (ma : Int), I ((nb : Int) * 5), I ov] 80))).grown hgrow6 (own_base HO5.out))
                have HR6 := Lib.hid ((HR5.out.keep (below_var w5 (.cells #[I 2, I 1, I (ma : Int), I ((nb : Int) * 5), I ov] 80))).grown hgrow6 (ne_own HYG.out))
                have HO6 := Lib.hid hown6
                clear hown6 hgrow6
                refine hK.out _ _ (YvS.of HR6.out) (fun hS6 => ?_)
                clear hK K
                try simp only [Act.put, List.setIfInBounds_toArray]
                refine wpAnyH_take_dd (i := 19) (v := (.pointer (some ⟨zb, 7, none⟩))) (d := 108) rfl rfl (by kernel_rfl) (by kernel_rfl) (by kernel_rfl) (fun _ _ _ h => h) (Or.inl ⟨by rfl, fun w' hSw => ?_⟩) hS6 ?_
                · obtain ⟨s0, s1, s2, s3⟩ := hSw
                  go_simp
                try simp only [Act.put]
                refine wpAnyH_ready (rs := [20]) (by kernel_rfl) (by simp) ?_
                refine AllReadyH.cons rfl (fun K hK => ?_) AllReadyH.nil
                have c66 : w6.cell? ⟨zb, 7, none⟩ = some (.slice D 1 dc) := HX6.out.cell 7
                have f66 : w6.frozen? ⟨zb, 7, none⟩ = false := HX6.out.froz 7
                go_simp
                have HX7 := Lib.hid (HX6.out.store 7 (.slice (some ⟨gg, 0, none⟩) 2 cap))
                have HR7 : Hid (Row (w6.setCell ⟨zb, 7, none⟩ (.slice (some ⟨gg, 0, none⟩) 2 cap)) yv #[.int .u8 (na : Int), .int .u8 (nb : Int), .int .u8 (nc : Int), .int .u8 (nd : Int)]) := Lib.hid ⟨by simpa using HR6.out.1, fun i => (World.cell?_setCell_other _ _ _ _ (by first | (simp; done) | (simp; omega))).trans (HR6.out.2 i)⟩
                refine hK.out _ _ (YvS.of HR7.out) (fun _ => ?_)
                clear hK K
                refine wpAnyH_done (by kernel_rfl) ?_ _
                go_wp2_with fail
                go_meet
                exact ⟨gg, cap, ownsRow_setCell_below (a := ⟨zb, 7, none⟩) HO6.out hzB _, HX7.out, HR7.out⟩
              · go_simp
                refine (HSO.out _).mono ?_
                rintro e w5 ⟨rfl, hb5⟩
                have HX5 := Lib.hid (HV.out.drew.grow hb5)
                have HO5 : Hid (w5.ownsRow B5 80 5 (.slice D 1 dc) 1 ([myr 0 x.a0 x.a1 x.a2 x.a3].flatMap Yr.cells)) := Lib.hid (own_below (show World.ownsRow V.drew _ _ _ _ _ _ from HYV.out) hb5)
                have HR5 : Hid (Row w5 yv #[.int .u8 (na : Int), .int .u8 (nb : Int), .int .u8 (nc : Int), .int .u8 (nd : Int)]) := Lib.hid ((show Row V.drew yv _ from ⟨HRV.out.1, HRV.out.2⟩).keep hb5)
                have hsz5 : B5 ≤ w5.heap.size := HX5.out.sz
                clear hb5
                refine hK.out _ _ (YvS.of HR5.out) (fun hS5 => ?_)
                clear hK K
                try simp only [Act.put, List.setIfInBounds_toArray, List.set_cons_zero, List.set_cons_succ]
                refine wpAnyH_take_dd (i := 16) (v := (.agg #[I 2, I 1, I (ma : Int), I ((nb : Int) * 5), I ov])) (d := 105) rfl rfl (by kernel_rfl) (by kernel_rfl) (by kernel_rfl) (fun _ _ _ h => h) (Or.inl ⟨by rfl, fun w' hSw => ?_⟩) hS5 ?_
                · obtain ⟨s0, s1, s2, s3⟩ := hSw
                  go_simp
                try simp only [Act.put, List.setIfInBounds_toArray, List.set_cons_zero, List.set_cons_succ]
                refine wpAnyH_ready (rs := [1, 17]) (by kernel_rfl) (by simp) ?_
                refine AllReadyH.cons rfl (fun K hK => ?_) (AllReadyH.cons rfl (fun K hK => ?_) AllReadyH.nil)
                · have z7 : w5.cell? ⟨zb, 7, none⟩ = some (.slice D 1 dc) := HX5.out.cell 7
                  go_simp
                  refine hK.out _ _ hS5 (fun hS1 => ?_)
                  clear hK K z7
                  try simp only [Act.put, List.setIfInBounds_toArray, List.set_cons_zero, List.set_cons_succ]
                  refine wpAnyH_ready (rs := [17]) (by kernel_rfl) (by simp) ?_
                  refine AllReadyH.cons rfl (fun K hK => ?_) AllReadyH.nil
                  go_simp
                  have HRB := Lib.hid (HR5.out.keep (below_var w5 (.cells #[I 2, I 1, I (ma : Int), I ((nb : Int) * 5), I ov] 80)))
                  refine hK.out _ _ (YvS.of HRB.out) (fun hSB => ?_)
                  clear hK K
                  try simp only [Act.put, List.setIfInBounds_toArray, List.set_cons_zero, List.set_cons_succ]
                  refine wpAnyH_ready (rs := [18]) (by kernel_rfl) (by simp) ?_
                  refine AllReadyH.cons rfl (fun K hK => ?_) AllReadyH.nil
                  refine step_append_lies _ (by rfl) _ _ _ (by rfl) B5 80 i1 (.agg #[I 0, I 0, I 0, I 0, I 0]) 5 40 Tryz.underlying39 hyi hyz0 hyz1 hyz2 rfl (by omega) (.slice D 1 dc) 1 ([myr 0 x.a0 x.a1 x.a2 x.a3].flatMap Yr.cells) (by rfl) (HO5.out.alloc _) ⟨w5.heap.size, 0, none⟩ 1 1 (Yr.cells ⟨2, 1, (ma : Int), (nb : Int) * 5, ov⟩) (by rfl) rfl (news_lit _ _ _ _ rfl) (yr_one ⟨2, 1, (ma : Int), (nb : Int) * 5, ov⟩) (by omega) (by unfold maxLen; omega) (by omega) (by simp; omega) _ rfl ?_
                  intro gg cap w6 hown6 hgrow6 _ _
                  have HX6 := Lib.hid ((HX5.out.grow (below_var w5 (.cells #[I 2, I 1, I (ma : Int), I ((nb : Int) * 5), I ov] 80))).grown hgrow6 (own_base HO5.out))
                  have HR6 := Lib.hid ((HR5.out.keep (below_var w5 (.cells #[I 2, I 1, I (ma : Int), I ((nb : Int) * 5), I ov] 80))).grown hgrow6 (ne_own HYG.out))
                  have HO6 := Lib.hid hown6
                  clear hown6 hgrow6
                  refine hK.out _ _ (YvS.of HR6.out) (fun hS6 => ?_)
                  clear hK K
                  try simp only [Act.put, List.setIfInBounds_toArray]
                  refine wpAnyH_take_dd (i := 19) (v := (.pointer (some ⟨zb, 7, none⟩))) (d := 108) rfl rfl (by kernel_rfl) (by kernel_rfl) (by kernel_rfl) (fun _ _ _ h => h) (Or.inl ⟨by rfl, fun w' hSw => ?_⟩) hS6 ?_
                  · obtain ⟨s0, s1, s2, s3⟩ := hSw
                    go_simp
                  try simp only [Act.put]
                  refine wpAnyH_ready (rs := [20]) (by kernel_rfl) (by simp) ?_
                  refine AllReadyH.cons rfl (fun K hK => ?_) AllReadyH.nil
                  have c66 : w6.cell? ⟨zb, 7, none⟩ = some (.slice D 1 dc) := HX6.out.cell 7
                  have f66 : w6.frozen? ⟨zb, 7, none⟩ = false := HX6.out.froz 7
                  go_simp
                  have HX7 := Lib.hid (HX6.out.store 7 (.slice (some ⟨gg, 0, none⟩) 2 cap))
                  have HR7 : Hid (Row (w6.setCell ⟨zb, 7, none⟩ (.slice (some ⟨gg, 0, none⟩) 2 cap)) yv #[.int .u8 (na : Int), .int .u8 (nb : Int), .int .u8 (nc : Int), .int .u8 (nd : Int)]) := Lib.hid ⟨by simpa using HR6.out.1, fun i => (World.cell?_setCell_other _ _ _ _ (by first | (simp; done) | (simp; omega))).trans (HR6.out.2 i)⟩
                  refine hK.out _ _ (YvS.of HR7.out) (fun _ => ?_)
                  clear hK K
                  refine wpAnyH_done (by kernel_rfl) ?_ _
                  go_wp2_with fail
                  go_meet
                  exact ⟨gg, cap, ownsRow_setCell_below (a := ⟨zb, 7, none⟩) HO6.out hzB _, HX7.out, HR7.out⟩
                · go_simp
                  have HRB := Lib.hid (HR5.out.keep (below_var w5 (.cells #[I 2, I 1, I (ma : Int), I ((nb : Int) * 5), I ov] 80)))
                  refine hK.out _ _ (YvS.of HRB.out) (fun hSB => ?_)
                  clear hK K
                  try simp only [Act.put, List.setIfInBounds_toArray, List.set_cons_zero, List.set_cons_succ]
                  refine wpAnyH_ready (rs := [1]) (by kernel_rfl) (by simp) ?_
                  refine AllReadyH.cons rfl (fun K hK => ?_) AllReadyH.nil
                  have HXB := Lib.hid (HX5.out.grow (below_var w5 (.cells #[I 2, I 1, I (ma : Int), I ((nb : Int) * 5), I ov] 80)))
                  have z7 : (w5.alloc (.cells #[I 2, I 1, I (ma : Int), I ((nb : Int) * 5), I ov] 80)).cell? ⟨zb, 7, none⟩ = some (.slice D 1 dc) := HXB.out.cell 7
                  go_simp
                  refine hK.out _ _ hSB (fun hS1 => ?_)
                  clear hK K z7
                  try simp only [Act.put, List.setIfInBounds_toArray, List.set_cons_zero, List.set_cons_succ]
                  refine wpAnyH_ready (rs := [18]) (by kernel_rfl) (by simp) ?_
                  refine AllReadyH.cons rfl (fun K hK => ?_) AllReadyH.nil
                  refine step_append_lies _ (by rfl) _ _ _ (by rfl) B5 80 i1 (.agg #[I 0, I 0, I 0, I 0, I 0]) 5 40 Tryz.underlying39 hyi hyz0 hyz1 hyz2 rfl (by omega) (.slice D 1 dc) 1 ([myr 0 x.a0 x.a1 x.a2 x.a3].flatMap Yr.cells) (by rfl) (HO5.out.alloc _) ⟨w5.heap.size, 0, none⟩ 1 1 (Yr.cells ⟨2, 1, (ma : Int), (nb : Int) * 5, ov⟩) (by rfl) rfl (news_lit _ _ _ _ rfl) (yr_one ⟨2, 1, (ma : Int), (nb : Int) * 5, ov⟩) (by omega) (by unfold maxLen; omega) (by omega) (by simp; omega) _ rfl ?_
                  intro gg cap w6 hown6 hgrow6 _ _
                  have HX6 := Lib.hid ((HX5.out.grow (below_var w5 (.cells #[I 2, I 1, I (ma : Int), I ((nb : Int) * 5), I ov] 80))).grown hgrow6 (own_base HO5.out))
                  have HR6 := Lib.hid ((HR5.out.keep (below_var w5 (.cells #[I 2, I 1, I (ma : Int), I ((nb : Int) * 5), I ov] 80))).grown hgrow6 (ne_own HYG.out))
                  have HO6 := Lib.hid hown6
                  clear hown6 hgrow6
                  refine hK.out _ _ (YvS.of HR6.out) (fun hS6 => ?_)
                  clear hK K
                  try simp only [Act.put, List.setIfInBounds_toArray]
                  refine wpAnyH_take_dd (i := 19) (v := (.pointer (some ⟨zb, 7, none⟩))) (d := 108) rfl rfl (by kernel_rfl) (by kernel_rfl) (by kernel_rfl) (fun _ _ _ h => h) (Or.inl ⟨by rfl, fun w' hSw => ?_⟩) hS6 ?_
                  · obtain ⟨s0, s1, s2, s3⟩ := hSw
                    go_simp
                  try simp only [Act.put]
                  refine wpAnyH_ready (rs := [20]) (by kernel_rfl) (by simp) ?_
                  refine AllReadyH.cons rfl (fun K hK => ?_) AllReadyH.nil
                  have c66 : w6.cell? ⟨zb, 7, none⟩ = some (.slice D 1 dc) := HX6.out.cell 7
                  have f66 : w6.frozen? ⟨zb, 7, none⟩ = false := HX6.out.froz 7
                  go_simp
                  have HX7 := Lib.hid (HX6.out.store 7 (.slice (some ⟨gg, 0, none⟩) 2 cap))
                  have HR7 : Hid (Row (w6.setCell ⟨zb, 7, none⟩ (.slice (some ⟨gg, 0, none⟩) 2 cap)) yv #[.int .u8 (na : Int), .int .u8 (nb : Int), .int .u8 (nc : Int), .int .u8 (nd : Int)]) := Lib.hid ⟨by simpa using HR6.out.1, fun i => (World.cell?_setCell_other _ _ _ _ (by first | (simp; done) | (simp; omega))).trans (HR6.out.2 i)⟩
                  refine hK.out _ _ (YvS.of HR7.out) (fun _ => ?_)
                  clear hK K
                  refine wpAnyH_done (by kernel_rfl) ?_ _
                  go_wp2_with fail
                  go_meet
                  exact ⟨gg, cap, ownsRow_setCell_below (a := ⟨zb, 7, none⟩) HO6.out hzB _, HX7.out, HR7.out⟩
            case rest =>
              obtain ⟨gg, cap, hown, hmz, hrv⟩ := hcut
              have HO7 := Lib.hid hown
              have HM7 := Lib.hid hmz
              have hgl : gg < wc.heap.size := (World.ownsRow.lt hown gg rfl).2
              have hgB : B5 ≤ gg := (World.ownsRow.lt hown gg rfl).1
              have y3 : wc.cell? ⟨yv, 3, none⟩ = some (.int .u8 (nd : Int)) := hrv.2 3
              have z7 : wc.cell? ⟨zb, 7, none⟩ = some (.slice (some ⟨gg, 0, none⟩) 2 cap) := hmz.cell 7
              have q1 : wc.cell? ⟨gg, 6, none⟩ = some (I 1) := (hown.cellAt 6 (by omega)).trans rfl
              have qf : ∀ j, wc.frozen? ⟨gg, j, none⟩ = false := fun j => hown.frozenAt j
              clear hown hmz hrv
              rcases hmd2 with rfl | rfl
              · go_wp2_with fail
                go_roundw
                case rel =>
                  have hy := HYR.out
                  rw [if_neg (by omega)] at hy
                  refine ⟨2, cap, some ⟨gg, 0, none⟩, by omega, by go_num, ?_, HM7.out⟩
                  have h := HO7.out
                  have e : ([myr 0 x.a0 x.a1 x.a2 x.a3, myr 1 x.b0 x.b1 x.b2 x.b3].take 2).flatMap Yr.cells = [myr 0 x.a0 x.a1 x.a2 x.a3].flatMap Yr.cells ++ Yr.cells ⟨2, 1, (ma : Int), (nb : Int) * 5, ov⟩ := by
                    show [myr 0 x.a0 x.a1 x.a2 x.a3, myr 1 x.b0 x.b1 x.b2 x.b3].flatMap Yr.cells = _
                    rw [hy]
                    simp [Yr.cells]
                  rw [e]
                  exact h
                case measure => simp [intOf]
              · go_wp2_with fail
                go_roundw
                case rel =>
                  have hy := HYR.out
                  rw [if_pos rfl] at hy
                  refine ⟨2, cap, some ⟨gg, 0, none⟩, by omega, by go_num, ?_, HM7.out.grown (HO7.out.stored 6 (I 5)).2 (fun g hg => by injection hg with hg; omega)⟩
                  have h := (HO7.out.stored 6 (I 5)).1
                  have e : ([myr 0 x.a0 x.a1 x.a2 x.a3, myr 1 x.b0 x.b1 x.b2 x.b3].take 2).flatMap Yr.cells = ([myr 0 x.a0 x.a1 x.a2 x.a3].flatMap Yr.cells ++ Yr.cells ⟨2, 1, (ma : Int), (nb : Int) * 5, ov⟩).set 6 (I 5) := by
                    show [myr 0 x.a0 x.a1 x.a2 x.a3, myr 1 x.b0 x.b1 x.b2 x.b3].flatMap Yr.cells = _
                    rw [hy]
                    simp [Yr.cells]
                  rw [e]
                  exact h
                case measure => simp [intOf]
          · go_wp2_with fail
            go_meet
            exact ⟨rfl, D, dc, HYO.out, HX.out⟩
      case rest =>
        obtain ⟨rfl, D, dc, hyo, hmz⟩ := hcut
        have HYO := Lib.hid hyo
        have HX := Lib.hid hmz
        clear hyo hmz HM4 hyi hyz0 hyz1 hyz2
        have hzn1 : znCells (zn1 x) ⟨some ⟨mb2, 0, none⟩, 2, some ⟨mb2 + 1, 0, none⟩, 1, C, cc, D, dc⟩ = #[I 5, .slice (some ⟨mb2, 0, none⟩) 2 2, I 1, .slice (some ⟨mb2 + 1, 0, none⟩) 1 1, I st, .slice C cnt cc, I hz, (.slice D 2 dc)] := by
          have h := HZN.out
          unfold znCells at h ⊢
          unfold zn1
          simp only [List.length_cons, List.length_nil, Nat.zero_add, Nat.reduceAdd]
          have e0 : (zn0 x).yearly = [] := rfl
          rw [e0] at h
          injection h with h
          simp only [List.cons.injEq] at h
          obtain ⟨h0, h1, h2, h3, h4, h5, h6, _⟩ := h
          rw [h0, h1, h2, h3, h4, h5, h6]
        have HZ1 := Lib.hid hzn1
        have hval : Calls Tryz.prog 52 #[.agg #[I 5, .slice (some ⟨mb2, 0, none⟩) 2 2, I 1, .slice (some ⟨mb2 + 1, 0, none⟩) 1 1, I st, .slice C cnt cc, I hz, (.slice D 2 dc)]] wc (Gives (.int .i64 (rvF (zn1 x))) wc) := by
          have h1 := HX.out.mon.at HX.out.sz
          have h2 := HX.out.rul.at HX.out.sz
          have h3 := HX.out.trn.at HX.out.sz
          have h0 := zn0_at1 x HPAR.out HQR.out HCNT.out (s := ⟨some ⟨mb2, 0, none⟩, 2, some ⟨mb2 + 1, 0, none⟩, 1, C, cc, D, dc⟩) h1 h2 h3
          have h := rvalid_any (zn1 x) ⟨some ⟨mb2, 0, none⟩, 2, some ⟨mb2 + 1, 0, none⟩, 1, C, cc, D, dc⟩ wc (zn1_M x) ⟨h0.months, h0.rules, h0.trans, CellsAt.of_own HYO.out⟩
          rw [HZ1.out] at h
          exact h
        have HROW : Hid (Row wc zb #[I 5, .slice (some ⟨mb2, 0, none⟩) 2 2, I 1, .slice (some ⟨mb2 + 1, 0, none⟩) 1 1, I st, .slice C cnt cc, I hz, (.slice D 2 dc)]) := Lib.hid ⟨HX.out.zlt, fun i => HX.out.cell i⟩
        have HVAL := Lib.hid hval
        clear hval hzn1
        go_wp2_with ((with_reducible refine g_loa 41 ?_); go_must (refine wpList_load_Row rfl _ _ rfl zb rfl #[I 5, .slice (some ⟨mb2, 0, none⟩) 2 2, I 1, .slice (some ⟨mb2 + 1, 0, none⟩) 1 1, I st, .slice C cnt cc, I hz, (.slice D 2 dc)] HROW.out _ Tryz.underlying41 rfl (by kernel_rfl) ?_))
        refine HVAL.out.mono ?_
        rintro e w8 ⟨rfl, hb8⟩
        have HX8 := Lib.hid (HX.out.grow hb8)
        have HY8 : Hid (w8.ownsRow B5 80 5 (.slice D 2 dc) 2 ([myr 0 x.a0 x.a1 x.a2 x.a3, myr 1 x.b0 x.b1 x.b2 x.b3].flatMap Yr.cells)) := Lib.hid (own_below HYO.out hb8)
        clear hb8 HVAL HROW HX HYO
        obtain ⟨rv, hrv⟩ : ∃ v, rvF (zn1 x) = v := ⟨_, rfl⟩
        rw [hrv]
        have HRV := Lib.hid hrv
        clear hrv
        by_cases hr0 : rv = 0
        · subst hr0
          have hone : (#[I 5, .slice (some ⟨mb2, 0, none⟩) 2 2, I 1, .slice (some ⟨mb2 + 1, 0, none⟩) 1 1, I st, .slice C cnt cc, I hz, (.slice D 2 dc)] : Array Value).all (·.oneCell') = true := by simp [Value.oneCell']
          have HROW : Hid (Row w8 zb #[I 5, .slice (some ⟨mb2, 0, none⟩) 2 2, I 1, .slice (some ⟨mb2 + 1, 0, none⟩) 1 1, I st, .slice C cnt cc, I hz, (.slice D 2 dc)]) := Lib.hid ⟨HX8.out.zlt, fun i => HX8.out.cell i⟩
          have HMADE : Hid (madeZn x = zn1 x) := Lib.hid (by unfold madeZn; rw [if_pos ⟨HRL.out, HRV.out⟩])
          go_wp2_with (first
            | ((with_reducible refine g_loa 41 ?_); go_must (refine wpList_load_Row rfl _ _ rfl zb rfl #[I 5, .slice (some ⟨mb2, 0, none⟩) 2 2, I 1, .slice (some ⟨mb2 + 1, 0, none⟩) 1 1, I st, .slice C cnt cc, I hz, (.slice D 2 dc)] HROW.out _ Tryz.underlying41 rfl (by kernel_rfl) ?_))
            | ((with_reducible refine g_sto 41 ?_); go_must (refine wpList_store_row rfl _ _ _ rfl (w.heap.size + 1) #[I 5, .slice (some ⟨mb2, 0, none⟩) 2 2, I 1, .slice (some ⟨mb2 + 1, 0, none⟩) 1 1, I st, .slice C cnt cc, I hz, (.slice D 2 dc)] rfl rfl 41 zZn HX8.out.res (by kernel_rfl) rfl hone ?_)))
          obtain ⟨d1, d2, d3, d4⟩ := HX8.out.done #[I 5, .slice (some ⟨mb2, 0, none⟩) 2 2, I 1, .slice (some ⟨mb2 + 1, 0, none⟩) 1 1, I st, .slice C cnt cc, I hz, (.slice D 2 dc)]
          have d5 : CellsAt (w8.setRow (w.heap.size + 1) #[I 5, .slice (some ⟨mb2, 0, none⟩) 2 2, I 1, .slice (some ⟨mb2 + 1, 0, none⟩) 1 1, I st, .slice C cnt cc, I hz, (.slice D 2 dc)]) (w8.setRow (w.heap.size + 1) #[I 5, .slice (some ⟨mb2, 0, none⟩) 2 2, I 1, .slice (some ⟨mb2 + 1, 0, none⟩) 1 1, I st, .slice C cnt cc, I hz, (.slice D 2 dc)]).heap.size D ([myr 0 x.a0 x.a1 x.a2 x.a3, myr 1 x.b0 x.b1 x.b2 x.b3].flatMap Yr.cells) := by
            have h1 : LZ (w.heap.size + 2) w8.heap.size zb w8 D ([myr 0 x.a0 x.a1 x.a2 x.a3, myr 1 x.b0 x.b1 x.b2 x.b3].flatMap Yr.cells) := LZ.of_own HY8.out (by omega) hzB (Nat.le_refl _)
            exact (h1.of_blocks fun k hk _ _ => setRow_other _ _ k _ (by omega)).at (by simp [World.setRow])
          have h0 := zn0_at1 x HPAR.out HQR.out HCNT.out (s := ⟨some ⟨mb2, 0, none⟩, 2, some ⟨mb2 + 1, 0, none⟩, 1, C, cc, D, dc⟩) d1 d2 d3
          refine bodyPost_ret (v := .agg #[I 5, .slice (some ⟨mb2, 0, none⟩) 2 2, I 1, .slice (some ⟨mb2 + 1, 0, none⟩) 1 1, I st, .slice C cnt cc, I hz, (.slice D 2 dc)]) (results_cell_row rfl _ _ (w.heap.size + 1) _ #[I 5, .slice (some ⟨mb2, 0, none⟩) 2 2, I 1, .slice (some ⟨mb2 + 1, 0, none⟩) 1 1, I st, .slice C cnt cc, I hz, (.slice D 2 dc)] (0, 0) _ rfl (setRow_heap _ _ _ _ _ _ HX8.out.res) Tryz.underlying41 rfl (by kernel_rfl)) rfl ?_
          have l5 : LZ (w.heap.size + 2) w8.heap.size zb w8 D ([myr 0 x.a0 x.a1 x.a2 x.a3, myr 1 x.b0 x.b1 x.b2 x.b3].flatMap Yr.cells) := LZ.of_own HY8.out (by omega) hzB (Nat.le_refl _)
          have l0 : ZnLow w.heap.size ⟨some ⟨mb2, 0, none⟩, 2, some ⟨mb2 + 1, 0, none⟩, 1, C, cc, D, dc⟩ (zn0 x) := (zn0_low1 x HPAR.out HQR.out HCNT.out (HX8.out.mon.low (Nat.le_add_right _ _)) (HX8.out.rul.low (Nat.le_add_right _ _)) (HX8.out.trn.low (Nat.le_add_right _ _)))
          refine ⟨⟨some ⟨mb2, 0, none⟩, 2, some ⟨mb2 + 1, 0, none⟩, 1, C, cc, D, dc⟩, by rw [HMADE.out, HZ1.out], ?_, ?_, d4⟩
          · rw [HMADE.out]
            exact ⟨h0.months, h0.rules, h0.trans, d5⟩
          · rw [HMADE.out]
            exact ⟨l0.1, l0.2.1, l0.2.2.1, l5.low (Nat.le_add_right _ _)⟩
        · have hne : (rv != 0) = true := by simp [hr0]
          have HMADE : Hid (madeZn x = zn0 x) := Lib.hid (by unfold madeZn; rw [if_neg (by intro h; exact hr0 (HRV.out.symm.trans h.2))])
          have z7 : w8.cell? ⟨zb, 7, none⟩ = some (.slice D 2 dc) := HX8.out.cell 7
          have f7 : w8.frozen? ⟨zb, 7, none⟩ = false := HX8.out.froz 7
          go_upto_region 22 with fail
          have HX9 : Hid (MZ w xs zb B5 #[I 5, .slice (some ⟨mb2, 0, none⟩) 2 2, I 1, .slice (some ⟨mb2 + 1, 0, none⟩) 1 1, I st, .slice C cnt cc, I hz, (.slice none 0 0)] (some ⟨mb2, 0, none⟩) (some ⟨mb2 + 1, 0, none⟩) C [I 7, I 8] [I 2, I (r : Int), .bool true] ((mtrs x.gaps x.offs cnt).flatMap Tr.cells) (w8.setCell ⟨zb, 7, none⟩ (.slice none 0 0))) := Lib.hid (HX8.out.store 7 (.slice none 0 0))
          clear z7 f7 HY8 HX8
          generalize w8.setCell ⟨zb, 7, none⟩ (.slice none 0 0) = W9 at HX9 ⊢
          have hone : (#[I 5, .slice (some ⟨mb2, 0, none⟩) 2 2, I 1, .slice (some ⟨mb2 + 1, 0, none⟩) 1 1, I st, .slice C cnt cc, I hz, (.slice none 0 0)] : Array Value).all (·.oneCell') = true := by simp [Value.oneCell']
          have HROW : Hid (Row W9 zb #[I 5, .slice (some ⟨mb2, 0, none⟩) 2 2, I 1, .slice (some ⟨mb2 + 1, 0, none⟩) 1 1, I st, .slice C cnt cc, I hz, (.slice none 0 0)]) := Lib.hid ⟨HX9.out.zlt, fun i => HX9.out.cell i⟩
          go_wp2_with (first
            | ((with_reducible refine g_loa 41 ?_); go_must (refine wpList_load_Row rfl _ _ rfl zb rfl #[I 5, .slice (some ⟨mb2, 0, none⟩) 2 2, I 1, .slice (some ⟨mb2 + 1, 0, none⟩) 1 1, I st, .slice C cnt cc, I hz, (.slice none 0 0)] HROW.out _ Tryz.underlying41 rfl (by kernel_rfl) ?_))
            | ((with_reducible refine g_sto 41 ?_); go_must (refine wpList_store_row rfl _ _ _ rfl (w.heap.size + 1) #[I 5, .slice (some ⟨mb2, 0, none⟩) 2 2, I 1, .slice (some ⟨mb2 + 1, 0, none⟩) 1 1, I st, .slice C cnt cc, I hz, (.slice none 0 0)] rfl rfl 41 zZn HX9.out.res (by kernel_rfl) rfl hone ?_)))
          obtain ⟨d1, d2, d3, d4⟩ := HX9.out.done #[I 5, .slice (some ⟨mb2, 0, none⟩) 2 2, I 1, .slice (some ⟨mb2 + 1, 0, none⟩) 1 1, I st, .slice C cnt cc, I hz, (.slice none 0 0)]
          have h0 := zn0_at1 x HPAR.out HQR.out HCNT.out (s := ⟨some ⟨mb2, 0, none⟩, 2, some ⟨mb2 + 1, 0, none⟩, 1, C, cc, none, 0⟩) d1 d2 d3
          refine bodyPost_ret (v := .agg #[I 5, .slice (some ⟨mb2, 0, none⟩) 2 2, I 1, .slice (some ⟨mb2 + 1, 0, none⟩) 1 1, I st, .slice C cnt cc, I hz, (.slice none 0 0)]) (results_cell_row rfl _ _ (w.heap.size + 1) _ #[I 5, .slice (some ⟨mb2, 0, none⟩) 2 2, I 1, .slice (some ⟨mb2 + 1, 0, none⟩) 1 1, I st, .slice C cnt cc, I hz, (.slice none 0 0)] (0, 0) _ rfl (setRow_heap _ _ _ _ _ _ HX9.out.res) Tryz.underlying41 rfl (by kernel_rfl)) rfl ?_
          refine ⟨⟨some ⟨mb2, 0, none⟩, 2, some ⟨mb2 + 1, 0, none⟩, 1, C, cc, none, 0⟩, by rw [HMADE.out, HZN.out], ?_, ?_, d4⟩
          · rw [HMADE.out]
            exact h0
          · rw [HMADE.out]
            exact (zn0_low1 x HPAR.out HQR.out HCNT.out (HX9.out.mon.low (Nat.le_add_right _ _)) (HX9.out.rul.low (Nat.le_add_right _ _)) (HX9.out.trn.low (Nat.le_add_right _ _)))
end Go.Proofs.YtbdkalpljhpnmaaGreat
