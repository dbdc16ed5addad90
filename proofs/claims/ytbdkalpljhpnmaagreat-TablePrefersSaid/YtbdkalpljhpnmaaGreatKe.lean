/- kalendsref13.Yearly of any made zone, within, after. -/
import Derived.Test.YtbdkalpljhpnmaaGreatKd
import Derived.BigQuiet
import Derived.Deep.AppendLies
import Derived.Deep.CutBlock
import Derived.Deep.DeepCutAuto
import Derived.Deep.DrawnRows
import Derived.Deep.MidRow
import Derived.Deep.QuietTactic
import Derived.Deep.RegionHeld3
import Derived.Deep.RegionLaw
import Derived.Deep.WholeRow
import Derived.Great.BuildSlice
import Derived.Handy
import Derived.Laws.BytesString
import Derived.Laws.CopyOwn
import Derived.Laws.EntriesVeiled
import Derived.Laws.MakeOwn
import Derived.Laws.ResultCell
import Derived.Laws.Rows
import Derived.Laws.Tables
import Derived.Lib.Hide
import Derived.LoopIn
import Derived.LoopNIn
import Derived.Maps.AppendAt
import Derived.Outline
import Derived.OwnWalkIn
import Derived.RangeFuncBound
import Derived.RangeFuncBox
import Derived.RangeFuncCalls
import Derived.RangeFuncLeaves
import Derived.RangeFuncNested
import Derived.Shelf.Abstract
import Derived.Shelf.Bytes.SlSmallAll
import Derived.Shelf.RegionOpen
import Derived.StillTailTactics
import Derived.Stop.BytesEq
import Derived.TacticsInMore
import Derived.WalkKit
import Derived.WalkLawsBesides
import Derived.WalkSpells
namespace Go.Proofs.YtbdkalpljhpnmaaGreat
open Go Go.RowKit

def offI (ts : List Tr) (i : Nat) : Int := (ts[i]?.map (·.off)).getD 0
def turnF (ts : List Tr) (size t : Int) : Int := if atI ts 0 < t then (t - atI ts 0).tdiv size else 0
/-- The first yearly transition at or after an instant. -/
def afterF (ts : List Tr) (size t : Int) : Tr × Bool :=
  if ts.length = 0 then (⟨0, 0⟩, false)
  else match (List.range ts.length).find? (fun j => decide (t ≤ atI ts j + turnF ts size t * size)) with
    | some j => (⟨atI ts j + turnF ts size t * size, offI ts j⟩, true)
    | none => (⟨atI ts 0 + (turnF ts size t + 1) * size, offI ts 0⟩, true)
theorem after_hit {ts : List Tr} {size t q : Int} {n k : Nat} (hq : turnF ts size t = q) (hl : ts.length = n) (hk : k < n) (h : ∀ j, j < k → atI ts j + q * size < t) (h1 : t ≤ atI ts k + q * size) : afterF ts size t = (⟨atI ts k + q * size, offI ts k⟩, true) := by
  have hf : (List.range ts.length).find? (fun j => decide (t ≤ atI ts j + q * size)) = some k := by
    rw [List.find?_range_eq_some]
    exact ⟨decide_eq_true h1, List.mem_range.2 (by omega), fun j hj => by have := h j hj; simp; omega⟩
  unfold afterF
  rw [if_neg (by omega), hq, hf]
theorem after_miss {ts : List Tr} {size t q : Int} {n : Nat} (hq : turnF ts size t = q) (hl : ts.length = n) (hk : 0 < n) (h : ∀ j, j < n → atI ts j + q * size < t) : afterF ts size t = (⟨atI ts 0 + (q + 1) * size, offI ts 0⟩, true) := by
  have hf : (List.range ts.length).find? (fun j => decide (t ≤ atI ts j + q * size)) = none := by
    rw [List.find?_range_eq_none]
    intro j hj
    have := h j (by omega)
    simp
    omega
  unfold afterF
  rw [if_neg (by omega), hq, hf]
theorem trs_off {lo g n cp : Nat} {W : World} {ts : List Tr} (h : TrsO lo W (some ⟨g, 0, none⟩) n cp ts) (hl : ts.length = n) (k : Nat) (hk : k < n) : W.cell? ⟨g, k * 2 + 1, none⟩ = some (I (offI ts k)) := by
  have hx : ts[k]? = some ts[k] := List.getElem?_eq_getElem (by omega)
  rw [World.ownsRow.cellAt h (k * 2 + 1) (by omega), flat_get (s := 2) Tr.cells ts (fun _ _ => rfl) k 1 _ hx (by omega)]
  unfold offI
  rw [hx]
  rfl
theorem turn_bd {ts : List Tr} {sz t q : Int} (hq : turnF ts sz t = q) (hs : 1440 ≤ sz) (ha : -10000000 ≤ atI ts 0) (ht0 : 0 ≤ t) (ht : t ≤ 1000000) : 0 ≤ q ∧ q ≤ 100000000 ∧ 0 ≤ q * sz ∧ q * sz ≤ 11000000 ∧ t ≤ atI ts 0 + (q + 1) * sz ∧ (q + 1) * sz = q * sz + sz := by
  have e1 : (q + 1) * sz = q * sz + sz := by rw [Int.add_mul, Int.one_mul]
  unfold turnF at hq
  split at hq
  · rename_i h
    rw [Int.tdiv_eq_ediv_of_nonneg (by omega)] at hq
    have h1 := Int.emod_add_mul_ediv (t - atI ts 0) sz
    have h2 := Int.emod_nonneg (t - atI ts 0) (show sz ≠ 0 by omega)
    have h3 := Int.emod_lt_of_pos (t - atI ts 0) (show 0 < sz by omega)
    have h4 : 0 ≤ (t - atI ts 0) / sz := Int.ediv_nonneg (by omega) (by omega)
    rw [hq] at h1 h4
    rw [Int.mul_comm] at h1
    have h5 : q * 1440 ≤ q * sz := Int.mul_le_mul_of_nonneg_left hs h4
    generalize q * sz = p at *
    refine ⟨h4, ?_, ?_, ?_, ?_, e1⟩ <;> omega
  · subst hq
    rw [Int.zero_mul] at *
    refine ⟨?_, ?_, ?_, ?_, ?_, e1⟩ <;> omega
set_option maxRecDepth 10000 in
set_option maxHeartbeats 1000000 in
theorem within_any (n l : Int) (w : World) (hl : 0 ≤ l) (hl2 : l ≤ 4000000000000000) : Calls Tryz.prog 68 #[I n, I l] w fun e w' => e = .returned (.bool (decide (-l ≤ n) && decide (n ≤ l))) ∧ w' = w := by
  by_cases h : -l ≤ n
  · have HH := Lib.hid h
    go_enter Tryz.func68, Tryz.ntmps68
    go_wp2_with fail
    go_ret
    exact ⟨by simp [HH.out], rfl⟩
  · have HH := Lib.hid h
    go_enter Tryz.func68, Tryz.ntmps68
    go_wp2_with fail
    go_ret
    exact ⟨by rw [decide_eq_false (show ¬ -l ≤ n by have := HH.out; omega)]; rfl, rfl⟩
set_option maxRecDepth 10000 in
set_option maxHeartbeats 1000000 in
theorem yearly_nil (z : Zn) (s : Zs) (w : World) (hy : z.yearly = []) : Calls Tryz.prog 69 #[.agg (znCells z s)] w (YrlP w (ysF z) (gapsF (ysF z) (zcyc z * 1440))) := by
  have e1 : ysF z = [] := by unfold ysF; rw [hy]
  rw [e1]
  obtain ⟨⟨ep, mo, lp, ru⟩, st, tr, ho, yr⟩ := z
  obtain ⟨A0, a, R0, r, C0, c0, D0, d0⟩ := s
  simp only at hy
  subst hy
  unfold znCells
  simp only [List.length_nil]
  obtain ⟨n0, hn0⟩ : ∃ n, mo.length = n := ⟨_, rfl⟩
  obtain ⟨n1, hn1⟩ : ∃ n, ru.length = n := ⟨_, rfl⟩
  obtain ⟨n2, hn2⟩ : ∃ n, tr.length = n := ⟨_, rfl⟩
  rw [hn0, hn1, hn2]
  clear hn0 hn1 hn2 e1
  go_enter Tryz.func69, Tryz.ntmps69
  go_wp2_with fail
  go_ret2
  refine ⟨_, 0, _, rfl, rfl, ?_, below_trans (below_var w _) (below_var _ _)⟩
  have h := own_emptyE (w.alloc (.cells #[I ep, .slice A0 n0 a, I lp, .slice R0 n1 r, I st, .slice C0 n2 c0, I ho, .slice D0 0 d0] 41)) 78 2
  refine TrsO.lower (lo := w.heap.size + 1) ?_ (Nat.le_succ _)
  simpa [TrsO] using h
set_option maxRecDepth 10000 in
set_option maxHeartbeats 2000000 in
theorem after_any (lo n c : Nat) (A : Option Addr) (ts : List Tr) (cyc t : Int) (w : World) (hl : ts.length = n) (hn1 : n ≤ 1000) (hO : TrsO lo w A n c ts) (htb : TrB ts) (hc1 : 1 ≤ cyc) (hc2 : cyc ≤ 1400) (ht0 : 0 ≤ t) (ht : t ≤ 1000000) :
    Calls Tryz.prog 70 #[.slice A n c, I cyc, I t] w (Gives (.tuple #[.agg #[I (afterF ts (cyc * 1440) t).1.at_, I (afterF ts (cyc * 1440) t).1.off], .bool (afterF ts (cyc * 1440) t).2]) w) := by
  obtain ⟨sz, hsz⟩ : ∃ v, cyc * 1440 = v := ⟨_, rfl⟩
  rw [hsz]
  have hs1 : 1440 ≤ sz := by omega
  have hs2 : sz ≤ 2016000 := by omega
  have HL := Lib.hid hl
  rcases Nat.eq_zero_or_pos n with hn0 | hn0
  · subst hn0
    have e1 : afterF ts sz t = (⟨0, 0⟩, false) := by unfold afterF; rw [if_pos hl]
    rw [e1]
    clear hO htb hl e1 hsz
    go_enter Tryz.func70, Tryz.ntmps70
    go_wp2_with fail
    refine bodyPost_ret (v := .tuple #[.agg #[I 0, I 0], .bool false]) (results_row_tmp rfl _ _ w.heap.size _ #[I 0, I 0] (0, 0) _ rfl (heap_alloc_last w _) Tryz.underlying78 rfl (by kernel_rfl) _ rfl) rfl ?_
    exact ⟨rfl, below_var w _⟩
  · obtain ⟨g, cap, hgv, hgl⟩ := own_form hO hn0
    injection hgv with hA hB hC
    subst hA hC
    clear hB
    have HO := Lib.hid (World.ownsRow.alloc hO (.cells #[I 0, I 0] 78))
    have HTB2 := Lib.hid (fun k => atI_bd k htb)
    clear hO hl htb
    obtain ⟨res, hres⟩ : ∃ r, afterF ts sz t = r := ⟨_, rfl⟩
    rw [hres]
    have HRES := Lib.hid hres
    clear hres
    obtain ⟨q, hq⟩ : ∃ v, turnF ts sz t = v := ⟨_, rfl⟩
    obtain ⟨q0, q1, p0, p1, ht2, he⟩ := turn_bd hq hs1 (HTB2.out 0).1 ht0 ht
    have HQ := Lib.hid hq
    unfold turnF at hq
    obtain ⟨p, hp⟩ : ∃ v, q * sz = v := ⟨_, rfl⟩
    rw [hp] at p0 p1 he
    have HP := Lib.hid hp
    have hb0 := HTB2.out 0
    have x0 := trs_at HO.out HL.out 0 hn0
    have y0 := trs_off HO.out HL.out 0 hn0
    rw [Nat.zero_mul] at x0 y0
    rw [Nat.zero_add] at y0
    obtain ⟨a0, ha0⟩ : ∃ v, atI ts 0 = v := ⟨_, rfl⟩
    obtain ⟨o0, ho0⟩ : ∃ v, offI ts 0 = v := ⟨_, rfl⟩
    rw [ha0] at x0 hq hb0 ht2
    rw [ho0] at y0
    have HA0 := Lib.hid ha0
    have HO0 := Lib.hid ho0
    clear ha0 ho0
    have hnn : ((n : Int) == 0) = false := by simp; omega
    have i2 : (0 : Int) < (n : Int) := by omega
    have hs0 : sz ≠ 0 := by omega
    have hs3 : sz ≠ -1 := by omega
    have hcut : (a0 < t ∧ (t - a0).tdiv sz = q) ∨ (¬ a0 < t ∧ q = 0) := by
      by_cases h : a0 < t
      · rw [if_pos h] at hq; exact .inl ⟨h, hq⟩
      · rw [if_neg h] at hq; exact .inr ⟨h, hq.symm⟩
    clear hq
    rcases hcut with ⟨hat, hq⟩ | ⟨hat, hq⟩
    · have ht3 : t ≤ a0 + (p + sz) := by omega
      have hatd : decide (a0 < t) = true := decide_eq_true hat
      have hw1 : IntKind.i64.wrap p = p := by rw [IntKind.wrap_i64]; omega
      have hw2 : IntKind.i64.wrap (p + sz) = p + sz := by rw [IntKind.wrap_i64]; omega
      have hw3 : IntKind.i64.wrap (a0 + (p + sz)) = a0 + (p + sz) := by rw [IntKind.wrap_i64]; omega
      have hw4 : IntKind.i64.wrap (q + 1) = q + 1 := by rw [IntKind.wrap_i64]; omega
      go_enter Tryz.func70, Tryz.ntmps70
      go_wp2_with fail
      refine wp_loop_rounds 2 ?_
      rw [rounds_succ]
      go_wp2_with fail
      clear x0 y0
      have HR : Hid ((w.alloc (.cells #[I 0, I 0] 78)).heap[w.heap.size]? = some (.cells #[I 0, I 0] 78 (0, 0)) ∧ Below w.heap.size w (w.alloc (.cells #[I 0, I 0] 78))) := Lib.hid ⟨heap_alloc_last w _, below_var w _⟩
      generalize w.alloc (.cells #[I 0, I 0] 78) = W0 at HR HO ⊢
      go_loopw [11] (fun i wr => ∃ k : Nat, k ≤ n ∧ i = .int .i64 k ∧ (∀ j, j < k → atI ts j + p < t) ∧ W0 = wr) (fun i _ => n - (intOf i).toNat)
      case atStart => exact ⟨0, Nat.zero_le _, by go_num, (fun _ h => absurd h (Nat.not_lt_zero _)), rfl⟩
      case round =>
        obtain ⟨k, hk, rfl, hall, rfl⟩ := hrel
        have HALL := Lib.hid hall
        clear hall
        by_cases hlt : k < n
        · have x1 := trs_at HO.out HL.out k hlt
          have y1 := trs_off HO.out HL.out k hlt
          have hb1 := HTB2.out k
          obtain ⟨a1, ha1⟩ : ∃ v, atI ts k = v := ⟨_, rfl⟩
          obtain ⟨o1, ho1⟩ : ∃ v, offI ts k = v := ⟨_, rfl⟩
          rw [ha1] at x1 hb1
          rw [ho1] at y1
          have HA1 := Lib.hid ha1
          have HO1 := Lib.hid ho1
          clear ha1 ho1
          have i0 : (0 : Int) ≤ (k : Int) := by omega
          have i1 : (k : Int) < (n : Int) := by omega
          have hw5 : IntKind.i64.wrap (a1 + p) = a1 + p := by rw [IntKind.wrap_i64]; omega
          have hw6 : IntKind.i64.wrap 0 = 0 := by rw [IntKind.wrap_i64]; omega
          by_cases hge : t ≤ a1 + p
          · have HE : Hid (res = (⟨a1 + p, o1⟩, true)) := Lib.hid (by
              have h := after_hit HQ.out HL.out hlt (by rw [HP.out]; exact HALL.out) (by rw [HP.out, HA1.out]; exact hge)
              rw [← HRES.out, h, HA1.out, HO1.out, HP.out])
            go_wp2_with fail
            have r0 : W0.cell? ⟨w.heap.size, 0, none⟩ = some (I 0) := cell_of_row _ _ 0 _ _ _ HR.out.1
            have r1 : W0.cell? ⟨w.heap.size, 1, none⟩ = some (I 0) := cell_of_row _ _ 1 _ _ _ HR.out.1
            have f0 : ∀ i, W0.frozen? ⟨w.heap.size, i, none⟩ = false := fun i => frozen_of_row _ _ i _ _ HR.out.1
            go_still_tail 15, (by kernel_rfl)
            change wpList _ _ _ _ _ W0.drew
            go_wp2_with fail
            have hh : (((W0.setCell ⟨w.heap.size, 0, none⟩ (I (a1 + p))).setCell ⟨w.heap.size, 1, none⟩ (I o1)).drew).heap[w.heap.size]? = some (.cells #[I (a1 + p), I o1] 78 (0, 0)) := heap_setCell_same _ w.heap.size 1 _ _ _ (heap_setCell_same _ w.heap.size 0 _ _ _ HR.out.1)
            refine bodyPost_ret (v := .tuple #[.agg #[I (a1 + p), I o1], .bool true]) (results_row_tmp rfl _ _ w.heap.size _ #[I (a1 + p), I o1] (0, 0) _ rfl hh Tryz.underlying78 rfl (by kernel_rfl) _ rfl) rfl ?_
            exact ⟨by rw [HE.out], ((HR.out.2.setCell (p := ⟨w.heap.size, 0, none⟩) (Nat.le_refl _) _).setCell (p := ⟨w.heap.size, 1, none⟩) (Nat.le_refl _) _).drew⟩
          · go_wp2_with fail
            go_roundw
            case rel => exact ⟨k + 1, by omega, by go_num, (fun j hj => by rcases Nat.lt_succ_iff_lt_or_eq.1 hj with h | rfl; exact HALL.out j h; rw [HA1.out]; omega), by first | trivial | rfl⟩
            case measure => simp [intOf]; omega
        · have hnl : ¬ (k : Int) < (n : Int) := by omega
          have HE : Hid (res = (⟨a0 + (p + sz), o0⟩, true)) := Lib.hid (by
            have h := after_miss HQ.out HL.out hn0 (by rw [HP.out]; exact fun j hj => HALL.out j (by omega))
            rw [← HRES.out, h, HA0.out, HO0.out, he])
          go_wp2_with fail
          rw [rounds_succ]
          have x0 := trs_at HO.out HL.out 0 hn0
          have y0 := trs_off HO.out HL.out 0 hn0
          rw [Nat.zero_mul] at x0 y0
          rw [Nat.zero_add] at y0
          rw [HA0.out] at x0
          rw [HO0.out] at y0
          have hw6 : IntKind.i64.wrap 0 = 0 := by rw [IntKind.wrap_i64]; omega
          go_wp2_with fail
          refine wp_loop_rounds 1 ?_
          rw [rounds_succ]
          go_wp2_with fail
          have r0 : W0.cell? ⟨w.heap.size, 0, none⟩ = some (I 0) := cell_of_row _ _ 0 _ _ _ HR.out.1
          have r1 : W0.cell? ⟨w.heap.size, 1, none⟩ = some (I 0) := cell_of_row _ _ 1 _ _ _ HR.out.1
          have f0 : ∀ i, W0.frozen? ⟨w.heap.size, i, none⟩ = false := fun i => frozen_of_row _ _ i _ _ HR.out.1
          go_still_tail 15, (by kernel_rfl)
          change wpList _ _ _ _ _ W0.drew
          go_wp2_with fail
          have hh : (((W0.setCell ⟨w.heap.size, 0, none⟩ (I (a0 + (p + sz)))).setCell ⟨w.heap.size, 1, none⟩ (I o0)).drew).heap[w.heap.size]? = some (.cells #[I (a0 + (p + sz)), I o0] 78 (0, 0)) := heap_setCell_same _ w.heap.size 1 _ _ _ (heap_setCell_same _ w.heap.size 0 _ _ _ HR.out.1)
          refine bodyPost_ret (v := .tuple #[.agg #[I (a0 + (p + sz)), I o0], .bool true]) (results_row_tmp rfl _ _ w.heap.size _ #[I (a0 + (p + sz)), I o0] (0, 0) _ rfl hh Tryz.underlying78 rfl (by kernel_rfl) _ rfl) rfl ?_
          exact ⟨by rw [HE.out], ((HR.out.2.setCell (p := ⟨w.heap.size, 0, none⟩) (Nat.le_refl _) _).setCell (p := ⟨w.heap.size, 1, none⟩) (Nat.le_refl _) _).drew⟩
    · subst hq
      rw [Int.zero_mul] at hp
      subst hp
      clear he p0 p1 q0 q1 ht2
      go_enter Tryz.func70, Tryz.ntmps70
      go_wp2_with fail
      refine wp_loop_rounds 2 ?_
      rw [rounds_succ]
      go_wp2_with fail
      clear x0 y0
      have HR : Hid ((w.alloc (.cells #[I 0, I 0] 78)).heap[w.heap.size]? = some (.cells #[I 0, I 0] 78 (0, 0)) ∧ Below w.heap.size w (w.alloc (.cells #[I 0, I 0] 78))) := Lib.hid ⟨heap_alloc_last w _, below_var w _⟩
      generalize w.alloc (.cells #[I 0, I 0] 78) = W0 at HR HO ⊢
      go_loopw [11] (fun i wr => ∃ k : Nat, k ≤ n ∧ i = .int .i64 k ∧ (∀ j, j < k → atI ts j + 0 < t) ∧ W0 = wr) (fun i _ => n - (intOf i).toNat)
      case atStart => exact ⟨0, Nat.zero_le _, by go_num, (fun _ h => absurd h (Nat.not_lt_zero _)), rfl⟩
      case round =>
        obtain ⟨k, hk, rfl, hall, rfl⟩ := hrel
        have HALL := Lib.hid hall
        clear hall
        by_cases hlt : k < n
        · have x1 := trs_at HO.out HL.out k hlt
          have y1 := trs_off HO.out HL.out k hlt
          have hb1 := HTB2.out k
          obtain ⟨a1, ha1⟩ : ∃ v, atI ts k = v := ⟨_, rfl⟩
          obtain ⟨o1, ho1⟩ : ∃ v, offI ts k = v := ⟨_, rfl⟩
          rw [ha1] at x1 hb1
          rw [ho1] at y1
          have HA1 := Lib.hid ha1
          have HO1 := Lib.hid ho1
          clear ha1 ho1
          have i0 : (0 : Int) ≤ (k : Int) := by omega
          have i1 : (k : Int) < (n : Int) := by omega
          have hw5 : IntKind.i64.wrap (a1) = a1 := by rw [IntKind.wrap_i64]; omega
          have hw6 : IntKind.i64.wrap 0 = 0 := by rw [IntKind.wrap_i64]; omega
          by_cases hge : t ≤ a1
          · have HE : Hid (res = (⟨a1, o1⟩, true)) := Lib.hid (by
              have h := after_hit HQ.out HL.out hlt (by rw [Int.zero_mul]; exact HALL.out) (by rw [Int.zero_mul, HA1.out]; omega)
              rw [← HRES.out, h, HA1.out, HO1.out, Int.zero_mul, Int.add_zero])
            go_wp2_with fail
            have r0 : W0.cell? ⟨w.heap.size, 0, none⟩ = some (I 0) := cell_of_row _ _ 0 _ _ _ HR.out.1
            have r1 : W0.cell? ⟨w.heap.size, 1, none⟩ = some (I 0) := cell_of_row _ _ 1 _ _ _ HR.out.1
            have f0 : ∀ i, W0.frozen? ⟨w.heap.size, i, none⟩ = false := fun i => frozen_of_row _ _ i _ _ HR.out.1
            go_still_tail 15, (by kernel_rfl)
            change wpList _ _ _ _ _ W0.drew
            go_wp2_with fail
            have hh : (((W0.setCell ⟨w.heap.size, 0, none⟩ (I (a1))).setCell ⟨w.heap.size, 1, none⟩ (I o1)).drew).heap[w.heap.size]? = some (.cells #[I (a1), I o1] 78 (0, 0)) := heap_setCell_same _ w.heap.size 1 _ _ _ (heap_setCell_same _ w.heap.size 0 _ _ _ HR.out.1)
            refine bodyPost_ret (v := .tuple #[.agg #[I (a1), I o1], .bool true]) (results_row_tmp rfl _ _ w.heap.size _ #[I (a1), I o1] (0, 0) _ rfl hh Tryz.underlying78 rfl (by kernel_rfl) _ rfl) rfl ?_
            exact ⟨by rw [HE.out], ((HR.out.2.setCell (p := ⟨w.heap.size, 0, none⟩) (Nat.le_refl _) _).setCell (p := ⟨w.heap.size, 1, none⟩) (Nat.le_refl _) _).drew⟩
          · go_wp2_with fail
            go_roundw
            case rel => exact ⟨k + 1, by omega, by go_num, (fun j hj => by rcases Nat.lt_succ_iff_lt_or_eq.1 hj with h | rfl; exact HALL.out j h; rw [HA1.out]; omega), by first | trivial | rfl⟩
            case measure => simp [intOf]; omega
        · exact absurd (HALL.out 0 (by omega)) (by rw [HA0.out]; omega)
end Go.Proofs.YtbdkalpljhpnmaaGreat
