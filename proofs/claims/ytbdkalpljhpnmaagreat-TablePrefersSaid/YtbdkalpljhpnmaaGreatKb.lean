/- kalendsref13.Cycle, find on the calendars of made zones. -/
import Derived.Test.YtbdkalpljhpnmaaGreatKa
import Derived.Test.YtbdkalpljhpnmaaGreatPj
import Derived.BigQuiet
import Derived.Deep.AppendLies
import Derived.Deep.CutBlock
import Derived.Deep.DeepCutAuto
import Derived.Deep.DrawnRows
import Derived.Deep.MidRow
import Derived.Deep.QuietTactic
import Derived.Deep.RegionHeld3
import Derived.Deep.RegionLaw
import Derived.Deep.WholeRow
import Derived.Great.BuildSlice
import Derived.Handy
import Derived.Laws.BytesString
import Derived.Laws.CopyOwn
import Derived.Laws.EntriesVeiled
import Derived.Laws.MakeOwn
import Derived.Laws.ResultCell
import Derived.Laws.Rows
import Derived.Laws.Tables
import Derived.Lib.Hide
import Derived.LoopIn
import Derived.LoopNIn
import Derived.Maps.AppendAt
import Derived.Outline
import Derived.OwnWalkIn
import Derived.RangeFuncBound
import Derived.RangeFuncBox
import Derived.RangeFuncCalls
import Derived.RangeFuncLeaves
import Derived.RangeFuncNested
import Derived.Shelf.Abstract
import Derived.Shelf.Bytes.SlSmallAll
import Derived.Shelf.RegionOpen
import Derived.StillTailTactics
import Derived.Stop.BytesEq
import Derived.TacticsInMore
import Derived.WalkKit
import Derived.WalkLawsBesides
import Derived.WalkSpells
namespace Go.Proofs.YtbdkalpljhpnmaaGreat
open Go Go.RowKit

def cyc7 (d : Int) : Int := if d % 7 = 0 then d else 7 * d
def zcyc (z : Zn) : Int := match z.yearly with | [] => 1 | _ :: _ => cyc7 (cycD z.cal)
theorem cycD_bd (c : Cal) (hc : CalS c) : 0 ≤ cycD c ∧ cycD c ≤ 200 := by
  have h1 := year_bd c 1 hc
  have h2 := year_bd c 2 hc
  unfold cycD
  split <;> omega
theorem CalV.alloc {w W : World} {cs : Array Value} (h : CalV w cs W) (o : Obj) : CalV w cs (W.alloc o) := h.grow (below_var W o)
set_option maxRecDepth 10000 in
set_option maxHeartbeats 1000000 in
theorem zcyc_yes (z : Zn) (s : Zs) (w : World) (hc : CalS z.cal) (h : ZnAt w w.heap.size s z) : Calls Tryz.prog 71 #[.agg (znCells z s)] w (Gives (I (zcyc z)) w) := by
  have HCY : Hid (∀ W, Below w.heap.size w W → Calls Tryz.prog 94 #[.agg (calCells z.cal s.A s.a s.B s.b)] W (Gives (.tuple #[I (cycY z.cal), I (cycD z.cal), .int .i64 0]) W)) := Lib.hid fun W hb => cyc_yes z.cal s.A s.B s.a s.b W hc ⟨h.months.grow hb, h.rules.grow hb⟩
  have hbd := cycD_bd z.cal hc
  obtain ⟨⟨ep, mo, lp, ru⟩, st, tr, ho, yr⟩ := z
  obtain ⟨A, a, R, r, C, c, D, d⟩ := s
  unfold calCells at HCY
  unfold znCells zcyc
  simp only at HCY hbd ⊢
  obtain ⟨q, hq⟩ : ∃ q, cycD ⟨ep, mo, lp, ru⟩ = q := ⟨_, rfl⟩
  rw [hq] at HCY hbd ⊢
  obtain ⟨y, hy⟩ : ∃ y, cycY ⟨ep, mo, lp, ru⟩ = y := ⟨_, rfl⟩
  rw [hy] at HCY
  obtain ⟨n0, hn0⟩ : ∃ n, mo.length = n := ⟨_, rfl⟩
  obtain ⟨n1, hn1⟩ : ∃ n, ru.length = n := ⟨_, rfl⟩
  obtain ⟨n2, hn2⟩ : ∃ n, tr.length = n := ⟨_, rfl⟩
  rw [hn0, hn1] at HCY ⊢
  rw [hn2]
  clear hc h hq hy hn0 hn1 hn2
  cases yr with
  | nil =>
    go_enter Tryz.func71, Tryz.ntmps71
    go_wp2_with fail
    go_ret
    exact ⟨rfl, below_var w _⟩
  | cons y1 ys =>
    obtain ⟨m, hm⟩ : ∃ m, (y1 :: ys).length = m := ⟨_, rfl⟩
    have hm0 : ((m : Int) == 0) = false := by rw [← hm]; simp; omega
    rw [hm]
    clear hm
    have htm : q.tmod 7 = q % 7 := Int.tmod_eq_emod_of_nonneg hbd.1
    have HV := Lib.hid (CalV.start w #[I ep, .slice A n0 a, I lp, .slice R n1 r, I st, .slice C n2 c, I ho, .slice D m d] 41)
    obtain ⟨V, hV⟩ : ∃ V, cyc7 q = V := ⟨_, rfl⟩
    rw [hV]
    have HVQ := Lib.hid hV
    clear hV
    obtain ⟨p, hp⟩ : ∃ p, q % 7 = p := ⟨_, rfl⟩
    rw [hp] at htm
    have HP := Lib.hid hp
    clear hp
    have ht : (p != 0) = true ∨ (p != 0) = false := by cases (p != 0) <;> simp
    rcases ht with ht | ht
    all_goals
      have HT := Lib.hid ht
      go_enter Tryz.func71, Tryz.ntmps71
      go_wp2_with fail
      refine (HCY.out _ HV.out.up).mono ?_
      rintro e w1 ⟨rfl, hb1⟩
      have HW := Lib.hid (HV.out.grow hb1)
      clear hb1
      go_wp2_with fail
      go_ret
      exact ⟨by rw [← HVQ.out]; have h1 := HT.out; have h2 := HP.out; simp at h1; simp [cyc7, h1, h2], HW.out.up⟩
/-- The days of a month, day by day. -/
def scanF (wd wk : Int) : Nat → Int → Int → Int → Int × Bool
  | 0, _, _, last => (last, wk == 5 && decide (0 ≤ last))
  | n + 1, d, cn, last => if d % 7 = wd then (if cn + 1 = wk ∧ wk < 5 then (d, true) else scanF wd wk n (d + 1) (cn + 1) d) else scanF wd wk n (d + 1) cn last
def firstF (c : Cal) (bg y mo : Int) : Int := if mo = 2 then bg + monthF c y 1 else bg
def findF (c : Cal) (bg y : Int) (r : Yr) : Int × Bool := scanF r.wday r.week (monthF c y r.month).toNat (firstF c bg y r.month) 0 (-1)
theorem month_bd (c : Cal) (y m : Int) (hc : CalS c) (hm : m = 1 ∨ m = 2) : 0 ≤ monthF c y m ∧ monthF c y m ≤ 9 := by
  obtain ⟨ep, m0, m1, lp, rs, rfl, b1, b2, b3, b4, _⟩ := hc.form
  rcases hm with rfl | rfl
  · show 0 ≤ m0 + _ ∧ m0 + _ ≤ 9
    split <;> omega
  · show 0 ≤ m1 + _ ∧ m1 + _ ≤ 9
    split <;> omega
theorem TwoV.start2 (w : World) (t t1 t2 : TypeId) (us vs : Array Value) : TwoV w t us vs ((w.alloc (.cells us t1)).alloc (.cells vs t2)) :=
  ⟨Row.of_blk (heap_alloc2_old w _ _), Row.of_blk (heap_alloc2_new w _ _), below_trans (below_var w _) (below_var _ _)⟩
def FRel (w : World) (us vs : Array Value) (wd wk fs : Int) (n : Nat) (res : Int × Bool) (c l d : Value) (wr : World) : Prop :=
  ∃ j : Nat, ∃ cn la : Int, j ≤ n ∧ c = .int .i64 cn ∧ l = .int .i64 la ∧ d = .int .i64 (fs + j) ∧ 0 ≤ cn ∧ cn ≤ j ∧ -1 ≤ la ∧ la ≤ fs + j ∧ scanF wd wk (n - j) (fs + j) cn la = res ∧ TwoV w 0 us vs wr
theorem scan_stop {wd wk : Int} {n j : Nat} {d cn la : Int} {res : Int × Bool} (h : scanF wd wk (n - j) d cn la = res) (hj : n ≤ j) : res = (la, wk == 5 && decide (0 ≤ la)) := by
  rw [Nat.sub_eq_zero_of_le hj] at h
  exact h.symm
theorem scan_miss {wd wk fs : Int} {n j : Nat} {cn la : Int} {res : Int × Bool} (h : scanF wd wk (n - j) (fs + j) cn la = res) (hj : j < n) (ht : ((fs + j) % 7 == wd) = false) : scanF wd wk (n - (j + 1)) (fs + ((j + 1 : Nat) : Int)) cn la = res := by
  rw [show n - j = (n - (j + 1)) + 1 by omega, scanF, if_neg (by simpa using ht)] at h
  rw [show fs + ((j + 1 : Nat) : Int) = fs + (j : Int) + 1 by omega]
  exact h
theorem scan_hit {wd wk fs : Int} {n j : Nat} {cn la : Int} {res : Int × Bool} (h : scanF wd wk (n - j) (fs + j) cn la = res) (hj : j < n) (ht : ((fs + j) % 7 == wd) = true) (hu : cn + 1 = wk ∧ wk < 5) : res = (fs + j, true) := by
  rw [show n - j = (n - (j + 1)) + 1 by omega, scanF, if_pos (by simpa using ht), if_pos hu] at h
  exact h.symm
theorem scan_next {wd wk fs : Int} {n j : Nat} {cn la : Int} {res : Int × Bool} (h : scanF wd wk (n - j) (fs + j) cn la = res) (hj : j < n) (ht : ((fs + j) % 7 == wd) = true) (hu : ¬ (cn + 1 = wk ∧ wk < 5)) : scanF wd wk (n - (j + 1)) (fs + ((j + 1 : Nat) : Int)) (cn + 1) (fs + j) = res := by
  rw [show n - j = (n - (j + 1)) + 1 by omega, scanF, if_pos (by simpa using ht), if_neg hu] at h
  rw [show fs + ((j + 1 : Nat) : Int) = fs + (j : Int) + 1 by omega]
  exact h
set_option maxRecDepth 10000 in
set_option maxHeartbeats 2000000 in
theorem find_yes (c : Cal) (A R : Option Addr) (a r : Nat) (bg y : Int) (x : Yr) (w : World) (hc : CalS c) (h : CalM w w.heap.size A R c) (hb : 0 ≤ bg) (hb2 : bg ≤ 100000) (hy : 0 ≤ y) (hm : x.month = 1 ∨ x.month = 2) :
    Calls Tryz.prog 91 #[.agg (calCells c A a R r), I bg, I y, .agg #[I x.month, I x.week, I x.wday, I x.minute, I x.off]] w (Gives (.tuple #[I (findF c bg y x).1, .bool (findF c bg y x).2]) w) := by
  obtain ⟨mo, wk, wd, mi, of⟩ := x
  simp only at hm ⊢
  have HM1 : Hid (∀ W, Below w.heap.size w W → Calls Tryz.prog 104 #[.agg (calCells c A a R r), I y, I 1] W (Gives (I (monthF c y 1)) W)) := Lib.hid fun W hb => month_yes _ A R a r y 1 W hc (h.grow hb) hy (.inl rfl)
  have HMM : Hid (∀ W, Below w.heap.size w W → Calls Tryz.prog 104 #[.agg (calCells c A a R r), I y, I mo] W (Gives (I (monthF c y mo)) W)) := Lib.hid fun W hb => month_yes _ A R a r y mo W hc (h.grow hb) hy hm
  have h1 := month_bd c y 1 hc (.inl rfl)
  have h2 := month_bd c y mo hc hm
  obtain ⟨res, hres⟩ : ∃ res, findF c bg y ⟨mo, wk, wd, mi, of⟩ = res := ⟨_, rfl⟩
  rw [hres]
  unfold findF firstF at hres
  simp only at hres
  obtain ⟨q, hq⟩ : ∃ q, monthF c y 1 = q := ⟨_, rfl⟩
  rw [hq] at HM1 h1 hres
  obtain ⟨n, hn⟩ : ∃ n : Nat, monthF c y mo = n := ⟨(monthF c y mo).toNat, by omega⟩
  rw [hn] at HMM h2 hres
  rw [Int.toNat_natCast] at hres
  obtain ⟨ep, lp, A', R', n0, n1, hcs⟩ : ∃ ep lp, ∃ A' R' : Option Addr, ∃ n m : Nat, calCells c A a R r = #[I ep, .slice A' n a, I lp, .slice R' m r] := ⟨_, _, _, _, _, _, rfl⟩
  rw [hcs] at HM1 HMM ⊢
  clear hcs hn hq hc h hy
  have hn9 : n ≤ 9 := by omega
  clear h2
  rcases hm with rfl | rfl
  · have HV := Lib.hid (TwoV.start2 w 0 37 80 #[I ep, .slice A' n0 a, I lp, .slice R' n1 r] #[I 1, I wk, I wd, I mi, I of])
    go_enter Tryz.func91, Tryz.ntmps91
    go_wp2_with fail
    generalize (w.alloc (.cells #[I ep, .slice A' n0 a, I lp, .slice R' n1 r] 37)).alloc (.cells #[I 1, I wk, I wd, I mi, I of] 80) = W0 at HV ⊢
    have v0 : W0.cell? ⟨w.heap.size, 0, none⟩ = some (I ep) := HV.out.a.2 0
    have v1 : W0.cell? ⟨w.heap.size, 1, none⟩ = some (.slice A' n0 a) := HV.out.a.2 1
    have v2 : W0.cell? ⟨w.heap.size, 2, none⟩ = some (I lp) := HV.out.a.2 2
    have v3 : W0.cell? ⟨w.heap.size, 3, none⟩ = some (.slice R' n1 r) := HV.out.a.2 3
    have u0 : W0.cell? ⟨w.heap.size + 1, 0, none⟩ = some (I 1) := HV.out.b.2 0
    have u1 : W0.cell? ⟨w.heap.size + 1, 1, none⟩ = some (I wk) := HV.out.b.2 1
    have u2 : W0.cell? ⟨w.heap.size + 1, 2, none⟩ = some (I wd) := HV.out.b.2 2
    rw [if_neg (by omega)] at hres
    have HRES := Lib.hid hres
    clear hres h1 HM1
    refine wp_loop_rounds 1 ?_
    rw [rounds_succ]
    go_wp2_with fail
    clear v0 v1 v2 v3 u0 u1 u2
    have hf0 := hb
    have hf1 : bg ≤ 200000 := by omega
    clear hb hb2
    go_loopw [12, 13, 14] (fun c l d wr => FRel w #[I ep, .slice A' n0 a, I lp, .slice R' n1 r] #[I 1, I wk, I wd, I mi, I of] wd wk bg n res c l d wr) (fun _ _ d _ => ((bg + n) - intOf d).toNat)
    case atStart => exact ⟨0, 0, -1, Nat.zero_le _, rfl, rfl, by go_num, by omega, by omega, by omega, by omega, by simpa using HRES.out, HV.out⟩
    case round =>
      obtain ⟨j, cn, la, hj, rfl, rfl, rfl, hc0, hc1, hl0, hl1, hsc, hv⟩ := hrel
      have HS := Lib.hid hsc
      have HW := Lib.hid hv
      clear hsc hv HV
      have v0 : wr.cell? ⟨w.heap.size, 0, none⟩ = some (I ep) := HW.out.a.2 0
      have v1 : wr.cell? ⟨w.heap.size, 1, none⟩ = some (.slice A' n0 a) := HW.out.a.2 1
      have v2 : wr.cell? ⟨w.heap.size, 2, none⟩ = some (I lp) := HW.out.a.2 2
      have v3 : wr.cell? ⟨w.heap.size, 3, none⟩ = some (.slice R' n1 r) := HW.out.a.2 3
      have u0 : wr.cell? ⟨w.heap.size + 1, 0, none⟩ = some (I 1) := HW.out.b.2 0
      have u1 : wr.cell? ⟨w.heap.size + 1, 1, none⟩ = some (I wk) := HW.out.b.2 1
      have u2 : wr.cell? ⟨w.heap.size + 1, 2, none⟩ = some (I wd) := HW.out.b.2 2
      go_wp2_with fail
      refine (HMM.out _ HW.out.up).mono ?_
      rintro e w3 ⟨rfl, hb3⟩
      have HX := Lib.hid (HW.out.below hb3)
      clear v0 v1 v2 v3 u0 u1 u2 hb3
      have u1 : w3.cell? ⟨w.heap.size + 1, 1, none⟩ = some (I wk) := HX.out.b.2 1
      have u2 : w3.cell? ⟨w.heap.size + 1, 2, none⟩ = some (I wd) := HX.out.b.2 2
      by_cases hlt : j < n
      · have hlt' : bg + (j : Int) < bg + (n : Int) := by omega
        have htm : Int.tmod (bg + (j : Int)) 7 = (bg + (j : Int)) % 7 := Int.tmod_eq_emod_of_nonneg (by omega)
        obtain ⟨p, hp⟩ : ∃ p, (bg + (j : Int)) % 7 = p := ⟨_, rfl⟩
        rw [hp] at htm
        have HP := Lib.hid hp
        clear hp
        have ht : (p == wd) = true ∨ (p == wd) = false := by cases (p == wd) <;> simp
        rcases ht with ht | ht
        · have hu : (cn + 1 == wk) = true ∨ (cn + 1 == wk) = false := by cases (cn + 1 == wk) <;> simp
          have HT := Lib.hid ht
          rcases hu with hu | hu
          · by_cases h5 : wk < 5
            · have HU := Lib.hid hu
              have H5 := Lib.hid h5
              have HE := Lib.hid (scan_hit HS.out hlt (by rw [HP.out]; exact HT.out) ⟨by simpa using HU.out, H5.out⟩)
              go_wp2_with fail
              go_ret2
              exact ⟨by rw [HE.out]; rfl, HX.out.up⟩
            · have HU := Lib.hid hu
              have H5 := Lib.hid h5
              have HE := Lib.hid (scan_next HS.out hlt (by rw [HP.out]; exact HT.out) (fun h => H5.out h.2))
              go_wp2_with fail
              go_roundw
              case rel => exact ⟨j + 1, cn + 1, bg + j, by omega, by go_num, by go_num, by go_num, by omega, by omega, by omega, by omega, HE.out, HX.out⟩
              case measure => simp [intOf]; omega
          · have HU := Lib.hid hu
            have HE := Lib.hid (scan_next HS.out hlt (by rw [HP.out]; exact HT.out) (fun h => by have h1 := HU.out; simp [h.1] at h1))
            go_wp2_with fail
            go_roundw
            case rel => exact ⟨j + 1, cn + 1, bg + j, by omega, by go_num, by go_num, by go_num, by omega, by omega, by omega, by omega, HE.out, HX.out⟩
            case measure => simp [intOf]; omega
        · have HT := Lib.hid ht
          have HE := Lib.hid (scan_miss HS.out hlt (by rw [HP.out]; exact HT.out))
          go_wp2_with fail
          go_roundw
          case rel => exact ⟨j + 1, cn, la, by omega, by go_num, by go_num, by go_num, by omega, by omega, by omega, by omega, HE.out, HX.out⟩
          case measure => simp [intOf]; omega
      · have hke : j = n := by omega
        have hnl : ¬ bg + (j : Int) < bg + (n : Int) := by omega
        have HE := Lib.hid (scan_stop HS.out (by omega))
        clear hke hlt
        have hk5 : (wk == 5) = true ∨ (wk == 5) = false := by cases (wk == 5) <;> simp
        rcases hk5 with hk5 | hk5
        · have HK := Lib.hid hk5
          go_wp2_with fail
          go_ret2
          exact ⟨by rw [show res = (la, decide (0 ≤ la)) by rw [HE.out, HK.out]; rfl]; rfl, HX.out.up⟩
        · have HK := Lib.hid hk5
          go_wp2_with fail
          go_ret2
          exact ⟨by rw [show res = (la, false) by rw [HE.out, HK.out]; rfl]; rfl, HX.out.up⟩
  · have HV := Lib.hid (TwoV.start2 w 0 37 80 #[I ep, .slice A' n0 a, I lp, .slice R' n1 r] #[I 2, I wk, I wd, I mi, I of])
    go_enter Tryz.func91, Tryz.ntmps91
    go_wp2_with fail
    generalize (w.alloc (.cells #[I ep, .slice A' n0 a, I lp, .slice R' n1 r] 37)).alloc (.cells #[I 2, I wk, I wd, I mi, I of] 80) = W0 at HV ⊢
    have v0 : W0.cell? ⟨w.heap.size, 0, none⟩ = some (I ep) := HV.out.a.2 0
    have v1 : W0.cell? ⟨w.heap.size, 1, none⟩ = some (.slice A' n0 a) := HV.out.a.2 1
    have v2 : W0.cell? ⟨w.heap.size, 2, none⟩ = some (I lp) := HV.out.a.2 2
    have v3 : W0.cell? ⟨w.heap.size, 3, none⟩ = some (.slice R' n1 r) := HV.out.a.2 3
    have u0 : W0.cell? ⟨w.heap.size + 1, 0, none⟩ = some (I 2) := HV.out.b.2 0
    have u1 : W0.cell? ⟨w.heap.size + 1, 1, none⟩ = some (I wk) := HV.out.b.2 1
    have u2 : W0.cell? ⟨w.heap.size + 1, 2, none⟩ = some (I wd) := HV.out.b.2 2
    simp only [if_true] at hres
    refine wp_loop_rounds 2 ?_
    rw [rounds_succ]
    go_wp2_with fail
    refine (HM1.out _ HV.out.up).mono ?_
    rintro e w1 ⟨rfl, hb1⟩
    have HV' := Lib.hid (HV.out.below hb1)
    clear v0 v1 v2 v3 u0 u1 u2 hb1 HV
    have v0 : w1.cell? ⟨w.heap.size, 0, none⟩ = some (I ep) := HV'.out.a.2 0
    have v1 : w1.cell? ⟨w.heap.size, 1, none⟩ = some (.slice A' n0 a) := HV'.out.a.2 1
    have v2 : w1.cell? ⟨w.heap.size, 2, none⟩ = some (I lp) := HV'.out.a.2 2
    have v3 : w1.cell? ⟨w.heap.size, 3, none⟩ = some (.slice R' n1 r) := HV'.out.a.2 3
    have u0 : w1.cell? ⟨w.heap.size + 1, 0, none⟩ = some (I 2) := HV'.out.b.2 0
    have u1 : w1.cell? ⟨w.heap.size + 1, 1, none⟩ = some (I wk) := HV'.out.b.2 1
    have u2 : w1.cell? ⟨w.heap.size + 1, 2, none⟩ = some (I wd) := HV'.out.b.2 2
    go_wp2_with fail
    rw [rounds_succ]
    go_wp2_with fail
    clear v0 v1 v2 v3 u0 u1 u2
    have HV := HV'
    have hf0 : 0 ≤ bg + q := by omega
    have hf1 : bg + q ≤ 200000 := by omega
    have HRES := Lib.hid hres
    clear hres h1 HM1 hb hb2
    generalize bg + q = fs at hf0 hf1 HRES ⊢
    go_loopw [12, 13, 14] (fun c l d wr => FRel w #[I ep, .slice A' n0 a, I lp, .slice R' n1 r] #[I 2, I wk, I wd, I mi, I of] wd wk fs n res c l d wr) (fun _ _ d _ => ((fs + n) - intOf d).toNat)
    case atStart => exact ⟨0, 0, -1, Nat.zero_le _, rfl, rfl, by go_num, by omega, by omega, by omega, by omega, by simpa using HRES.out, HV.out⟩
    case round =>
      obtain ⟨j, cn, la, hj, rfl, rfl, rfl, hc0, hc1, hl0, hl1, hsc, hv⟩ := hrel
      have HS := Lib.hid hsc
      have HW := Lib.hid hv
      clear hsc hv HV
      have v0 : wr.cell? ⟨w.heap.size, 0, none⟩ = some (I ep) := HW.out.a.2 0
      have v1 : wr.cell? ⟨w.heap.size, 1, none⟩ = some (.slice A' n0 a) := HW.out.a.2 1
      have v2 : wr.cell? ⟨w.heap.size, 2, none⟩ = some (I lp) := HW.out.a.2 2
      have v3 : wr.cell? ⟨w.heap.size, 3, none⟩ = some (.slice R' n1 r) := HW.out.a.2 3
      have u0 : wr.cell? ⟨w.heap.size + 1, 0, none⟩ = some (I 2) := HW.out.b.2 0
      have u1 : wr.cell? ⟨w.heap.size + 1, 1, none⟩ = some (I wk) := HW.out.b.2 1
      have u2 : wr.cell? ⟨w.heap.size + 1, 2, none⟩ = some (I wd) := HW.out.b.2 2
      go_wp2_with fail
      refine (HMM.out _ HW.out.up).mono ?_
      rintro e w3 ⟨rfl, hb3⟩
      have HX := Lib.hid (HW.out.below hb3)
      clear v0 v1 v2 v3 u0 u1 u2 hb3
      have u1 : w3.cell? ⟨w.heap.size + 1, 1, none⟩ = some (I wk) := HX.out.b.2 1
      have u2 : w3.cell? ⟨w.heap.size + 1, 2, none⟩ = some (I wd) := HX.out.b.2 2
      by_cases hlt : j < n
      · have hlt' : fs + (j : Int) < fs + (n : Int) := by omega
        have htm : Int.tmod (fs + (j : Int)) 7 = (fs + (j : Int)) % 7 := Int.tmod_eq_emod_of_nonneg (by omega)
        obtain ⟨p, hp⟩ : ∃ p, (fs + (j : Int)) % 7 = p := ⟨_, rfl⟩
        rw [hp] at htm
        have HP := Lib.hid hp
        clear hp
        have ht : (p == wd) = true ∨ (p == wd) = false := by cases (p == wd) <;> simp
        rcases ht with ht | ht
        · have hu : (cn + 1 == wk) = true ∨ (cn + 1 == wk) = false := by cases (cn + 1 == wk) <;> simp
          have HT := Lib.hid ht
          rcases hu with hu | hu
          · by_cases h5 : wk < 5
            · have HU := Lib.hid hu
              have H5 := Lib.hid h5
              have HE := Lib.hid (scan_hit HS.out hlt (by rw [HP.out]; exact HT.out) ⟨by simpa using HU.out, H5.out⟩)
              go_wp2_with fail
              go_ret2
              exact ⟨by rw [HE.out]; rfl, HX.out.up⟩
            · have HU := Lib.hid hu
              have H5 := Lib.hid h5
              have HE := Lib.hid (scan_next HS.out hlt (by rw [HP.out]; exact HT.out) (fun h => H5.out h.2))
              go_wp2_with fail
              go_roundw
              case rel => exact ⟨j + 1, cn + 1, fs + j, by omega, by go_num, by go_num, by go_num, by omega, by omega, by omega, by omega, HE.out, HX.out⟩
              case measure => simp [intOf]; omega
          · have HU := Lib.hid hu
            have HE := Lib.hid (scan_next HS.out hlt (by rw [HP.out]; exact HT.out) (fun h => by have h1 := HU.out; simp [h.1] at h1))
            go_wp2_with fail
            go_roundw
            case rel => exact ⟨j + 1, cn + 1, fs + j, by omega, by go_num, by go_num, by go_num, by omega, by omega, by omega, by omega, HE.out, HX.out⟩
            case measure => simp [intOf]; omega
        · have HT := Lib.hid ht
          have HE := Lib.hid (scan_miss HS.out hlt (by rw [HP.out]; exact HT.out))
          go_wp2_with fail
          go_roundw
          case rel => exact ⟨j + 1, cn, la, by omega, by go_num, by go_num, by go_num, by omega, by omega, by omega, by omega, HE.out, HX.out⟩
          case measure => simp [intOf]; omega
      · have hke : j = n := by omega
        have hnl : ¬ fs + (j : Int) < fs + (n : Int) := by omega
        have HE := Lib.hid (scan_stop HS.out (by omega))
        clear hke hlt
        have hk5 : (wk == 5) = true ∨ (wk == 5) = false := by cases (wk == 5) <;> simp
        rcases hk5 with hk5 | hk5
        · have HK := Lib.hid hk5
          go_wp2_with fail
          go_ret2
          exact ⟨by rw [show res = (la, decide (0 ≤ la)) by rw [HE.out, HK.out]; rfl]; rfl, HX.out.up⟩
        · have HK := Lib.hid hk5
          go_wp2_with fail
          go_ret2
          exact ⟨by rw [show res = (la, false) by rw [HE.out, HK.out]; rfl]; rfl, HX.out.up⟩
end Go.Proofs.YtbdkalpljhpnmaaGreat
