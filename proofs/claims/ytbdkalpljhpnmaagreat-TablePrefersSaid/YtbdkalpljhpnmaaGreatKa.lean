/- kalendsref02.Leap, common, YearLength, MonthLength, Cycle on the calendars of made zones. -/
import Derived.Test.YtbdkalpljhpnmaaGreatPk
import Derived.BigQuiet
import Derived.Deep.AppendLies
import Derived.Deep.CutBlock
import Derived.Deep.DeepCutAuto
import Derived.Deep.DrawnRows
import Derived.Deep.MidRow
import Derived.Deep.QuietTactic
import Derived.Deep.RegionHeld3
import Derived.Deep.RegionLaw
import Derived.Deep.WholeRow
import Derived.Great.BuildSlice
import Derived.Laws.BytesString
import Derived.Laws.CopyOwn
import Derived.Laws.EntriesVeiled
import Derived.Laws.MakeOwn
import Derived.Laws.ResultCell
import Derived.Laws.Rows
import Derived.Laws.Tables
import Derived.Lib.Hide
import Derived.LoopIn
import Derived.LoopNIn
import Derived.Maps.AppendAt
import Derived.Outline
import Derived.OwnWalkIn
import Derived.RangeFuncBound
import Derived.RangeFuncBox
import Derived.RangeFuncCalls
import Derived.RangeFuncLeaves
import Derived.RangeFuncNested
import Derived.Shelf.Abstract
import Derived.Shelf.Bytes.SlSmallAll
import Derived.Shelf.RegionOpen
import Derived.StillTailTactics
import Derived.Stop.BytesEq
import Derived.TacticsInMore
import Derived.WalkKit
import Derived.WalkLawsBesides
import Derived.WalkSpells
namespace Go.Proofs.YtbdkalpljhpnmaaGreat
open Go Go.RowKit

theorem emod_of2 (a b : Int) (h : 0 ≤ a) : a.tmod b = a % b := Int.tmod_eq_emod_of_nonneg h
set_option maxRecDepth 10000 in
set_option maxHeartbeats 400000 in
theorem modp_any (a b : Int) (w : World) (hb : 0 < b) (hb2 : b ≤ 1000000000) (ha : 0 ≤ a) :
    Calls Tryz.prog 120 #[I a, I b] w fun e w' => e = .returned (I (a % b)) ∧ w' = w := by
  have he := emod_of2 a b ha
  have h0 := Int.emod_nonneg a (show b ≠ 0 by omega)
  have h1 := Int.emod_lt_of_pos a hb
  obtain ⟨q, hq⟩ : ∃ q, a % b = q := ⟨_, rfl⟩
  rw [hq] at he h0 h1 ⊢
  have hb0 : b ≠ 0 := by omega
  have hb1 : b ≠ -1 := by omega
  have h2 : ¬ q < 0 := by omega
  clear hq
  go_enter Tryz.func120, Tryz.ntmps120
  go_wp2
  go_ret
  exact ⟨rfl, rfl⟩
def leapF (c : Cal) (y : Int) : Bool := match c.rules with | [] => false | r :: _ => (y % 2 == r.rest) && r.yes
def commonF (c : Cal) : Int := (c.months[0]?.getD 0) + (c.months[1]?.getD 0)
def monthF (c : Cal) (y m : Int) : Int := (c.months[(m - 1).toNat]?.getD 0) + (if m - 1 = c.leap ∧ leapF c y = true then 1 else 0)
def yearF (c : Cal) (y : Int) : Int := commonF c + (if leapF c y = true then 1 else 0)
def cycY (c : Cal) : Int := match c.rules with | [] => 1 | _ :: _ => 2
def cycD (c : Cal) : Int := match c.rules with | [] => yearF c 1 | _ :: _ => yearF c 1 + yearF c 2
set_option maxRecDepth 10000 in
set_option maxHeartbeats 1000000 in
theorem leap_yes (c : Cal) (A R : Option Addr) (a r : Nat) (y : Int) (w : World) (hc : CalS c) (h : CalM w w.heap.size A R c) (hy : 0 ≤ y) : Calls Tryz.prog 105 #[.agg (calCells c A a R r), I y] w (Gives (.bool (leapF c y)) w) := by
  obtain ⟨ep, m0, m1, lp, rs, rfl, b1, b2, b3, b4, hrs⟩ := hc.form
  rcases hrs with rfl | ⟨q, yy, rfl, q1, q2, _⟩
  · have HVAL : Hid (∀ W, Below w.heap.size w W → Calls Tryz.prog 67 #[.agg #[I ep, .slice A 2 a, I lp, .slice R 0 r]] W (Gives (.bool true) W)) := Lib.hid fun W hb => refValid_yes ⟨ep, [m0, m1], lp, []⟩ A R a r W hc (h.grow hb)
    have HH := Lib.hid h
    have HV := Lib.hid (CalV.start w #[I ep, .slice A 2 a, I lp, .slice R 0 r] 37)
    clear hc h
    show Calls Tryz.prog _ #[.agg #[I ep, .slice A 2 a, I lp, .slice R 0 r], I y] w _
    go_enter Tryz.func105, Tryz.ntmps105
    go_wp2_with fail
    refine (HVAL.out _ HV.out.up).mono ?_
    rintro e w1 ⟨rfl, hb1⟩
    have HW := Lib.hid (HV.out.grow hb1)
    have v3 : w1.cell? ⟨w.heap.size, 3, none⟩ = some (.slice R 0 r) := HW.out.row.2 3
    clear hb1 HV HVAL
    go_wp2_with fail
    go_rounds 1
    go_ret
    exact ⟨rfl, HW.out.up⟩
  · have HVAL : Hid (∀ W, Below w.heap.size w W → Calls Tryz.prog 67 #[.agg #[I ep, .slice A 2 a, I lp, .slice R 1 r]] W (Gives (.bool true) W)) := Lib.hid fun W hb => refValid_yes ⟨ep, [m0, m1], lp, [⟨2, q, yy⟩]⟩ A R a r W hc (h.grow hb)
    have HH := Lib.hid h
    have HV := Lib.hid (CalV.start w #[I ep, .slice A 2 a, I lp, .slice R 1 r] 37)
    clear hc h
    show Calls Tryz.prog _ #[.agg #[I ep, .slice A 2 a, I lp, .slice R 1 r], I y] w _
    go_enter Tryz.func105, Tryz.ntmps105
    go_wp2_with fail
    refine (HVAL.out _ HV.out.up).mono ?_
    rintro e w1 ⟨rfl, hb1⟩
    have HW := Lib.hid (HV.out.grow hb1)
    have v3 : w1.cell? ⟨w.heap.size, 3, none⟩ = some (.slice R 1 r) := HW.out.row.2 3
    clear hb1 HV HVAL
    obtain ⟨b, off, rfl, d0, d1, d2⟩ := HH.out.one HW.out.up
    have HMD := Lib.hid (fun W => modp_any y 2 W (by omega) (by omega) hy)
    have HQ := Lib.hid (Below.refl w1.heap.size w1)
    clear hy
    go_wp2_with fail
    clear q1 q2 b1 b2 b3 b4
    refine wp_loop_rounds 2 ?_
    rw [rounds_succ]
    go_wp2_with fail
    go_quiet (first | (go_at_call 120; refine Calls.quiet_of_same (HMD.out _)))
    obtain ⟨t, ht⟩ : ∃ t, (y % 2 == q) = t := ⟨_, rfl⟩
    have HT := Lib.hid ht
    cases t
    · go_wp2_with fail
      rw [rounds_succ]
      clear ht
      go_wp2_with fail
      go_ret
      exact ⟨by simp [leapF, HT.out], below_trans HW.out.up (below_drewN' _ _)⟩
    · go_wp2_with fail
      rw [rounds_succ]
      clear ht
      go_wp2_with fail
      go_ret
      exact ⟨by simp [leapF, HT.out], below_trans HW.out.up (below_drewN' _ _)⟩
set_option maxRecDepth 10000 in
set_option maxHeartbeats 1000000 in
theorem common_yes (c : Cal) (A R : Option Addr) (a r : Nat) (w : World) (hc : CalS c) (h : CalM w w.heap.size A R c) : Calls Tryz.prog 106 #[.agg (calCells c A a R r)] w (Gives (I (commonF c)) w) := by
  obtain ⟨ep, m0, m1, lp, rs, rfl, b1, b2, b3, b4, _⟩ := hc.form
  have HH := Lib.hid h
  clear hc h
  unfold calCells
  simp only
  have HV := Lib.hid (CalV.start w #[I ep, .slice A 2 a, I lp, .slice R rs.length r] 37)
  obtain ⟨n, hn⟩ : ∃ n, rs.length = n := ⟨_, rfl⟩
  rw [hn] at HV ⊢
  clear hn
  go_enter Tryz.func106, Tryz.ntmps106
  go_wp2_with fail
  generalize w.alloc (.cells #[I ep, .slice A 2 a, I lp, .slice R n r] 37) = W0 at HV ⊢
  obtain ⟨b, off, rfl, c0, c1⟩ := HH.out.two HV.out.up
  have v1 : W0.cell? ⟨w.heap.size, 1, none⟩ = some (.slice (some ⟨b, off, none⟩) 2 a) := HV.out.row.2 1
  go_rounds 3
  go_ret
  exact ⟨rfl, HV.out.up⟩
set_option maxRecDepth 10000 in
set_option maxHeartbeats 1000000 in
theorem year_yes (c : Cal) (A R : Option Addr) (a r : Nat) (y : Int) (w : World) (hc : CalS c) (h : CalM w w.heap.size A R c) (hy : 0 ≤ y) : Calls Tryz.prog 93 #[.agg (calCells c A a R r), I y] w (Gives (I (yearF c y)) w) := by
  have HVAL : Hid (∀ W, Below w.heap.size w W → Calls Tryz.prog 67 #[.agg (calCells c A a R r)] W (Gives (.bool true) W)) := Lib.hid fun W hb => refValid_yes _ A R a r W hc (h.grow hb)
  have HLP : Hid (∀ W, Below w.heap.size w W → Calls Tryz.prog 105 #[.agg (calCells c A a R r), I y] W (Gives (.bool (leapF c y)) W)) := Lib.hid fun W hb => leap_yes _ A R a r y W hc (h.grow hb) hy
  have HCM : Hid (∀ W, Below w.heap.size w W → Calls Tryz.prog 106 #[.agg (calCells c A a R r)] W (Gives (I (commonF c)) W)) := Lib.hid fun W hb => common_yes _ A R a r W hc (h.grow hb)
  have hcm : 0 ≤ commonF c ∧ commonF c ≤ 100 := by
    obtain ⟨ep, m0, m1, lp, rs, rfl, b1, b2, b3, b4, _⟩ := hc.form
    simp only [commonF, List.getElem?_cons_zero, List.getElem?_cons_succ, Option.getD_some]
    omega
  unfold yearF
  obtain ⟨u, hu⟩ : ∃ u, leapF c y = u := ⟨_, rfl⟩
  obtain ⟨q, hq⟩ : ∃ q, commonF c = q := ⟨_, rfl⟩
  rw [hu] at HLP ⊢
  rw [hq] at HCM hcm ⊢
  obtain ⟨ep, lp, A', R', n, m, hcs⟩ : ∃ ep lp, ∃ A' R' : Option Addr, ∃ n m : Nat, calCells c A a R r = #[I ep, .slice A' n a, I lp, .slice R' m r] := ⟨_, _, _, _, _, _, rfl⟩
  rw [hcs] at HVAL HLP HCM ⊢
  obtain ⟨V, hV⟩ : ∃ V, (q + (if u = true then 1 else 0)) = V := ⟨_, rfl⟩
  rw [hV]
  have HVQ := Lib.hid hV
  clear hV
  clear hcs hu hq hc h hy
  have HV := Lib.hid (CalV.start w #[I ep, .slice A' n a, I lp, .slice R' m r] 37)
  go_enter Tryz.func93, Tryz.ntmps93
  go_wp2_with fail
  refine (HVAL.out _ HV.out.up).mono ?_
  rintro e w1 ⟨rfl, hb1⟩
  have HW := Lib.hid (HV.out.grow hb1)
  have v0 : w1.cell? ⟨w.heap.size, 0, none⟩ = some (I ep) := HW.out.row.2 0
  have v1 : w1.cell? ⟨w.heap.size, 1, none⟩ = some (.slice A' n a) := HW.out.row.2 1
  have v2 : w1.cell? ⟨w.heap.size, 2, none⟩ = some (I lp) := HW.out.row.2 2
  have v3 : w1.cell? ⟨w.heap.size, 3, none⟩ = some (.slice R' m r) := HW.out.row.2 3
  clear hb1 HV HVAL
  go_wp2_with fail
  clear v0 v1 v2 v3
  refine (HLP.out _ HW.out.up).mono ?_
  rintro e w2 ⟨rfl, hb1⟩
  have HW2 := Lib.hid (HW.out.grow hb1)
  have v0 : w2.cell? ⟨w.heap.size, 0, none⟩ = some (I ep) := HW2.out.row.2 0
  have v1 : w2.cell? ⟨w.heap.size, 1, none⟩ = some (.slice A' n a) := HW2.out.row.2 1
  have v2 : w2.cell? ⟨w.heap.size, 2, none⟩ = some (I lp) := HW2.out.row.2 2
  have v3 : w2.cell? ⟨w.heap.size, 3, none⟩ = some (.slice R' m r) := HW2.out.row.2 3
  clear hb1 HLP HW
  cases u
  all_goals
    go_wp2_with fail
    refine (HCM.out _ HW2.out.up).mono ?_
    rintro e w3 ⟨rfl, hb3⟩
    have HB3 := Lib.hid (below_trans HW2.out.up hb3)
    clear hb3 v0 v1 v2 v3
    go_wp2_with fail
    go_ret
    exact ⟨by rw [← HVQ.out]; simp, HB3.out⟩
set_option maxRecDepth 10000 in
set_option maxHeartbeats 1000000 in
theorem month_yes (c : Cal) (A R : Option Addr) (a r : Nat) (y m : Int) (w : World) (hc : CalS c) (h : CalM w w.heap.size A R c) (hy : 0 ≤ y) (hm : m = 1 ∨ m = 2) : Calls Tryz.prog 104 #[.agg (calCells c A a R r), I y, I m] w (Gives (I (monthF c y m)) w) := by
  have HVAL : Hid (∀ W, Below w.heap.size w W → Calls Tryz.prog 67 #[.agg (calCells c A a R r)] W (Gives (.bool true) W)) := Lib.hid fun W hb => refValid_yes _ A R a r W hc (h.grow hb)
  have HLP : Hid (∀ W, Below w.heap.size w W → Calls Tryz.prog 105 #[.agg (calCells c A a R r), I y] W (Gives (.bool (leapF c y)) W)) := Lib.hid fun W hb => leap_yes _ A R a r y W hc (h.grow hb) hy
  obtain ⟨ep, m0, m1, lp, rs, rfl, b1, ⟨b2, b2'⟩, ⟨b3, b3'⟩, _, _⟩ := hc.form
  obtain ⟨V, hV⟩ : ∃ V, monthF ⟨ep, [m0, m1], lp, rs⟩ y m = V := ⟨_, rfl⟩
  obtain ⟨u, hu⟩ : ∃ u, leapF ⟨ep, [m0, m1], lp, rs⟩ y = u := ⟨_, rfl⟩
  obtain ⟨n, hn⟩ : ∃ n, rs.length = n := ⟨_, rfl⟩
  rw [hV]
  rw [hu] at HLP
  unfold calCells at HVAL HLP ⊢
  simp only [hn, List.length_cons, List.length_nil, Nat.zero_add, Nat.reduceAdd] at HVAL HLP ⊢
  have HVQ := Lib.hid hV
  have HU := Lib.hid hu
  have HH := Lib.hid h
  have HV := Lib.hid (CalV.start w #[I ep, .slice A 2 a, I lp, .slice R n r] 37)
  clear hV hu hn h hc hy b1
  rcases hm with rfl | rfl
  · by_cases hl : lp = 0
    · subst hl
      go_enter Tryz.func104, Tryz.ntmps104
      go_wp2_with fail
      refine (HVAL.out _ HV.out.up).mono ?_
      rintro e w1 ⟨rfl, hb1⟩
      have HW := Lib.hid (HV.out.grow hb1)
      obtain ⟨b, off, rfl, c0, c1⟩ := HH.out.two HW.out.up
      have v0 : w1.cell? ⟨w.heap.size, 0, none⟩ = some (I ep) := HW.out.row.2 0
      have v1 : w1.cell? ⟨w.heap.size, 1, none⟩ = some (.slice (some ⟨b, off, none⟩) 2 a) := HW.out.row.2 1
      have v2 : w1.cell? ⟨w.heap.size, 2, none⟩ = some (I 0) := HW.out.row.2 2
      have v3 : w1.cell? ⟨w.heap.size, 3, none⟩ = some (.slice R n r) := HW.out.row.2 3
      clear hb1
      go_wp2_with fail
      clear v0 v1 v2 v3 c0 c1
      refine (HLP.out _ HW.out.up).mono ?_
      rintro e w2 ⟨rfl, hb1⟩
      have HW2 := Lib.hid (HW.out.grow hb1)
      obtain ⟨b', off', e', c0, c1⟩ := HH.out.two HW2.out.up
      injection e' with e'
      injection e' with e1 e2
      subst e1 e2
      have v1 : w2.cell? ⟨w.heap.size, 1, none⟩ = some (.slice (some ⟨b, off, none⟩) 2 a) := HW2.out.row.2 1
      clear hb1
      cases u
      all_goals
        go_wp2_with fail
        go_ret
        exact ⟨by rw [← HVQ.out]; simp [monthF, HU.out], HW2.out.up⟩
    · have HL := Lib.hid hl
      have hl1 : ((0 : Int) == lp) = false := by simp; omega
      go_enter Tryz.func104, Tryz.ntmps104
      go_wp2_with fail
      refine (HVAL.out _ HV.out.up).mono ?_
      rintro e w1 ⟨rfl, hb1⟩
      have HW := Lib.hid (HV.out.grow hb1)
      obtain ⟨b, off, rfl, c0, c1⟩ := HH.out.two HW.out.up
      have v0 : w1.cell? ⟨w.heap.size, 0, none⟩ = some (I ep) := HW.out.row.2 0
      have v1 : w1.cell? ⟨w.heap.size, 1, none⟩ = some (.slice (some ⟨b, off, none⟩) 2 a) := HW.out.row.2 1
      have v2 : w1.cell? ⟨w.heap.size, 2, none⟩ = some (I lp) := HW.out.row.2 2
      have v3 : w1.cell? ⟨w.heap.size, 3, none⟩ = some (.slice R n r) := HW.out.row.2 3
      clear hb1
      clear hl
      go_wp2_with fail
      go_ret
      exact ⟨by rw [← HVQ.out]; simp [monthF]; have := HL.out; omega, HW.out.up⟩
  · by_cases hl : lp = 1
    · subst hl
      go_enter Tryz.func104, Tryz.ntmps104
      go_wp2_with fail
      refine (HVAL.out _ HV.out.up).mono ?_
      rintro e w1 ⟨rfl, hb1⟩
      have HW := Lib.hid (HV.out.grow hb1)
      obtain ⟨b, off, rfl, c0, c1⟩ := HH.out.two HW.out.up
      have v0 : w1.cell? ⟨w.heap.size, 0, none⟩ = some (I ep) := HW.out.row.2 0
      have v1 : w1.cell? ⟨w.heap.size, 1, none⟩ = some (.slice (some ⟨b, off, none⟩) 2 a) := HW.out.row.2 1
      have v2 : w1.cell? ⟨w.heap.size, 2, none⟩ = some (I 1) := HW.out.row.2 2
      have v3 : w1.cell? ⟨w.heap.size, 3, none⟩ = some (.slice R n r) := HW.out.row.2 3
      clear hb1
      go_wp2_with fail
      clear v0 v1 v2 v3 c0 c1
      refine (HLP.out _ HW.out.up).mono ?_
      rintro e w2 ⟨rfl, hb1⟩
      have HW2 := Lib.hid (HW.out.grow hb1)
      obtain ⟨b', off', e', c0, c1⟩ := HH.out.two HW2.out.up
      injection e' with e'
      injection e' with e1 e2
      subst e1 e2
      have v1 : w2.cell? ⟨w.heap.size, 1, none⟩ = some (.slice (some ⟨b, off, none⟩) 2 a) := HW2.out.row.2 1
      clear hb1
      cases u
      all_goals
        go_wp2_with fail
        go_ret
        exact ⟨by rw [← HVQ.out]; simp [monthF, HU.out], HW2.out.up⟩
    · have HL := Lib.hid hl
      have hl1 : ((1 : Int) == lp) = false := by simp; omega
      go_enter Tryz.func104, Tryz.ntmps104
      go_wp2_with fail
      refine (HVAL.out _ HV.out.up).mono ?_
      rintro e w1 ⟨rfl, hb1⟩
      have HW := Lib.hid (HV.out.grow hb1)
      obtain ⟨b, off, rfl, c0, c1⟩ := HH.out.two HW.out.up
      have v0 : w1.cell? ⟨w.heap.size, 0, none⟩ = some (I ep) := HW.out.row.2 0
      have v1 : w1.cell? ⟨w.heap.size, 1, none⟩ = some (.slice (some ⟨b, off, none⟩) 2 a) := HW.out.row.2 1
      have v2 : w1.cell? ⟨w.heap.size, 2, none⟩ = some (I lp) := HW.out.row.2 2
      have v3 : w1.cell? ⟨w.heap.size, 3, none⟩ = some (.slice R n r) := HW.out.row.2 3
      clear hb1
      clear hl
      go_wp2_with fail
      go_ret
      exact ⟨by rw [← HVQ.out]; simp [monthF]; have := HL.out; omega, HW.out.up⟩
theorem year_bd (c : Cal) (y : Int) (hc : CalS c) : 0 ≤ yearF c y ∧ yearF c y ≤ 100 := by
  obtain ⟨ep, m0, m1, lp, rs, rfl, b1, b2, b3, b4, _⟩ := hc.form
  simp only [yearF, commonF, List.getElem?_cons_zero, List.getElem?_cons_succ, Option.getD_some]
  split <;> omega
set_option maxRecDepth 10000 in
set_option maxHeartbeats 1000000 in
theorem cyc_yes (c : Cal) (A R : Option Addr) (a r : Nat) (w : World) (hc : CalS c) (h : CalM w w.heap.size A R c) : Calls Tryz.prog 94 #[.agg (calCells c A a R r)] w (Gives (.tuple #[I (cycY c), I (cycD c), .int .i64 0]) w) := by
  have HVAL : Hid (∀ W, Below w.heap.size w W → Calls Tryz.prog 67 #[.agg (calCells c A a R r)] W (Gives (.bool true) W)) := Lib.hid fun W hb => refValid_yes _ A R a r W hc (h.grow hb)
  have HY1 : Hid (∀ W, Below w.heap.size w W → Calls Tryz.prog 93 #[.agg (calCells c A a R r), I 1] W (Gives (I (yearF c 1)) W)) := Lib.hid fun W hb => year_yes _ A R a r 1 W hc (h.grow hb) (by omega)
  have HY2 : Hid (∀ W, Below w.heap.size w W → Calls Tryz.prog 93 #[.agg (calCells c A a R r), I 2] W (Gives (I (yearF c 2)) W)) := Lib.hid fun W hb => year_yes _ A R a r 2 W hc (h.grow hb) (by omega)
  have hy1 := year_bd c 1 hc
  have hy2 := year_bd c 2 hc
  unfold cycD
  obtain ⟨u1, hu1⟩ : ∃ u, yearF c 1 = u := ⟨_, rfl⟩
  obtain ⟨u2, hu2⟩ : ∃ u, yearF c 2 = u := ⟨_, rfl⟩
  rw [hu1, hu2]
  rw [hu1] at HY1 hy1
  rw [hu2] at HY2 hy2
  clear hu1 hu2
  obtain ⟨ep, m0, m1, lp, rs, rfl, b1, ⟨b2, b2'⟩, ⟨b3, b3'⟩, _, hrs⟩ := hc.form
  have HH := Lib.hid h
  clear h hc b1 b2 b2' b3 b3'
  rcases hrs with rfl | ⟨q, yy, rfl, _, _, _⟩
  · unfold calCells at HVAL HY1 HY2 ⊢
    simp only [List.length_cons, List.length_nil, Nat.zero_add, Nat.reduceAdd] at HVAL HY1 HY2 ⊢
    have HV := Lib.hid (CalV.start w #[I ep, .slice A 2 a, I lp, .slice R 0 r] 37)
    go_enter Tryz.func94, Tryz.ntmps94
    go_wp2_with fail
    refine (HVAL.out _ HV.out.up).mono ?_
    rintro e w1 ⟨rfl, hb1⟩
    have HW := Lib.hid (HV.out.grow hb1)
    have v0 : w1.cell? ⟨w.heap.size, 0, none⟩ = some (I ep) := HW.out.row.2 0
    have v1 : w1.cell? ⟨w.heap.size, 1, none⟩ = some (.slice A 2 a) := HW.out.row.2 1
    have v2 : w1.cell? ⟨w.heap.size, 2, none⟩ = some (I lp) := HW.out.row.2 2
    have v3 : w1.cell? ⟨w.heap.size, 3, none⟩ = some (.slice R 0 r) := HW.out.row.2 3
    clear hb1
    go_wp2_with fail
    refine wp_loop_rounds 1 ?_
    rw [rounds_succ]
    go_wp2_with fail
    refine wp_loop_rounds 2 ?_
    rw [rounds_succ]
    go_wp2_with fail
    refine (HY1.out _ HW.out.up).mono ?_
    rintro e w2 ⟨rfl, hb2⟩
    have HW2 := Lib.hid (HW.out.grow hb2)
    clear hb2 v0 v1 v2 v3
    go_wp2_with fail
    rw [rounds_succ]
    go_wp2_with fail
    go_ret3
    exact ⟨by simp [cycY], HW2.out.up⟩
  · unfold calCells at HVAL HY1 HY2 ⊢
    simp only [List.length_cons, List.length_nil, Nat.zero_add, Nat.reduceAdd] at HVAL HY1 HY2 ⊢
    have HV := Lib.hid (CalV.start w #[I ep, .slice A 2 a, I lp, .slice R 1 r] 37)
    go_enter Tryz.func94, Tryz.ntmps94
    go_wp2_with fail
    refine (HVAL.out _ HV.out.up).mono ?_
    rintro e w1 ⟨rfl, hb1⟩
    have HW := Lib.hid (HV.out.grow hb1)
    have v0 : w1.cell? ⟨w.heap.size, 0, none⟩ = some (I ep) := HW.out.row.2 0
    have v1 : w1.cell? ⟨w.heap.size, 1, none⟩ = some (.slice A 2 a) := HW.out.row.2 1
    have v2 : w1.cell? ⟨w.heap.size, 2, none⟩ = some (I lp) := HW.out.row.2 2
    have v3 : w1.cell? ⟨w.heap.size, 3, none⟩ = some (.slice R 1 r) := HW.out.row.2 3
    obtain ⟨b, off, rfl, d0, d1, d2⟩ := HH.out.one HW.out.up
    clear hb1
    go_wp2_with fail
    refine wp_loop_rounds 2 ?_
    rw [rounds_succ]
    go_wp2_with fail
    go_quiet (first | (go_at_call 90; refine Calls.quiet_of_same (gcd12 _)))
    go_wp2_with fail
    rw [rounds_succ]
    go_wp2_with fail
    refine wp_loop_rounds 3 ?_
    rw [rounds_succ]
    go_wp2_with fail
    have HD := Lib.hid (below_trans HW.out.up (below_drewN' w1 nq))
    refine (HY1.out _ HD.out).mono ?_
    rintro e w2 ⟨rfl, hb2⟩
    have HW2 := Lib.hid ((HW.out.grow (below_drewN' w1 nq)).grow hb2)
    clear hb2 v0 v1 v2 v3 d0 d1 d2 HW HD
    have v0 : w2.cell? ⟨w.heap.size, 0, none⟩ = some (I ep) := HW2.out.row.2 0
    have v1 : w2.cell? ⟨w.heap.size, 1, none⟩ = some (.slice A 2 a) := HW2.out.row.2 1
    have v2 : w2.cell? ⟨w.heap.size, 2, none⟩ = some (I lp) := HW2.out.row.2 2
    have v3 : w2.cell? ⟨w.heap.size, 3, none⟩ = some (.slice (some ⟨b, off, none⟩) 1 r) := HW2.out.row.2 3
    go_wp2_with fail
    rw [rounds_succ]
    go_wp2_with fail
    refine (HY2.out _ HW2.out.up).mono ?_
    rintro e w3 ⟨rfl, hb2⟩
    have HW3 := Lib.hid (HW2.out.grow hb2)
    clear hb2 v0 v1 v2 v3
    go_wp2_with fail
    rw [rounds_succ]
    go_wp2_with fail
    go_ret3
    exact ⟨by simp [cycY], HW3.out.up⟩
end Go.Proofs.YtbdkalpljhpnmaaGreat
