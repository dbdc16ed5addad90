/- number.Gcd, number.Lcm, civil.period, civil.Valid (where a calendar is valid). -/
import Derived.Test.YtbdkalpljhpnmaaGreatQa
import Derived.Test.YtbdkalpljhpnmaaGreatPl
import Derived.BigQuiet
import Derived.Deep.AppendLies
import Derived.Deep.CutBlock
import Derived.Deep.DeepCutAuto
import Derived.Deep.DrawnRows
import Derived.Deep.MidRow
import Derived.Deep.QuietTactic
import Derived.Deep.RegionHeld3
import Derived.Deep.RegionLaw
import Derived.Deep.WholeRow
import Derived.Great.BuildSlice
import Derived.Laws.BytesString
import Derived.Laws.CopyOwn
import Derived.Laws.EntriesVeiled
import Derived.Laws.MakeOwn
import Derived.Laws.ResultCell
import Derived.Laws.Rows
import Derived.Laws.Tables
import Derived.Lib.Hide
import Derived.LoopIn
import Derived.LoopNIn
import Derived.Maps.AppendAt
import Derived.Outline
import Derived.OwnWalkIn
import Derived.RangeFuncBound
import Derived.RangeFuncBox
import Derived.RangeFuncCalls
import Derived.RangeFuncLeaves
import Derived.RangeFuncNested
import Derived.Shelf.Abstract
import Derived.Shelf.Bytes.SlSmallAll
import Derived.Shelf.RegionOpen
import Derived.StillTailTactics
import Derived.Stop.BytesEq
import Derived.TacticsInMore
import Derived.WalkKit
import Derived.WalkLawsBesides
import Derived.WalkSpells
namespace Go.Proofs.YtbdkalpljhpnmaaGreat
open Go Go.RowKit

set_option maxRecDepth 10000 in
theorem magnitude_nat (a : Nat) (ha : a ≤ 1000000) (w : World) : Calls Tryz.prog 121 #[I a] w fun e w' => e = .returned (.int .u64 a) ∧ w' = w := by
  have h0 : ¬ (a : Int) < 0 := by omega
  have hw : IntKind.u64.wrap (a : Int) = a := by rw [IntKind.wrap_u64]; omega
  go_enter Tryz.func121, Tryz.ntmps121
  go_wp2
  go_ret
  exact ⟨rfl, rfl⟩
def natOfU : Value → Nat
  | .int _ n => n.toNat
  | _ => 0
set_option maxRecDepth 10000 in
set_option maxHeartbeats 2000000 in
theorem gcd_nat (a b : Nat) (ha : a ≤ 1000000) (hb : b ≤ 1000000) (w : World) : Calls Tryz.prog 107 #[I a, I b] w fun e w' => e = .returned (I (Nat.gcd a b)) ∧ Below w.heap.size w w' := by
  go_enter Tryz.func107, Tryz.ntmps107
  go_wp2_with fail
  refine (magnitude_nat a ha _).mono ?_
  rintro e w1 ⟨rfl, rfl⟩
  go_wp2_with fail
  refine (magnitude_nat b hb _).mono ?_
  rintro e w2 ⟨rfl, rfl⟩
  go_wp2_with fail
  go_loopw [5, 6] (fun u v wr => ∃ x y : Nat, u = .int .u64 x ∧ v = .int .u64 y ∧ x ≤ 1000000 ∧ y ≤ 1000000 ∧ Nat.gcd x y = Nat.gcd a b ∧ Below w2.heap.size w2 wr) (fun _ v _ => natOfU v)
  case atStart => exact ⟨a, b, rfl, rfl, ha, hb, rfl, Below.refl _ _⟩
  case round =>
    obtain ⟨x, y, rfl, rfl, hx, hy, hg, hbe⟩ := hrel
    have HG := Lib.hid hg
    have HBE := Lib.hid hbe
    clear hg hbe
    by_cases hy0 : y = 0
    · subst hy0
      have hq : ¬ (9223372036854775807 : Int) < (x : Int) := by omega
      have hw : IntKind.i64.wrap (x : Int) = x := by rw [IntKind.wrap_i64]; omega
      go_wp2_with fail
      go_ret
      refine ⟨?_, HBE.out⟩
      have := HG.out
      rw [Nat.gcd_zero_right] at this
      rw [this]; rfl
    · have hy1 : ¬ (y : Int) = 0 := by omega
      have hy2 : ((y : Int) != 0) = true := by simp [hy0]
      have hlt : x % y < y := Nat.mod_lt _ (by omega)
      obtain ⟨z, hz⟩ : ∃ z, x % y = z := ⟨_, rfl⟩
      have hm : (x : Int) % (y : Int) = (z : Int) := by omega
      have hm2 : Int.tmod (x : Int) (y : Int) = (z : Int) := by rw [Int.tmod_eq_emod_of_nonneg (by omega)]; exact hm
      rw [hz] at hlt
      have HZ := Lib.hid hz
      have hw : IntKind.u64.wrap (z : Int) = (z : Int) := by rw [IntKind.wrap_u64]; omega
      clear hz
      go_wp2_with fail
      go_quiet (fail)
      go_wp2_with fail
      go_roundw
      case rel => exact ⟨y, z, rfl, by first | rfl | go_num, hy, by omega, by rw [← HG.out, Nat.gcd_comm x y, Nat.gcd_rec y x, Nat.gcd_comm, HZ.out], below_trans HBE.out (below_drewN' _ _)⟩
      case measure => simp [natOfU]; omega
set_option maxRecDepth 10000 in
set_option maxHeartbeats 2000000 in
theorem lcm_nat (a b : Nat) (ha : 1 ≤ a) (ha2 : a ≤ 400) (hb : 1 ≤ b) (hb2 : b ≤ 400) (w : World) : Calls Tryz.prog 95 #[I a, I b] w fun e w' => e = .returned (.tuple #[I (Nat.lcm a b), I 0]) ∧ Below w.heap.size w w' := by
  have HG := Lib.hid (gcd_nat a b (by omega) (by omega) w)
  have h1 : ¬ (a : Int) < 1 := by omega
  have h2 : ¬ (b : Int) < 1 := by omega
  have hgp : 0 < Nat.gcd a b := Nat.gcd_pos_of_pos_left _ ha
  have hl : a / Nat.gcd a b * b = Nat.lcm a b := by
    have e := Nat.lcm_eq_mul_div a b
    rw [e, Nat.div_mul_right_comm (Nat.gcd_dvd_left a b)]
  obtain ⟨g, hg⟩ : ∃ g, Nat.gcd a b = g := ⟨_, rfl⟩
  rw [hg] at HG hgp hl
  obtain ⟨r, hr⟩ : ∃ r, a / g = r := ⟨_, rfl⟩
  have hr4 : r ≤ 400 := by rw [← hr]; exact Nat.le_trans (Nat.div_le_self _ _) ha2
  have hq : Int.tdiv (a : Int) (g : Int) = (r : Int) := by rw [← hr]; rfl
  have hq' : (a : Int) / (g : Int) = (r : Int) := by rw [← hr]; rfl
  obtain ⟨t, ht⟩ : ∃ t, 1099511627776 / b = t := ⟨_, rfl⟩
  have ht4 : 400 ≤ t := by rw [← ht, Nat.le_div_iff_mul_le (by omega)]; omega
  have hq2 : Int.tdiv 1099511627776 (b : Int) = (t : Int) := by rw [← ht]; rfl
  have hq2' : (1099511627776 : Int) / (b : Int) = (t : Int) := by rw [← ht]; rfl
  have hbig : ¬ (t : Int) < (r : Int) := by omega
  have hwr : IntKind.i64.wrap (r : Int) = r := by rw [IntKind.wrap_i64]; omega
  have ht5 : t ≤ 1099511627776 := by rw [← ht]; exact Nat.div_le_self _ _
  have hwt : IntKind.i64.wrap (t : Int) = t := by rw [IntKind.wrap_i64]; omega
  rw [hr] at hl
  have hp : (r : Int) * (b : Int) = ((Nat.lcm a b : Nat) : Int) := by rw [← hl]; exact (Int.natCast_mul r b).symm
  have hlb : Nat.lcm a b ≤ 160000 := by rw [← hl]; exact Nat.mul_le_mul hr4 hb2
  obtain ⟨m, hm⟩ : ∃ m, Nat.lcm a b = m := ⟨_, rfl⟩
  rw [hm] at hp hlb ⊢
  have hwm : IntKind.i64.wrap (m : Int) = m := by rw [IntKind.wrap_i64]; omega
  have hg0 : ¬ (g : Int) = 0 := by omega
  have hb0 : ¬ (b : Int) = 0 := by omega
  clear hr ht hl hm hg
  go_enter Tryz.func95, Tryz.ntmps95
  go_wp2_with fail
  refine HG.out.mono ?_
  rintro e w1 ⟨rfl, hb1⟩
  have HB1 := Lib.hid hb1
  clear hb1
  go_wp2_with fail
  go_ret2
  exact ⟨rfl, HB1.out⟩
structure Lr where
  every : Int
  rest : Int
  yes : Bool
def Lr.cells (r : Lr) : List Value := [I r.every, I r.rest, .bool r.yes]
def LrsAt (w : World) (B : Nat) (A : Option Addr) (rs : List Lr) : Prop :=
  rs.length = 0 ∨ ∃ b, A = some ⟨b, 0, none⟩ ∧ b < B ∧ ∀ k x, rs[k]? = some x → w.rangeAt b (k * 3) x.cells
theorem LrsAt.keep {w w' : World} {B : Nat} {A : Option Addr} {rs : List Lr} (h : LrsAt w B A rs) (hb : Below B w w') : LrsAt w' B A rs := by
  rcases h with h | ⟨b, h1, h2, h3⟩
  · exact .inl h
  · exact .inr ⟨b, h1, h2, fun k x hx => rangeAt_keep (h3 k x hx) hb h2⟩
theorem LrsAt.more {w : World} {B B' : Nat} {A : Option Addr} {rs : List Lr} (h : LrsAt w B A rs) (hB : B ≤ B') : LrsAt w B' A rs := by
  rcases h with h | ⟨b, h1, h2, h3⟩
  · exact .inl h
  · exact .inr ⟨b, h1, by omega, h3⟩
def PerOK : Nat → List Lr → Prop
  | _, [] => True
  | y, r :: rs => ∃ e : Nat, r.every = e ∧ 1 ≤ e ∧ e ≤ 400 ∧ 0 ≤ r.rest ∧ r.rest < e ∧ 1 ≤ Nat.lcm y e ∧ Nat.lcm y e ≤ 400 ∧ PerOK (Nat.lcm y e) rs
set_option maxRecDepth 10000 in
set_option maxHeartbeats 2000000 in
theorem period_yes (A : Option Addr) (n c : Nat) (rs : List Lr) (w : World) (hA : LrsAt w w.heap.size A rs) (hl : rs.length = n) (hn : n ≤ 1000) (hp : PerOK 1 rs) :
    Calls Tryz.prog 76 #[.slice A n c] w fun e w' => (∃ y, e = .returned (.tuple #[I y, .bool true])) ∧ Below w.heap.size w w' := by
  have HA := Lib.hid hA
  have HL := Lib.hid hl
  have HP := Lib.hid hp
  clear hA hl hp
  go_enter Tryz.func76, Tryz.ntmps76
  go_wp2_with fail
  go_loopw [4, 11] (fun u i wr => ∃ k y : Nat, k ≤ n ∧ i = I k ∧ u = I y ∧ 1 ≤ y ∧ y ≤ 400 ∧ PerOK y (rs.drop k) ∧ Below w.heap.size w wr) (fun _ i _ => n - (intOf i).toNat)
  case atStart => exact ⟨0, 1, Nat.zero_le _, rfl, rfl, by omega, by omega, by simpa using HP.out, Below.refl _ _⟩
  case round =>
    obtain ⟨k, y, hk, rfl, rfl, hy1, hy2, hper, hbe⟩ := hrel
    have HBE := Lib.hid hbe
    by_cases hlt : k < n
    · have i0 : (0 : Int) ≤ (k : Int) := by omega
      have i1 : (k : Int) < (n : Int) := by omega
      have hkl : k < rs.length := by rw [HL.out]; exact hlt
      rw [List.drop_eq_getElem_cons hkl] at hper
      obtain ⟨e, he, h1, h2, h3, h4, h5, h6, h7⟩ := hper
      have hx : rs[k]? = some rs[k] := List.getElem?_eq_getElem hkl
      rcases (HA.out.keep hbe) with h | ⟨b, rfl, hb, hc⟩
      · omega
      have hr := hc k _ hx
      have hbl : b < wr.heap.size := Nat.lt_of_lt_of_le hb hbe.size
      generalize rs[k] = rk at he h3 h4 hr
      obtain ⟨ev, re, ye⟩ := rk
      simp only at he h3 h4
      subst he
      have f0 : wr.cell? ⟨b, k * 3, none⟩ = some (I e) := hr 0 _ rfl
      have f1 : wr.cell? ⟨b, k * 3 + 1, none⟩ = some (I re) := hr 1 _ rfl
      have f2 : wr.cell? ⟨b, k * 3 + 2, none⟩ = some (.bool ye) := hr 2 _ rfl
      have hne : ¬ b = wr.heap.size := by omega
      have q1 : ¬ (e : Int) < 1 := by omega
      have q2 : ¬ (400 : Int) < (e : Int) := by omega
      have q3 : ¬ re < 0 := by omega
      have q4 : ¬ (e : Int) ≤ re := by omega
      have H7 := Lib.hid h7
      have HB2 := Lib.hid (below_var wr (.cells #[I e, I re, .bool ye] 105))
      clear hr hc hx hbe h7
      go_wp2_with fail
      refine (lcm_nat y e hy1 hy2 h1 h2 _).mono ?_
      rintro x w5 ⟨rfl, hb5⟩
      have HB5 := Lib.hid (below_trans HB2.out hb5)
      obtain ⟨m, hm⟩ : ∃ m, Nat.lcm y e = m := ⟨_, rfl⟩
      rw [hm] at h5 h6 H7 ⊢
      have q5 : ¬ (400 : Int) < (m : Int) := by omega
      clear hb5 hm
      go_wp2_with fail
      go_roundw
      case rel => exact ⟨k + 1, m, by omega, by go_num, rfl, h5, h6, H7.out, below_trans HBE.out HB5.out⟩
      case measure => simp [intOf]; omega
    · clear hper hbe
      go_wp2_with fail
      go_ret2
      exact ⟨⟨_, rfl⟩, HBE.out⟩
end Go.Proofs.YtbdkalpljhpnmaaGreat
