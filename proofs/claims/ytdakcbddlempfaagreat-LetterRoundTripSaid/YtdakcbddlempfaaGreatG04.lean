/- The texts SvE, SvF, SvG, SvH, SvI, SvJ, SvK, SvL, SvM, in this order. -/
import Derived.Test.YtdakcbddlempfaaGreatG03
import Derived.Deep.RegionLaw
import Derived.MapKept
import Derived.Laws.Cover3
/- number.Gcd, number.Lcm, civil.period, civil.Valid (where a calendar is valid). -/
namespace Go.Proofs.YtdakcbddlempfaaGreat
open Go Go.RowKit

set_option maxRecDepth 10000 in
theorem magnitude_nat (a : Nat) (ha : a ≤ 1000000) (w : World) : Calls Tryz.prog 114 #[I a] w fun e w' => e = .returned (.int .u64 a) ∧ w' = w := by
  have h0 : ¬ (a : Int) < 0 := by omega
  have hw : IntKind.u64.wrap (a : Int) = a := by rw [IntKind.wrap_u64]; omega
  go_enter Tryz.func114, Tryz.ntmps114
  go_wp2
  go_ret
  exact ⟨rfl, rfl⟩
def natOfU : Value → Nat
  | .int _ n => n.toNat
  | _ => 0
set_option maxRecDepth 10000 in
set_option maxHeartbeats 2000000 in
theorem gcd_nat (a b : Nat) (ha : a ≤ 1000000) (hb : b ≤ 1000000) (w : World) : Calls Tryz.prog 113 #[I a, I b] w fun e w' => e = .returned (I (Nat.gcd a b)) ∧ Below w.heap.size w w' := by
  go_enter Tryz.func113, Tryz.ntmps113
  go_wp2_with fail
  refine (magnitude_nat a ha _).mono ?_
  rintro e w1 ⟨rfl, rfl⟩
  go_wp2_with fail
  refine (magnitude_nat b hb _).mono ?_
  rintro e w2 ⟨rfl, rfl⟩
  go_wp2_with fail
  go_loopw [5, 6] (fun u v wr => ∃ x y : Nat, u = .int .u64 x ∧ v = .int .u64 y ∧ x ≤ 1000000 ∧ y ≤ 1000000 ∧ Nat.gcd x y = Nat.gcd a b ∧ Below w2.heap.size w2 wr) (fun _ v _ => natOfU v)
  case atStart => exact ⟨a, b, rfl, rfl, ha, hb, rfl, Below.refl _ _⟩
  case round =>
    obtain ⟨x, y, rfl, rfl, hx, hy, hg, hbe⟩ := hrel
    have HG := Lib.hid hg
    have HBE := Lib.hid hbe
    clear hg hbe
    by_cases hy0 : y = 0
    · subst hy0
      have hq : ¬ (9223372036854775807 : Int) < (x : Int) := by omega
      have hw : IntKind.i64.wrap (x : Int) = x := by rw [IntKind.wrap_i64]; omega
      go_wp2_with fail
      go_ret
      refine ⟨?_, HBE.out⟩
      have := HG.out
      rw [Nat.gcd_zero_right] at this
      rw [this]; rfl
    · have hy1 : ¬ (y : Int) = 0 := by omega
      have hy2 : ((y : Int) != 0) = true := by simp [hy0]
      have hlt : x % y < y := Nat.mod_lt _ (by omega)
      obtain ⟨z, hz⟩ : ∃ z, x % y = z := ⟨_, rfl⟩
      have hm : (x : Int) % (y : Int) = (z : Int) := by omega
      have hm2 : Int.tmod (x : Int) (y : Int) = (z : Int) := by rw [Int.tmod_eq_emod_of_nonneg (by omega)]; exact hm
      rw [hz] at hlt
      have HZ := Lib.hid hz
      have hw : IntKind.u64.wrap (z : Int) = (z : Int) := by rw [IntKind.wrap_u64]; omega
      clear hz
      go_wp2_with fail
      go_quiet (fail)
      go_wp2_with fail
      go_roundw
      case rel => exact ⟨y, z, rfl, by first | rfl | go_num, hy, by omega, by rw [← HG.out, Nat.gcd_comm x y, Nat.gcd_rec y x, Nat.gcd_comm, HZ.out], below_trans HBE.out (below_drewN' _ _)⟩
      case measure => simp [natOfU]; omega
set_option maxRecDepth 10000 in
set_option maxHeartbeats 2000000 in
theorem lcm_nat (a b : Nat) (ha : 1 ≤ a) (ha2 : a ≤ 400) (hb : 1 ≤ b) (hb2 : b ≤ 400) (w : World) : Calls Tryz.prog 111 #[I a, I b] w fun e w' => e = .returned (.tuple #[I (Nat.lcm a b), I 0]) ∧ Below w.heap.size w w' := by
  have HG := Lib.hid (gcd_nat a b (by omega) (by omega) w)
  have h1 : ¬ (a : Int) < 1 := by omega
  have h2 : ¬ (b : Int) < 1 := by omega
  have hgp : 0 < Nat.gcd a b := Nat.gcd_pos_of_pos_left _ ha
  have hl : a / Nat.gcd a b * b = Nat.lcm a b := by
    have e := Nat.lcm_eq_mul_div a b
    rw [e, Nat.div_mul_right_comm (Nat.gcd_dvd_left a b)]
  obtain ⟨g, hg⟩ : ∃ g, Nat.gcd a b = g := ⟨_, rfl⟩
  rw [hg] at HG hgp hl
  obtain ⟨r, hr⟩ : ∃ r, a / g = r := ⟨_, rfl⟩
  have hr4 : r ≤ 400 := by rw [← hr]; exact Nat.le_trans (Nat.div_le_self _ _) ha2
  have hq : Int.tdiv (a : Int) (g : Int) = (r : Int) := by rw [← hr]; rfl
  have hq' : (a : Int) / (g : Int) = (r : Int) := by rw [← hr]; rfl
  obtain ⟨t, ht⟩ : ∃ t, 1099511627776 / b = t := ⟨_, rfl⟩
  have ht4 : 400 ≤ t := by rw [← ht, Nat.le_div_iff_mul_le (by omega)]; omega
  have hq2 : Int.tdiv 1099511627776 (b : Int) = (t : Int) := by rw [← ht]; rfl
  have hq2' : (1099511627776 : Int) / (b : Int) = (t : Int) := by rw [← ht]; rfl
  have hbig : ¬ (t : Int) < (r : Int) := by omega
  have hwr : IntKind.i64.wrap (r : Int) = r := by rw [IntKind.wrap_i64]; omega
  have ht5 : t ≤ 1099511627776 := by rw [← ht]; exact Nat.div_le_self _ _
  have hwt : IntKind.i64.wrap (t : Int) = t := by rw [IntKind.wrap_i64]; omega
  rw [hr] at hl
  have hp : (r : Int) * (b : Int) = ((Nat.lcm a b : Nat) : Int) := by rw [← hl]; exact (Int.natCast_mul r b).symm
  have hlb : Nat.lcm a b ≤ 160000 := by rw [← hl]; exact Nat.mul_le_mul hr4 hb2
  obtain ⟨m, hm⟩ : ∃ m, Nat.lcm a b = m := ⟨_, rfl⟩
  rw [hm] at hp hlb ⊢
  have hwm : IntKind.i64.wrap (m : Int) = m := by rw [IntKind.wrap_i64]; omega
  have hg0 : ¬ (g : Int) = 0 := by omega
  have hb0 : ¬ (b : Int) = 0 := by omega
  clear hr ht hl hm hg
  go_enter Tryz.func111, Tryz.ntmps111
  go_wp2_with fail
  refine HG.out.mono ?_
  rintro e w1 ⟨rfl, hb1⟩
  have HB1 := Lib.hid hb1
  clear hb1
  go_wp2_with fail
  go_ret2
  exact ⟨rfl, HB1.out⟩
structure Lr where
  every : Int
  rest : Int
  yes : Bool
def Lr.cells (r : Lr) : List Value := [I r.every, I r.rest, .bool r.yes]
def LrsAt (w : World) (B : Nat) (A : Option Addr) (rs : List Lr) : Prop :=
  rs.length = 0 ∨ ∃ b, A = some ⟨b, 0, none⟩ ∧ b < B ∧ ∀ k x, rs[k]? = some x → w.rangeAt b (k * 3) x.cells
theorem LrsAt.keep {w w' : World} {B : Nat} {A : Option Addr} {rs : List Lr} (h : LrsAt w B A rs) (hb : Below B w w') : LrsAt w' B A rs := by
  rcases h with h | ⟨b, h1, h2, h3⟩
  · exact .inl h
  · exact .inr ⟨b, h1, h2, fun k x hx => rangeAt_keep (h3 k x hx) hb h2⟩
theorem LrsAt.more {w : World} {B B' : Nat} {A : Option Addr} {rs : List Lr} (h : LrsAt w B A rs) (hB : B ≤ B') : LrsAt w B' A rs := by
  rcases h with h | ⟨b, h1, h2, h3⟩
  · exact .inl h
  · exact .inr ⟨b, h1, by omega, h3⟩
def PerOK : Nat → List Lr → Prop
  | _, [] => True
  | y, r :: rs => ∃ e : Nat, r.every = e ∧ 1 ≤ e ∧ e ≤ 400 ∧ 0 ≤ r.rest ∧ r.rest < e ∧ 1 ≤ Nat.lcm y e ∧ Nat.lcm y e ≤ 400 ∧ PerOK (Nat.lcm y e) rs
set_option maxRecDepth 10000 in
set_option maxHeartbeats 2000000 in
theorem period_yes (A : Option Addr) (n c : Nat) (rs : List Lr) (w : World) (hA : LrsAt w w.heap.size A rs) (hl : rs.length = n) (hn : n ≤ 1000) (hp : PerOK 1 rs) :
    Calls Tryz.prog 105 #[.slice A n c] w fun e w' => (∃ y, e = .returned (.tuple #[I y, .bool true])) ∧ Below w.heap.size w w' := by
  have HA := Lib.hid hA
  have HL := Lib.hid hl
  have HP := Lib.hid hp
  clear hA hl hp
  go_enter Tryz.func105, Tryz.ntmps105
  go_wp2_with fail
  go_loopw [4, 11] (fun u i wr => ∃ k y : Nat, k ≤ n ∧ i = I k ∧ u = I y ∧ 1 ≤ y ∧ y ≤ 400 ∧ PerOK y (rs.drop k) ∧ Below w.heap.size w wr) (fun _ i _ => n - (intOf i).toNat)
  case atStart => exact ⟨0, 1, Nat.zero_le _, rfl, rfl, by omega, by omega, by simpa using HP.out, Below.refl _ _⟩
  case round =>
    obtain ⟨k, y, hk, rfl, rfl, hy1, hy2, hper, hbe⟩ := hrel
    have HBE := Lib.hid hbe
    by_cases hlt : k < n
    · have i0 : (0 : Int) ≤ (k : Int) := by omega
      have i1 : (k : Int) < (n : Int) := by omega
      have hkl : k < rs.length := by rw [HL.out]; exact hlt
      rw [List.drop_eq_getElem_cons hkl] at hper
      obtain ⟨e, he, h1, h2, h3, h4, h5, h6, h7⟩ := hper
      have hx : rs[k]? = some rs[k] := List.getElem?_eq_getElem hkl
      rcases (HA.out.keep hbe) with h | ⟨b, rfl, hb, hc⟩
      · omega
      have hr := hc k _ hx
      have hbl : b < wr.heap.size := Nat.lt_of_lt_of_le hb hbe.size
      generalize rs[k] = rk at he h3 h4 hr
      obtain ⟨ev, re, ye⟩ := rk
      simp only at he h3 h4
      subst he
      have f0 : wr.cell? ⟨b, k * 3, none⟩ = some (I e) := hr 0 _ rfl
      have f1 : wr.cell? ⟨b, k * 3 + 1, none⟩ = some (I re) := hr 1 _ rfl
      have f2 : wr.cell? ⟨b, k * 3 + 2, none⟩ = some (.bool ye) := hr 2 _ rfl
      have hne : ¬ b = wr.heap.size := by omega
      have q1 : ¬ (e : Int) < 1 := by omega
      have q2 : ¬ (400 : Int) < (e : Int) := by omega
      have q3 : ¬ re < 0 := by omega
      have q4 : ¬ (e : Int) ≤ re := by omega
      have H7 := Lib.hid h7
      have HB2 := Lib.hid (below_var wr (.cells #[I e, I re, .bool ye] 151))
      clear hr hc hx hbe h7
      go_wp2_with fail
      refine (lcm_nat y e hy1 hy2 h1 h2 _).mono ?_
      rintro x w5 ⟨rfl, hb5⟩
      have HB5 := Lib.hid (below_trans HB2.out hb5)
      obtain ⟨m, hm⟩ : ∃ m, Nat.lcm y e = m := ⟨_, rfl⟩
      rw [hm] at h5 h6 H7 ⊢
      have q5 : ¬ (400 : Int) < (m : Int) := by omega
      clear hb5 hm
      go_wp2_with fail
      go_roundw
      case rel => exact ⟨k + 1, m, by omega, by go_num, rfl, h5, h6, H7.out, below_trans HBE.out HB5.out⟩
      case measure => simp [intOf]; omega
    · clear hper hbe
      go_wp2_with fail
      go_ret2
      exact ⟨⟨_, rfl⟩, HBE.out⟩
end Go.Proofs.YtdakcbddlempfaaGreat

/- civil.Valid (where a calendar is valid). -/
namespace Go.Proofs.YtdakcbddlempfaaGreat
open Go Go.RowKit

structure Cal where
  epoch : Int
  months : List Int
  leap : Int
  rules : List Lr
structure CalOK (c : Cal) : Prop where
  ep : 0 ≤ c.epoch ∧ c.epoch ≤ 1048576
  mo : 1 ≤ c.months.length ∧ c.months.length ≤ 16
  le : 0 ≤ c.leap ∧ c.leap < c.months.length
  ru : c.rules.length ≤ 16
  all : ∀ m ∈ c.months, 1 ≤ m ∧ m ≤ 40
  per : PerOK 1 c.rules
def calCells (c : Cal) (A : Option Addr) (ca : Nat) (B : Option Addr) (cb : Nat) : Array Value := #[I c.epoch, .slice A c.months.length ca, I c.leap, .slice B c.rules.length cb]
attribute [local go_sem] calCells
set_option maxRecDepth 10000 in
set_option maxHeartbeats 2000000 in
theorem civilValid_yes (c : Cal) (A : Option Addr) (ca : Nat) (B : Option Addr) (cb : Nat) (w : World) (hA : IntsAt w w.heap.size A c.months) (hB : LrsAt w w.heap.size B c.rules) (h : CalOK c) :
    Calls Tryz.prog 85 #[.agg (calCells c A ca B cb)] w (Gives (.bool true) w) := by
  have HB0 := Lib.hid (below_var w (.cells (calCells c A ca B cb) 113))
  have HRW := Lib.hid (Row.new w (calCells c A ca B cb) 113)
  obtain ⟨ep, mo, le, ru⟩ := c
  have HPER := Lib.hid (fun w' hb => period_yes B ru.length cb ru w' ((hB.keep hb).more hb.size) rfl (by have := h.ru; simp only at this; omega) h.per)
  obtain ⟨⟨e1, e2⟩, ⟨m1, m2⟩, ⟨l1, l2⟩, r1, hall, hper⟩ := h
  simp only at e1 e2 m1 m2 l1 l2 r1 hall hA
  obtain ⟨b, off, rfl, hb, hc⟩ : ∃ b off, A = some ⟨b, off, none⟩ ∧ b < w.heap.size ∧ ∀ j, j < mo.length → w.cell? ⟨b, off + j, none⟩ = some (I (mo[j]?.getD 0)) := by
    rcases hA with h | h
    · omega
    · exact h
  have HC := Lib.hid hc
  have HALL := Lib.hid (fun k (hk : k < mo.length) => hall _ (List.getElem_mem hk))
  have q1 : ¬ ep < 0 := by omega
  have q2 : ¬ (1048576 : Int) < ep := by omega
  obtain ⟨n, hn⟩ : ∃ n, mo.length = n := ⟨_, rfl⟩
  obtain ⟨nr, hnr⟩ : ∃ nr, ru.length = nr := ⟨_, rfl⟩
  have q3 : ¬ (n : Int) < 1 := by omega
  have q4 : ¬ (16 : Int) < (n : Int) := by omega
  have q5 : ¬ le < -1 := by omega
  have q6 : ¬ (n : Int) ≤ le := by omega
  have q7 : ¬ (16 : Int) < (nr : Int) := by omega
  have q8 : (le == -1) = false := by simp; omega
  have hne : ¬ b = w.heap.size := by omega
  have HN := Lib.hid hn
  have e0 : (calCells ⟨ep, mo, le, ru⟩ (some ⟨b, off, none⟩) ca B cb) = #[I ep, .slice (some ⟨b, off, none⟩) n ca, I le, .slice B nr cb] := by rw [← hn, ← hnr]; rfl
  rw [e0] at HB0 HRW ⊢
  rw [hnr] at HPER
  clear hc hall hper hB hA e0 hn hnr
  go_enter Tryz.func85, Tryz.ntmps85
  go_wp2_with fail
  go_loopw [52] (fun i wr => ∃ k : Nat, k ≤ n ∧ i = I k ∧ wr = w.alloc (.cells #[I ep, .slice (some ⟨b, off, none⟩) n ca, I le, .slice B nr cb] 113)) (fun i _ => n - (intOf i).toNat)
  case atStart => exact ⟨0, Nat.zero_le _, rfl, rfl⟩
  case round =>
    obtain ⟨k, hk, rfl, rfl⟩ := hrel
    by_cases hlt : k < n
    · have i0 : (0 : Int) ≤ (k : Int) := by omega
      have i1 : (k : Int) < (n : Int) := by omega
      have hkm : k < mo.length := by rw [HN.out]; exact hlt
      have c1 := HC.out k hkm
      have hz := HALL.out k hkm
      rw [List.getElem?_eq_getElem hkm] at c1
      generalize mo[k] = z at c1 hz
      have c2 : w.cell? ⟨b, off + k, none⟩ = some (I z) := c1
      have q9 : ¬ z < 1 := by omega
      have q10 : ¬ (40 : Int) < z := by omega
      clear c1 hz
      go_wp2_with fail
      go_roundw
      case rel => exact ⟨k + 1, by omega, by go_num, by first | trivial | rfl⟩
      case measure => simp [intOf]; omega
    · go_wp2_with fail
      refine (HPER.out _ HB0.out).mono ?_
      rintro x w5 ⟨⟨y, rfl⟩, hb5⟩
      have HB5 := Lib.hid (below_trans HB0.out hb5)
      clear hb5
      go_wp2_with fail
      go_ret
      exact ⟨rfl, HB5.out⟩
end Go.Proofs.YtdakcbddlempfaaGreat

/- civil.Known for the three known calendars. -/
namespace Go.Proofs.YtdakcbddlempfaaGreat
open Go Go.RowKit

def solar : List Int := [31, 28, 31, 30, 31, 30, 31, 31, 30, 31, 30, 31]
def cal0 : Cal := ⟨7, solar, 1, [⟨4, 0, true⟩, ⟨100, 0, false⟩, ⟨400, 0, true⟩]⟩
def cal1 : Cal := ⟨5, solar, 1, [⟨4, 0, true⟩]⟩
def rests : List Int := [2, 5, 7, 10, 13, 16, 18, 21, 24, 26, 29]
def lunar : List Int := [30, 29, 30, 29, 30, 29, 30, 29, 30, 29, 30, 29]
def cal2 : Cal := ⟨227021, lunar, 11, rests.map fun r => ⟨30, r, true⟩⟩
theorem solar_ok : ∀ m ∈ solar, 1 ≤ m ∧ m ≤ 40 := by decide
theorem cal0_ok : CalOK cal0 := ⟨by decide, by decide, by decide, by decide, solar_ok, ⟨4, rfl, by decide, by decide, by decide, by decide, by decide, by decide, 100, rfl, by decide, by decide, by decide, by decide, by decide, by decide, 400, rfl, by decide, by decide, by decide, by decide, by decide, by decide, trivial⟩⟩
theorem cal1_ok : CalOK cal1 := ⟨by decide, by decide, by decide, by decide, solar_ok, ⟨4, rfl, by decide, by decide, by decide, by decide, by decide, by decide, trivial⟩⟩
theorem per30 : ∀ (l : List Int) (y : Nat), (y = 1 ∨ y = 30) → (∀ r ∈ l, 0 ≤ r ∧ r < 30) → PerOK y (l.map fun r => ⟨30, r, true⟩)
  | [], _, _, _ => trivial
  | r :: l, y, hy, h => by
    have hr := h r (by simp)
    have e : Nat.lcm y 30 = 30 := by rcases hy with rfl | rfl <;> decide
    exact ⟨30, rfl, by omega, by omega, hr.1, hr.2, by rw [e]; omega, by rw [e]; omega, by rw [e]; exact per30 l 30 (.inr rfl) (fun x hx => h x (by simp [hx]))⟩
theorem cal2_ok : CalOK cal2 := ⟨by decide, by decide, by decide, by decide, by decide, per30 rests 1 (.inl rfl) (by decide)⟩
/-- Rules in memory that is not older than block lo. -/
def LL (lo : Nat) (w : World) (A : Option Addr) (rs : List Lr) : Prop :=
  rs.length = 0 ∨ ∃ b, A = some ⟨b, 0, none⟩ ∧ lo ≤ b ∧ b < w.heap.size ∧ ∀ k x, rs[k]? = some x → w.rangeAt b (k * 3) x.cells
theorem LL.of_blocks {lo : Nat} {w w' : World} {A : Option Addr} {rs : List Lr} (h : LL lo w A rs) (hs : w.heap.size ≤ w'.heap.size) (hb : ∀ k, lo ≤ k → k < w.heap.size → w'.heap[k]? = w.heap[k]?) : LL lo w' A rs := by
  rcases h with h | ⟨b, hA, h1, h2, hc⟩
  · exact .inl h
  · exact .inr ⟨b, hA, h1, Nat.lt_of_lt_of_le h2 hs, fun k x hx j v hj => (World.cell?_of_block (a := ⟨b, k * 3 + j, none⟩) (hb b h1 h2)).trans (hc k x hx j v hj)⟩
theorem LL.lrs {lo : Nat} {w : World} {A : Option Addr} {rs : List Lr} (h : LL lo w A rs) : LrsAt w w.heap.size A rs := by
  rcases h with h | ⟨b, hA, h1, h2, hc⟩
  · exact .inl h
  · exact .inr ⟨b, hA, h2, hc⟩
theorem LL.lower {lo lo' : Nat} {w : World} {A : Option Addr} {rs : List Lr} (h : LL lo w A rs) (hl : lo' ≤ lo) : LL lo' w A rs := by
  rcases h with h | ⟨b, hA, h1, h2, hc⟩
  · exact .inl h
  · exact .inr ⟨b, hA, Nat.le_trans hl h1, h2, hc⟩
def KnownP (c : Cal) (w : World) (e : Ending) (w' : World) : Prop :=
  ∃ A ca B cb, e = .returned (.tuple #[.agg (calCells c A ca B cb), I 0]) ∧ LI w.heap.size w' A c.months ∧ LL w.heap.size w' B c.rules ∧ Below w.heap.size w w'
theorem ints_of_row {W : World} {lo b : Nat} {cs : Array Value} {zs : List Int} (h : Row W b cs) (hc : cs = (zs.map I).toArray) (hl : lo ≤ b) : LI lo W (some ⟨b, 0, none⟩) zs :=
  .inr ⟨b, 0, rfl, hl, h.1, fun j hj => by rw [Nat.zero_add, h.2 j, hc]; simp [hj]⟩
theorem lrs_get (rs : List Lr) (k i : Nat) (hi : i < 3) : (rs.flatMap Lr.cells)[k * 3 + i]? = (rs[k]?).bind fun x => x.cells[i]? := by
  induction rs generalizing k with
  | nil => simp
  | cons x r ih =>
    have hl : x.cells.length = 3 := rfl
    rw [List.flatMap_cons]
    cases k with
    | zero => rw [List.getElem?_append_left (by rw [hl]; omega)]; simp
    | succ k => rw [List.getElem?_append_right (by rw [hl]; omega), hl, show (k + 1) * 3 + i - 3 = k * 3 + i by omega, ih k]; simp
theorem lrs_of_row {W : World} {lo b : Nat} {cs : Array Value} {rs : List Lr} (h : Row W b cs) (hc : cs = (rs.flatMap Lr.cells).toArray) (hl : lo ≤ b) : LL lo W (some ⟨b, 0, none⟩) rs :=
  .inr ⟨b, rfl, hl, h.1, fun k x hx j v hv => by
    have hj : j < 3 := (List.getElem?_eq_some_iff.1 hv).1
    rw [h.2, hc, List.getElem?_toArray, lrs_get rs k j hj, hx]
    exact hv⟩
theorem cal_size (A B : Option Addr) (n ca m cb : Nat) (e l : Int) : (Tryz.prog.info? 113).map (·.size) = some (#[I e, .slice A n ca, I l, .slice B m cb] : Array Value).size := by kernel_rfl
theorem four (w : World) (c0 c1 c2 c3 : Array Value) (t0 t1 t2 t3 : TypeId) :
    ((((w.alloc (.cells c0 t0)).alloc (.cells c1 t1)).alloc (.cells c2 t2)).alloc (.cells c3 t3)).heap[w.heap.size]? = some (.cells c0 t0 (0, 0)) ∧
    Row ((((w.alloc (.cells c0 t0)).alloc (.cells c1 t1)).alloc (.cells c2 t2)).alloc (.cells c3 t3)) (w.heap.size + 1) c1 ∧
    ((((w.alloc (.cells c0 t0)).alloc (.cells c1 t1)).alloc (.cells c2 t2)).alloc (.cells c3 t3)).heap[w.heap.size + 1 + 1 + 1]? = some (.cells c3 t3 (0, 0)) ∧
    Row ((((w.alloc (.cells c0 t0)).alloc (.cells c1 t1)).alloc (.cells c2 t2)).alloc (.cells c3 t3)) (w.heap.size + 1 + 1 + 1) c3 ∧
    Below w.heap.size w ((((w.alloc (.cells c0 t0)).alloc (.cells c1 t1)).alloc (.cells c2 t2)).alloc (.cells c3 t3)) := by
  have b0 := below_var w (.cells c0 t0)
  have b1 := below_var (w.alloc (.cells c0 t0)) (.cells c1 t1)
  have b2 := below_var ((w.alloc (.cells c0 t0)).alloc (.cells c1 t1)) (.cells c2 t2)
  have b3 := below_var (((w.alloc (.cells c0 t0)).alloc (.cells c1 t1)).alloc (.cells c2 t2)) (.cells c3 t3)
  have r1 := Row.new (w.alloc (.cells c0 t0)) c1 t1
  have r3 := Row.new (((w.alloc (.cells c0 t0)).alloc (.cells c1 t1)).alloc (.cells c2 t2)) c3 t3
  have h3 := heap_alloc_last (((w.alloc (.cells c0 t0)).alloc (.cells c1 t1)).alloc (.cells c2 t2)) (.cells c3 t3)
  simp only [World.size_alloc] at r1 r3 h3 b1 b2 b3
  refine ⟨?_, (r1.keep (by simpa using b2)).keep (by simpa using b3), h3, r3, below_trans (below_trans (below_trans b0 (by simpa using b1)) (by simpa using b2)) (by simpa using b3)⟩
  rw [b3.block _ (by omega), b2.block _ (by omega), b1.block _ (by omega)]
  exact heap_alloc_last w _
set_option maxRecDepth 10000 in
set_option maxHeartbeats 2000000 in
theorem known0 (w : World) : Calls Tryz.prog 67 #[I 0] w (KnownP cal0 w) := by
  go_enter Tryz.func67, Tryz.ntmps67
  go_wp2_with fail
  obtain ⟨h0, r1, _, r3, hb⟩ := four w #[I 7, .slice (some ⟨w.heap.size + 1, 0, none⟩) 12 12, I 1, .slice (some ⟨w.heap.size + 1 + 1 + 1, 0, none⟩) 3 3] (solar.map I).toArray #[I 4, I 0, .bool true] (cal0.rules.flatMap Lr.cells).toArray 113 3 151 151
  refine bodyPost_ret (v := .tuple #[.agg (calCells cal0 (some ⟨w.heap.size + 1, 0, none⟩) 12 (some ⟨w.heap.size + 1 + 1 + 1, 0, none⟩) 3), I 0]) (results_row_tmp rfl _ _ w.heap.size _ #[I 7, .slice (some ⟨w.heap.size + 1, 0, none⟩) 12 12, I 1, .slice (some ⟨w.heap.size + 1 + 1 + 1, 0, none⟩) 3 3] (0, 0) _ rfl h0 Tryz.underlying113 rfl (cal_size _ _ _ _ _ _ _ _) _ rfl) rfl ?_
  exact ⟨_, _, _, _, rfl, ints_of_row r1 rfl (by omega), lrs_of_row r3 rfl (by omega), hb⟩
set_option maxRecDepth 10000 in
set_option maxHeartbeats 2000000 in
theorem known1 (w : World) : Calls Tryz.prog 67 #[I 1] w (KnownP cal1 w) := by
  go_enter Tryz.func67, Tryz.ntmps67
  go_wp2_with fail
  obtain ⟨h0, r1, _, r3, hb⟩ := four w #[I 5, .slice (some ⟨w.heap.size + 1, 0, none⟩) 12 12, I 1, .slice (some ⟨w.heap.size + 1 + 1 + 1, 0, none⟩) 1 1] (solar.map I).toArray #[I 4, I 0, .bool true] (cal1.rules.flatMap Lr.cells).toArray 113 3 151 151
  refine bodyPost_ret (v := .tuple #[.agg (calCells cal1 (some ⟨w.heap.size + 1, 0, none⟩) 12 (some ⟨w.heap.size + 1 + 1 + 1, 0, none⟩) 1), I 0]) (results_row_tmp rfl _ _ w.heap.size _ #[I 5, .slice (some ⟨w.heap.size + 1, 0, none⟩) 12 12, I 1, .slice (some ⟨w.heap.size + 1 + 1 + 1, 0, none⟩) 1 1] (0, 0) _ rfl h0 Tryz.underlying113 rfl (cal_size _ _ _ _ _ _ _ _) _ rfl) rfl ?_
  exact ⟨_, _, _, _, rfl, ints_of_row r1 rfl (by omega), lrs_of_row r3 rfl (by omega), hb⟩
end Go.Proofs.YtdakcbddlempfaaGreat

/- civil.Known for the third calendar. -/
namespace Go.Proofs.YtdakcbddlempfaaGreat
open Go Go.RowKit

theorem grown_old {W w' : World} {o : Obj} {base e size n : Nat} {v : Value} {ys : List Value} (hown : W.ownsRow base e size v n ys) (hg : (W.alloc o).grownBy w' v.ownBlock) (k : Nat) (hk : k < W.heap.size) (hkb : k < base) : w'.heap[k]? = W.heap[k]? := by
  rw [hg.block k (by simp; omega) (own_ge hown k hkb), Below.heap_alloc W o k hk]
theorem info_lr : (Tryz.prog.info? 151).map (fun i => (i.zero, i.size, i.bytes)) = some (some (.agg #[.int .i64 0, .int .i64 0, .bool false]), 3, 24) := by kernel_rfl
theorem lr_new {w : World} {t : TypeId} (x : Lr) : ∀ j u, x.cells[j]? = some u → (w.alloc (.cells x.cells.toArray t)).cell? ((⟨w.heap.size, 0, none⟩ : Addr).add j) = some u := by
  intro j u hu
  rw [addr_add, (Row.new w _ t).2 j]
  simpa using hu
theorem lr_ok (x : Lr) : ∀ u ∈ x.cells, u.oneCell' = true := by
  intro u hu
  simp [Lr.cells] at hu
  rcases hu with rfl | rfl | rfl <;> rfl
/-- append of one rule to a row of the call's own. -/
theorem wpList_app_lr {ops : Array Oper} {rest : List Oper} {o : Oper} {a : Act} {Q : Exit → Act → World → Prop} {w : World} (hgd : o.guard = none) (s x : Operand)
    (ho : o.op = .call { callee := .builtin .append, args := #[s, x], argTypes := #[111, 111] }) (base : Nat) (v : Value) (n : Nat) (xs : List Value) (hs : a.eval s = v) (hown : w.ownsRow base 151 3 v n xs) (z : Lr)
    (hx : a.eval x = .slice (some ⟨w.heap.size, 0, none⟩) 1 1) (hn : n ≤ 1000000) (hb : base ≤ w.heap.size)
    (h : ∀ v' w', w'.ownsRow base 151 3 v' (n + 1) (xs ++ z.cells) → (w.alloc (.cells z.cells.toArray 151)).grownBy w' v.ownBlock → wpList Tryz.prog ops Q rest (a.put o.dst v') w') :
    wpList Tryz.prog ops Q (o :: rest) a (w.alloc (.cells z.cells.toArray 151)) := by
  obtain ⟨i0, hi, hz0, hz1, hz2⟩ := info_parts info_lr
  refine wpList_append_own_at _ hgd s x 111 ho base 151 i0 _ 3 24 Tryz.underlying111 hi hz0 hz1 hz2 rfl (by decide) v n xs hs (hown.alloc _) ⟨w.heap.size, 0, none⟩ 1 1 z.cells hx rfl (lr_new z) (lr_ok z) (by unfold maxLen; omega) (by omega) (by simp; omega) (fun v' w' h1 h2 _ _ => h v' w' h1 h2)
def zCal : Array Value := #[I 0, .slice none 0 0, I 0, .slice none 0 0]
def vCal (A : Option Addr) (n ca : Nat) (B : Option Addr) (m cb : Nat) : Array Value := #[I 227021, .slice A n ca, I 11, .slice B m cb]
structure KS1 (w : World) (A : Option Addr) (n ca : Nat) (zs : List Int) (W : World) : Prop where
  res : W.heap[w.heap.size]? = some (.cells zCal 113 (0, 0))
  var : W.heap[w.heap.size + 3]? = some (.cells (vCal A n ca none 0 0) 113 (0, 0))
  own : W.ownsRow (w.heap.size + 4) 3 1 (.slice A n ca) n (zs.map I)
  lo : Below w.heap.size w W
  sz : w.heap.size + 4 ≤ W.heap.size
theorem KS1.grown {w W w' : World} {A : Option Addr} {n ca g cap : Nat} {zs : List Int} {z : Int} {o : Obj} (h : KS1 w A n ca zs W) (hown : w'.ownsRow (w.heap.size + 4) 3 1 (.slice (some ⟨g, 0, none⟩) (n + 1) cap) (n + 1) (zs.map I ++ [I z])) (hg : (W.alloc o).grownBy w' (Value.slice A n ca).ownBlock) :
    KS1 w (some ⟨g, 0, none⟩) (n + 1) cap (zs ++ [z]) (w'.setCell ⟨w.heap.size + 3, 1, none⟩ (.slice (some ⟨g, 0, none⟩) (n + 1) cap)) ∧ w'.heap[w.heap.size + 3]? = some (.cells (vCal A n ca none 0 0) 113 (0, 0)) := by
  have hs := h.sz
  have hB : ∀ k, k < w.heap.size + 4 → w'.heap[k]? = W.heap[k]? := fun k hk => grown_old h.own hg k (by omega) hk
  have hv := (hB (w.heap.size + 3) (by omega)).trans h.var
  have hlo : Below w.heap.size w w' := ⟨hg.os.trans h.lo.os, hg.tape.trans h.lo.tape, hg.output.trans h.lo.output, by have := hg.size; simp at this; omega, fun k hk => (hB k (by omega)).trans (h.lo.block k hk)⟩
  refine ⟨⟨?_, ?_, ?_, hlo.setCell (p := ⟨w.heap.size + 3, 1, none⟩) (by show w.heap.size ≤ w.heap.size + 3; omega) _, ?_⟩, hv⟩
  · exact (heap_setCell_other w' _ _ _ (by show w.heap.size ≠ w.heap.size + 3; omega)).trans ((hB _ (by omega)).trans h.res)
  · exact heap_setCell_same w' _ 1 _ _ _ hv
  · rw [List.map_append]
    exact ownsRow_setCell_below (a := ⟨w.heap.size + 3, 1, none⟩) hown (by show w.heap.size + 3 < _; omega) _
  · have := hg.size; simp [World.setCell] at this ⊢; omega
structure KS2 (w : World) (base mb : Nat) (X : Obj) (ca : Nat) (B : Option Addr) (m cb rb : Nat) (rs : List Lr) (W : World) : Prop where
  res : W.heap[w.heap.size]? = some (.cells zCal 113 (0, 0))
  var : W.heap[w.heap.size + 3]? = some (.cells (vCal (some ⟨mb, 0, none⟩) 12 ca B m cb) 113 (0, 0))
  mon : W.heap[mb]? = some X
  m1 : w.heap.size + 4 ≤ mb
  m2 : mb < base
  lit : W.heap[rb]? = some (.cells (rests.map I).toArray 3 (0, 0))
  r1 : w.heap.size + 4 ≤ rb
  r2 : rb < base
  own : W.ownsRow base 151 3 (.slice B m cb) m (rs.flatMap Lr.cells)
  lo : Below w.heap.size w W
  sz : base ≤ W.heap.size
theorem KS2.grown {w W w' : World} {base mb ca m cb rb g cap : Nat} {X : Obj} {B : Option Addr} {rs : List Lr} {z : Lr} {o : Obj} (h : KS2 w base mb X ca B m cb rb rs W) (hown : w'.ownsRow base 151 3 (.slice (some ⟨g, 0, none⟩) (m + 1) cap) (m + 1) (rs.flatMap Lr.cells ++ z.cells)) (hg : (W.alloc o).grownBy w' (Value.slice B m cb).ownBlock) :
    KS2 w base mb X ca (some ⟨g, 0, none⟩) (m + 1) cap rb (rs ++ [z]) (w'.setCell ⟨w.heap.size + 3, 3, none⟩ (.slice (some ⟨g, 0, none⟩) (m + 1) cap)) ∧ w'.heap[w.heap.size + 3]? = some (.cells (vCal (some ⟨mb, 0, none⟩) 12 ca B m cb) 113 (0, 0)) := by
  have hs := h.sz
  have h1 := h.m1
  have h2 := h.m2
  have h3 := h.r1
  have h4 := h.r2
  have hB : ∀ k, k < base → w'.heap[k]? = W.heap[k]? := fun k hk => grown_old h.own hg k (by omega) hk
  have hv := (hB (w.heap.size + 3) (by omega)).trans h.var
  have hlo : Below w.heap.size w w' := ⟨hg.os.trans h.lo.os, hg.tape.trans h.lo.tape, hg.output.trans h.lo.output, by have := hg.size; simp at this; omega, fun k hk => (hB k (by omega)).trans (h.lo.block k hk)⟩
  have hne : ∀ k, k ≠ w.heap.size + 3 → k < base → (w'.setCell ⟨w.heap.size + 3, 3, none⟩ (.slice (some ⟨g, 0, none⟩) (m + 1) cap)).heap[k]? = W.heap[k]? := fun k hk hb => (heap_setCell_other w' _ _ _ hk).trans (hB k hb)
  refine ⟨⟨(hne _ (by omega) (by omega)).trans h.res, heap_setCell_same w' _ 3 _ _ _ hv, (hne _ (by omega) (by omega)).trans h.mon, h.m1, h.m2, (hne _ (by omega) (by omega)).trans h.lit, h.r1, h.r2, ?_, hlo.setCell (p := ⟨w.heap.size + 3, 3, none⟩) (by show w.heap.size ≤ w.heap.size + 3; omega) _, ?_⟩, hv⟩
  · rw [List.flatMap_append, List.flatMap_cons, List.flatMap_nil, List.append_nil]
    exact ownsRow_setCell_below (a := ⟨w.heap.size + 3, 3, none⟩) hown (by show w.heap.size + 3 < _; omega) _
  · have := hg.size; simp [World.setCell] at this ⊢; omega
theorem vCal_size (A B : Option Addr) (n ca m cb : Nat) : (Tryz.prog.info? 113).map (·.size) = some (vCal A n ca B m cb).size := by kernel_rfl
theorem vCal_one (A B : Option Addr) (n ca m cb : Nat) : (vCal A n ca B m cb).all (·.oneCell') = true := by simp [vCal, Value.oneCell']
theorem zvCal (A B : Option Addr) (n ca m cb : Nat) : zCal.size = (vCal A n ca B m cb).size := rfl
theorem take_succ_get (zs : List Int) (n : Nat) (h : n < zs.length) : zs.take (n + 1) = zs.take n ++ [zs[n]?.getD 0] := by
  rw [List.take_add_one, List.getElem?_eq_getElem h]; rfl
theorem lunar_at : ∀ n : Nat, n < 12 → lunar[n]?.getD 0 = 30 - ((n : Int) % 2) := by decide
theorem known2_done {w wr : World} {base mb ca cb rb : Nat} {X : Array Value} {B : Option Addr} (HK : KS2 w base mb (.cells X 3 (0, 0)) ca B 11 cb rb cal2.rules wr) (HX : X.toList.take 12 = lunar.map I) :
    LI w.heap.size (wr.setRow w.heap.size (vCal (some ⟨mb, 0, none⟩) 12 ca B 11 cb)) (some ⟨mb, 0, none⟩) cal2.months ∧
    LL w.heap.size (wr.setRow w.heap.size (vCal (some ⟨mb, 0, none⟩) 12 ca B 11 cb)) B cal2.rules ∧
    Below w.heap.size w (wr.setRow w.heap.size (vCal (some ⟨mb, 0, none⟩) 12 ca B 11 cb)) := by
  have hm1' := HK.m1
  have hm2' := HK.m2
  have hs' := HK.sz
  have hmb := (setRow_other wr w.heap.size mb (vCal (some ⟨mb, 0, none⟩) 12 ca B 11 cb) (by omega)).trans HK.mon
  have hsz' : (wr.setRow w.heap.size (vCal (some ⟨mb, 0, none⟩) 12 ca B 11 cb)).heap.size = wr.heap.size := by simp [World.setRow]
  refine ⟨.inr ⟨mb, 0, rfl, by omega, by omega, fun j hj => ?_⟩, ?_, below_setRow HK.lo (Nat.le_refl _) _⟩
  · rw [cell_of_row _ mb _ _ _ _ hmb, Nat.zero_add]
    have h1 : (X.toList.take 12)[j]? = (lunar.map I)[j]? := by rw [HX]
    have hj' : j < 12 := hj
    rw [List.getElem?_take_of_lt hj', List.getElem?_map] at h1
    rw [← Array.getElem?_toList, h1]
    show Option.map I (lunar[j]?) = some (I (lunar[j]?.getD 0))
    rw [List.getElem?_eq_getElem (show j < lunar.length from hj)]
    rfl
  · obtain ⟨_, ⟨_, h⟩ | ⟨g, cap, cur, hv, hg, hb, _, _, _, h4⟩⟩ := HK.own
    · cases h
    · injection hv with hv _ _
      have hg' := (setRow_other wr w.heap.size g (vCal (some ⟨mb, 0, none⟩) 12 ca B 11 cb) (by omega)).trans hb
      refine .inr ⟨g, hv, by omega, by rw [hsz']; exact (Array.getElem?_eq_some_iff.1 hb).1, fun k x hx j v hj => ?_⟩
      have h5 : j < 3 := (List.getElem?_eq_some_iff.1 hj).1
      rw [cell_of_row _ g _ _ _ _ hg']
      have h6 : (cal2.rules.flatMap Lr.cells)[k * 3 + j]? = some v := by rw [lrs_get _ k j h5, hx]; exact hj
      rw [← h4, List.getElem?_take] at h6
      split at h6
      · simpa using h6
      · cases h6
attribute [local go_sem] vCal zCal
set_option maxRecDepth 10000 in
set_option maxHeartbeats 4000000 in
theorem known2 (w : World) : Calls Tryz.prog 67 #[I 2] w (KnownP cal2 w) := by
  go_enter Tryz.func67, Tryz.ntmps67
  go_wp2_with fail
  have HF := Lib.hid (four w zCal (solar.map I).toArray #[I 4, I 0, .bool true] (vCal none 0 0 none 0 0) 113 3 151 113)
  have hsz := HF.out.2.2.2.1.1
  go_loopw [32] (fun i wr => ∃ (n : Nat) (A : Option Addr) (ca : Nat), n ≤ 12 ∧ i = I n ∧ KS1 w A n ca (lunar.take n) wr) (fun i _ => 12 - (intOf i).toNat)
  case atStart => exact ⟨0, none, 0, by omega, rfl, ⟨HF.out.1, HF.out.2.2.1, World.ownsRow_nil _ _ _ _, HF.out.2.2.2.2, hsz⟩⟩
  case round =>
    obtain ⟨n, A, ca, hn, rfl, hks⟩ := hrel
    have HK := Lib.hid hks
    have c1 : wr.cell? ⟨w.heap.size + 1 + 1 + 1, 1, none⟩ = some (.slice A n ca) := cell_of_row wr _ 1 _ _ _ hks.var
    clear hks HF hsz
    by_cases hlt : (n : Int) < 12
    · have hsz := HK.out.sz
      have hm : Int.tmod (n : Int) 2 = (n : Int) % 2 := by rw [Int.tmod_eq_emod_of_nonneg (by omega)]
      obtain ⟨z, hz⟩ : ∃ z, (30 : Int) - (n : Int) % 2 = z := ⟨_, rfl⟩
      have HZ := Lib.hid hz
      have hw1 : IntKind.i64.wrap ((n : Int) % 2) = (n : Int) % 2 := by rw [IntKind.wrap_i64]; omega
      have hw2 : IntKind.i64.wrap (30 - (n : Int) % 2) = 30 - (n : Int) % 2 := by rw [IntKind.wrap_i64]; omega
      clear hz
      go_wp2_with (at_builtin; refine wpList_app_int rfl _ _ rfl (w.heap.size + 4) _ n ((lunar.take n).map I) rfl HK.out.own (30 - (n : Int) % 2) rfl (by omega) (by omega) ?_)
      intro v' w4 hown' hgrow
      rw [← List.map_take] at hown'
      obtain ⟨gg, cap, rfl⟩ := ownsRow_succ hown'
      obtain ⟨hk4, hv4⟩ := HK.out.grown hown' hgrow
      have HK4 := Lib.hid hk4
      have c4 : ∀ i, w4.cell? ⟨w.heap.size + 1 + 1 + 1, i, none⟩ = (vCal A n ca none 0 0)[i]? := fun i => cell_of_row w4 _ i _ _ _ hv4
      have f4 : ∀ i, w4.frozen? ⟨w.heap.size + 1 + 1 + 1, i, none⟩ = false := fun i => frozen_of_row w4 _ i _ _ hv4
      clear hown' hgrow hk4 hv4 c1
      go_wp2_with fail
      go_roundw
      case rel => exact ⟨n + 1, some ⟨gg, 0, none⟩, cap, by omega, by go_num, by rw [take_succ_get lunar n (by show n < 12; omega), lunar_at n (by omega)]; exact HK4.out⟩
      case measure => simp [intOf]; omega
    · have HK : Hid (KS1 w A 12 ca lunar wr) := Lib.hid (by
        have hn12 : n = 12 := by omega
        have := HK.out
        rw [hn12] at this
        exact this)
      obtain ⟨mb, rfl, hm1, X, hmX, hXc⟩ : ∃ mb, A = some ⟨mb, 0, none⟩ ∧ w.heap.size + 4 ≤ mb ∧ ∃ cur, wr.heap[mb]? = some (.cells cur 3 (0, 0)) ∧ cur.toList.take 12 = lunar.map I := by
        obtain ⟨_, ⟨_, h⟩ | ⟨g, cap, cur, hv, hg, hb, _, _, _, h4⟩⟩ := HK.out.own
        · cases h
        · injection hv with hv _ _
          exact ⟨g, hv, hg, cur, hb, h4⟩
      have HX := Lib.hid hXc
      have HS2 : Hid (KS2 w (wr.heap.size + 1) mb (.cells X 3 (0, 0)) ca none 0 0 wr.heap.size [] (wr.alloc (.cells (rests.map I).toArray 3))) := Lib.hid (by
        have hb := below_var wr (.cells (rests.map I).toArray 3)
        have hs := HK.out.sz
        have hml : mb < wr.heap.size := (Array.getElem?_eq_some_iff.1 hmX).1
        exact ⟨(hb.block _ (by omega)).trans HK.out.res, (hb.block _ (by omega)).trans HK.out.var, (hb.block _ hml).trans hmX, hm1, by omega, heap_alloc_last wr _, by omega, by omega, World.ownsRow_nil _ _ _ _, below_trans HK.out.lo hb, by simp⟩)
      clear hXc hmX c1
      go_wp2_with fail
      obtain ⟨rb, hrb⟩ : ∃ rb, wr.heap.size = rb := ⟨_, rfl⟩
      rw [hrb] at HS2 ⊢
      clear HK hrb
      go_loopw [46] (fun i wr => ∃ (m : Nat) (B : Option Addr) (cb : Nat), m ≤ 11 ∧ i = I m ∧ KS2 w (rb + 1) mb (.cells X 3 (0, 0)) ca B m cb rb ((rests.take m).map fun r => ⟨30, r, true⟩) wr) (fun i _ => 11 - (intOf i).toNat)
      case atStart => exact ⟨0, none, 0, by omega, rfl, HS2.out⟩
      case round =>
        obtain ⟨m, B, cb, hm, rfl, hks⟩ := hrel
        have HK := Lib.hid hks
        have c1 : ∀ i, wr.cell? ⟨w.heap.size + 1 + 1 + 1, i, none⟩ = (vCal (some ⟨mb, 0, none⟩) 12 ca B m cb)[i]? := fun i => cell_of_row wr _ i _ _ _ hks.var
        clear hks HS2
        by_cases hlt : (m : Int) < 11
        · have hsz := HK.out.sz
          have i0 : (0 : Int) ≤ (m : Int) := by omega
          obtain ⟨r, hr⟩ : ∃ r, rests[m]?.getD 0 = r := ⟨_, rfl⟩
          have c2 : wr.cell? ⟨rb, m, none⟩ = some (I r) := by
            rw [cell_of_row wr _ m _ _ _ HK.out.lit, ← hr]
            have : m < rests.length := by show m < 11; omega
            simp [this]
          have HRR := Lib.hid hr
          clear hr
          go_wp2_with (at_builtin; refine wpList_app_lr rfl _ _ rfl (rb + 1) _ m _ rfl HK.out.own ⟨30, r, true⟩ rfl (by omega) (by omega) ?_)
          intro v' w4 hown' hgrow
          rw [← List.map_take] at hown'
          obtain ⟨gg, cap, rfl⟩ := ownsRow_succ hown'
          obtain ⟨hk4, hv4⟩ := HK.out.grown hown' hgrow
          have HK4 := Lib.hid hk4
          have c4 : ∀ i, w4.cell? ⟨w.heap.size + 1 + 1 + 1, i, none⟩ = (vCal (some ⟨mb, 0, none⟩) 12 ca B m cb)[i]? := fun i => cell_of_row w4 _ i _ _ _ hv4
          have f4 : ∀ i, w4.frozen? ⟨w.heap.size + 1 + 1 + 1, i, none⟩ = false := fun i => frozen_of_row w4 _ i _ _ hv4
          clear hown' hgrow hk4 hv4 c1
          go_wp2_with fail
          go_roundw
          case rel => exact ⟨m + 1, some ⟨gg, 0, none⟩, cap, by omega, by go_num, by rw [take_succ_get rests m (by show m < 11; omega), HRR.out, List.map_append]; exact HK4.out⟩
          case measure => simp [intOf]; omega
        · have hm11 : m = 11 := by omega
          subst hm11
          go_wp2_with (with_reducible refine g_store 113 ?_; refine wpList_store_row rfl _ _ _ rfl w.heap.size (vCal (some ⟨mb, 0, none⟩) 12 ca B 11 cb) rfl rfl 113 zCal HK.out.res (vCal_size _ _ _ _ _ _) (zvCal _ _ _ _ _ _) (vCal_one _ _ _ _ _ _) ?_)
          refine bodyPost_ret (v := .tuple #[.agg (calCells cal2 (some ⟨mb, 0, none⟩) ca B cb), I 0]) (results_row_tmp rfl _ _ w.heap.size _ (vCal (some ⟨mb, 0, none⟩) 12 ca B 11 cb) (0, 0) _ rfl (setRow_heap _ _ _ _ _ _ HK.out.res) Tryz.underlying113 rfl (vCal_size _ _ _ _ _ _) _ rfl) rfl ?_
          obtain ⟨e1, e2, e3⟩ := known2_done HK.out HX.out
          exact ⟨_, _, _, _, rfl, e1, e2, e3⟩
end Go.Proofs.YtdakcbddlempfaaGreat

/- letter.calendars. -/
namespace Go.Proofs.YtdakcbddlempfaaGreat
open Go Go.RowKit

structure CalV where
  c : Cal
  A : Option Addr
  ca : Nat
  B : Option Addr
  cb : Nat
def CalV.cells (x : CalV) : List Value := (calCells x.c x.A x.ca x.B x.cb).toList
def zCal3 : Array Value := #[I 0, .slice none 0 0, I 0, .slice none 0 0, I 0, .slice none 0 0, I 0, .slice none 0 0, I 0, .slice none 0 0, I 0, .slice none 0 0]
theorem make_cals (W : World) : (Instr.makeSlice 78 (.int .i64 3) (.int .i64 3)).run Tryz.prog W = .ok (.slice (some ⟨W.heap.size, 0, none⟩) 3 3) (W.alloc (.cells zCal3 113)) := by
  have h0 : (Tryz.prog.info? 113).map (fun i => (i.zero, i.size, i.bytes)) = some (some (.agg zCal), 4, 64) := by kernel_rfl
  obtain ⟨i, hi, he⟩ := Option.map_eq_some_iff.1 h0
  simp only [Prod.mk.injEq] at he
  obtain ⟨hz, hs, hb⟩ := he
  have h := run_make (P := Tryz.prog) W 78 113 i (.agg zCal) Tryz.underlying78 hi hz .i64 .i64 3 3 (by omega) (by omega) (by rw [hb]; omega) (by omega)
  have e : madeCells (Value.agg zCal).cells (Int.toNat 3 * 4) = zCal3 := by kernel_rfl
  rw [h, hs, e]
  rfl
/-- The calendars' row: those that are laid, and zeros. -/
structure CS (w : World) (k : Nat) (xs : List CalV) (W : World) : Prop where
  row : W.heap[w.heap.size]? = some (.cells (xs.flatMap CalV.cells ++ (List.replicate (3 - k) zCal.toList).flatten).toArray 113 (0, 0))
  len : xs.length = k
  mem : ∀ x ∈ xs, LI (w.heap.size + 1) W x.A x.c.months ∧ LL (w.heap.size + 1) W x.B x.c.rules ∧ CalOK x.c
  lo : Below w.heap.size w W
  sz : w.heap.size + 1 ≤ W.heap.size
def CalsP (w : World) (e : Ending) (w' : World) : Prop := ∃ xs, e = .returned (.slice (some ⟨w.heap.size, 0, none⟩) 3 3) ∧ CS w 3 xs w'
theorem known_any (k : Nat) (hk : k < 3) (w : World) : ∃ c, CalOK c ∧ Calls Tryz.prog 67 #[I k] w (KnownP c w) := by
  have h : k = 0 ∨ k = 1 ∨ k = 2 := by omega
  rcases h with rfl | rfl | rfl
  · exact ⟨cal0, cal0_ok, known0 w⟩
  · exact ⟨cal1, cal1_ok, known1 w⟩
  · exact ⟨cal2, cal2_ok, known2 w⟩
theorem CS.grow {w W W' : World} {k : Nat} {xs : List CalV} (h : CS w k xs W) (hb : Below W.heap.size W W') : CS w k xs W' :=
  ⟨(hb.block _ (by have := h.sz; omega)).trans h.row, h.len, fun x hx => ⟨(h.mem x hx).1.of_blocks hb.size fun k _ h2 => hb.block k h2, (h.mem x hx).2.1.of_blocks hb.size fun k _ h2 => hb.block k h2, (h.mem x hx).2.2⟩, below_trans h.lo hb, by have := h.sz; have := hb.size; omega⟩
theorem flat_len (xs : List CalV) : (xs.flatMap CalV.cells).length = xs.length * 4 := by
  induction xs with
  | nil => rfl
  | cons x r ih => rw [List.flatMap_cons, List.length_append, ih]; show 4 + _ = _; simp; omega
theorem CS.at {w W : World} {k : Nat} {xs : List CalV} (h : CS w k xs W) (hk : k < 3) (j : Nat) (hj : j < 4) : ∃ v, W.cell? ⟨w.heap.size, k * 4 + j, none⟩ = some v := by
  rw [cell_of_row W _ _ _ _ _ h.row]
  have hl : (xs.flatMap CalV.cells).length = k * 4 := by rw [flat_len, h.len]
  have hz : ((List.replicate (3 - k) zCal.toList).flatten).length = (3 - k) * 4 := by simp [zCal]
  exact ⟨_, Array.getElem?_eq_getElem (by simp only [List.size_toArray, List.length_append, hl, hz]; omega)⟩
theorem CS.froz {w W : World} {k : Nat} {xs : List CalV} (h : CS w k xs W) (j : Nat) : W.frozen? ⟨w.heap.size, j, none⟩ = false := frozen_of_row W _ j _ _ h.row
theorem set4 (pre rest : List Value) (n : Nat) (hn : pre.length = n) (z0 z1 z2 z3 a b c d : Value) :
    (((((pre ++ ([z0, z1, z2, z3] ++ rest)).toArray.setIfInBounds n a).setIfInBounds (n + 1) b).setIfInBounds (n + 2) c).setIfInBounds (n + 3) d) = (pre ++ [a, b, c, d] ++ rest).toArray := by
  subst hn
  apply Array.ext'
  simp
theorem CS.put {w W : World} {k : Nat} {xs : List CalV} (h : CS w k xs W) (hk : k < 3) (x : CalV) (hm : LI (w.heap.size + 1) W x.A x.c.months ∧ LL (w.heap.size + 1) W x.B x.c.rules ∧ CalOK x.c) :
    CS w (k + 1) (xs ++ [x]) ((((W.setCell ⟨w.heap.size, k * 4, none⟩ (I x.c.epoch)).setCell ⟨w.heap.size, k * 4 + 1, none⟩ (.slice x.A x.c.months.length x.ca)).setCell ⟨w.heap.size, k * 4 + 2, none⟩ (I x.c.leap)).setCell ⟨w.heap.size, k * 4 + 3, none⟩ (.slice x.B x.c.rules.length x.cb)) := by
  have hl : (xs.flatMap CalV.cells).length = k * 4 := by rw [flat_len, h.len]
  have hrep : (List.replicate (3 - k) zCal.toList).flatten = [I 0, .slice none 0 0, I 0, .slice none 0 0] ++ (List.replicate (3 - (k + 1)) zCal.toList).flatten := by
    rw [show 3 - k = (3 - (k + 1)) + 1 by omega, List.replicate_succ, List.flatten_cons]; rfl
  have h1 := heap_setCell_same W _ (k * 4) _ _ (I x.c.epoch) h.row
  have h2 := heap_setCell_same _ _ (k * 4 + 1) _ _ (.slice x.A x.c.months.length x.ca) h1
  have h3 := heap_setCell_same _ _ (k * 4 + 2) _ _ (I x.c.leap) h2
  have h4 := heap_setCell_same _ _ (k * 4 + 3) _ _ (.slice x.B x.c.rules.length x.cb) h3
  have hother : ∀ b, b ≠ w.heap.size → ((((W.setCell ⟨w.heap.size, k * 4, none⟩ (I x.c.epoch)).setCell ⟨w.heap.size, k * 4 + 1, none⟩ (.slice x.A x.c.months.length x.ca)).setCell ⟨w.heap.size, k * 4 + 2, none⟩ (I x.c.leap)).setCell ⟨w.heap.size, k * 4 + 3, none⟩ (.slice x.B x.c.rules.length x.cb)).heap[b]? = W.heap[b]? := fun b hb => by
    rw [heap_setCell_other _ _ _ _ hb, heap_setCell_other _ _ _ _ hb, heap_setCell_other _ _ _ _ hb, heap_setCell_other _ _ _ _ hb]
  have hsz : ((((W.setCell ⟨w.heap.size, k * 4, none⟩ (I x.c.epoch)).setCell ⟨w.heap.size, k * 4 + 1, none⟩ (.slice x.A x.c.months.length x.ca)).setCell ⟨w.heap.size, k * 4 + 2, none⟩ (I x.c.leap)).setCell ⟨w.heap.size, k * 4 + 3, none⟩ (.slice x.B x.c.rules.length x.cb)).heap.size = W.heap.size := by simp [World.setCell]
  have hlo := (((h.lo.setCell (p := ⟨w.heap.size, k * 4, none⟩) (Nat.le_refl _) (I x.c.epoch)).setCell (p := ⟨w.heap.size, k * 4 + 1, none⟩) (Nat.le_refl _) (.slice x.A x.c.months.length x.ca)).setCell (p := ⟨w.heap.size, k * 4 + 2, none⟩) (Nat.le_refl _) (I x.c.leap)).setCell (p := ⟨w.heap.size, k * 4 + 3, none⟩) (Nat.le_refl _) (.slice x.B x.c.rules.length x.cb)
  have hmem : ∀ y : CalV, LI (w.heap.size + 1) W y.A y.c.months ∧ LL (w.heap.size + 1) W y.B y.c.rules ∧ CalOK y.c → LI (w.heap.size + 1) _ y.A y.c.months ∧ LL (w.heap.size + 1) _ y.B y.c.rules ∧ CalOK y.c := fun y hy =>
    ⟨hy.1.of_blocks (by rw [hsz]; exact Nat.le_refl _) fun b hb _ => hother b (by omega), hy.2.1.of_blocks (by rw [hsz]; exact Nat.le_refl _) fun b hb _ => hother b (by omega), hy.2.2⟩
  refine ⟨?_, by rw [List.length_append, h.len]; rfl, fun y hy => ?_, hlo, by rw [hsz]; exact h.sz⟩
  · rw [h4, hrep, set4 _ _ _ hl]
    rw [List.flatMap_append, List.flatMap_cons, List.flatMap_nil, List.append_nil]
    rfl
  · rcases List.mem_append.1 hy with hy | hy
    · exact hmem y (h.mem y hy)
    · rw [List.mem_singleton.1 hy]; exact hmem x hm
set_option maxRecDepth 10000 in
set_option maxHeartbeats 2000000 in
theorem calendars_any (w : World) : Calls Tryz.prog 43 #[] w (CalsP w) := by
  have hmk := make_cals w
  have HC0 : Hid (CS w 0 [] (w.alloc (.cells zCal3 113))) := Lib.hid ⟨heap_alloc_last w _, rfl, (fun x hx => nomatch hx), below_var w _, by simp⟩
  go_enter Tryz.func43, Tryz.ntmps43
  go_wp2_with fail
  go_loopw [6] (fun i wr => ∃ (k : Nat) (xs : List CalV), k ≤ 3 ∧ i = I k ∧ CS w k xs wr) (fun i _ => 3 - (intOf i).toNat)
  case atStart => exact ⟨0, [], by omega, rfl, HC0.out⟩
  case round =>
    obtain ⟨k, xs, hk, rfl, hcs⟩ := hrel
    have HC := Lib.hid hcs
    clear hcs HC0 hmk
    by_cases hlt : (k : Int) < 3
    · have i0 : (0 : Int) ≤ (k : Int) := by omega
      obtain ⟨c, hok, hkn⟩ := known_any k (by omega) wr
      have HOK := Lib.hid hok
      have HKN := Lib.hid hkn
      clear hok hkn
      go_wp2_with fail
      refine HKN.out.mono ?_
      rintro e w2 ⟨A, ca, B, cb, rfl, hA, hB, hb2⟩
      have hsz := HC.out.sz
      have HC2 := Lib.hid (HC.out.grow hb2)
      have HC3 := Lib.hid (HC2.out.put (by omega) ⟨c, A, ca, B, cb⟩ ⟨hA.lower hsz, hB.lower hsz, HOK.out⟩)
      obtain ⟨v0, c0⟩ := HC2.out.at (by omega) 0 (by omega)
      obtain ⟨v1, c1⟩ := HC2.out.at (by omega) 1 (by omega)
      obtain ⟨v2, c2⟩ := HC2.out.at (by omega) 2 (by omega)
      obtain ⟨v3, c3⟩ := HC2.out.at (by omega) 3 (by omega)
      have hf := HC2.out.froz
      have c0' : w2.cell? ⟨w.heap.size, k * 4, none⟩ = some v0 := c0
      have e0 : calCells c A ca B cb = #[I c.epoch, .slice A c.months.length ca, I c.leap, .slice B c.rules.length cb] := rfl
      rw [e0]
      clear hA hB hb2 c0 e0
      go_wp2_with fail
      go_roundw
      case rel => exact ⟨k + 1, _, by omega, by go_num, HC3.out⟩
      case measure => simp [intOf]; omega
    · have HC' : Hid (CS w 3 xs wr) := Lib.hid (by
        have hk3 : k = 3 := by omega
        have := HC.out
        rw [hk3] at this
        exact this)
      go_wp2_with fail
      go_ret
      exact ⟨xs, rfl, HC'.out⟩
end Go.Proofs.YtdakcbddlempfaaGreat

/- rule.Valid, where the rule is valid. -/
namespace Go.Proofs.YtdakcbddlempfaaGreat
open Go Go.RowKit

def CalsAt (w : World) (B cb : Nat) (xs : List CalV) : Prop :=
  xs.length = 3 ∧ cb < B ∧ ∀ k x, xs[k]? = some x → w.rangeAt cb (k * 4) x.cells ∧ IntsAt w B x.A x.c.months ∧ LrsAt w B x.B x.c.rules ∧ CalOK x.c
theorem CalsAt.keep {w w' : World} {B cb : Nat} {xs : List CalV} (h : CalsAt w B cb xs) (hb : Below B w w') : CalsAt w' B cb xs :=
  ⟨h.1, h.2.1, fun k x hx => ⟨rangeAt_keep (h.2.2 k x hx).1 hb h.2.1, (h.2.2 k x hx).2.1.keep hb, (h.2.2 k x hx).2.2.1.keep hb, (h.2.2 k x hx).2.2.2⟩⟩
theorem CalsAt.more {w : World} {B B' cb : Nat} {xs : List CalV} (h : CalsAt w B cb xs) (hB : B ≤ B') : CalsAt w B' cb xs :=
  ⟨h.1, by have := h.2.1; omega, fun k x hx => ⟨(h.2.2 k x hx).1, (h.2.2 k x hx).2.1.more hB, (h.2.2 k x hx).2.2.1.more hB, (h.2.2 k x hx).2.2.2⟩⟩
theorem flat_get (xs : List CalV) (k i : Nat) (hi : i < 4) : (xs.flatMap CalV.cells)[k * 4 + i]? = (xs[k]?).bind fun x => x.cells[i]? := by
  induction xs generalizing k with
  | nil => simp
  | cons x r ih =>
    have hl : x.cells.length = 4 := rfl
    rw [List.flatMap_cons]
    cases k with
    | zero => rw [List.getElem?_append_left (by rw [hl]; omega)]; simp
    | succ k => rw [List.getElem?_append_right (by rw [hl]; omega), hl, show (k + 1) * 4 + i - 4 = k * 4 + i by omega, ih k]; simp
theorem CS.cals {w W : World} {xs : List CalV} (h : CS w 3 xs W) : CalsAt W W.heap.size w.heap.size xs := by
  refine ⟨h.len, by have := h.sz; omega, fun k x hx => ⟨fun j v hv => ?_, (h.mem x (List.mem_of_getElem? hx)).1.ints, (h.mem x (List.mem_of_getElem? hx)).2.1.lrs, (h.mem x (List.mem_of_getElem? hx)).2.2⟩⟩
  have hj : j < 4 := (List.getElem?_eq_some_iff.1 hv).1
  rw [cell_of_row W _ _ _ _ _ h.row, List.getElem?_toArray]
  have h1 : (xs.flatMap CalV.cells)[k * 4 + j]? = some v := by rw [flat_get xs k j hj, hx]; exact hv
  rw [List.getElem?_append_left (List.getElem?_eq_some_iff.1 h1).1]
  exact h1
/-- A rule that is valid. -/
structure RuleOK (ns : List NdV) : Prop where
  n1 : 1 ≤ ns.length
  n64 : ns.length ≤ 64
  nodes : ∀ i x, ns[i]? = some x → NodeOK i x.d.kind.toNat x.d
  uses : ∀ j, j + 1 < ns.length → (usesTo (ns.map (·.d)) ns.length ns.length)[j]? = some 1
theorem NodeOK.small {i k : Nat} {d : Nd} (h : NodeOK i k d) : d.list.length ≤ 64 ∧ d.name.size ≤ 32 := by
  refine ⟨h.len, ?_⟩
  rcases h.name with ⟨_, j, hj, hn⟩ | ⟨_, hn⟩
  · rw [hn]; rcases hj with rfl | rfl <;> decide
  · rw [hn]; decide
set_option maxRecDepth 10000 in
set_option maxHeartbeats 2000000 in
theorem ruleValid_yes (A : Option Addr) (n c cb cc : Nat) (ns : List NdV) (xs : List CalV) (w : World) (hA : RulesAt w w.heap.size A ns) (hl : ns.length = n) (hok : RuleOK ns) (hc : CalsAt w w.heap.size cb xs) :
    Calls Tryz.prog 65 #[.slice A n c, .slice (some ⟨cb, 0, none⟩) 3 cc] w (Gives (I 0) w) := by
  have HA := Lib.hid hA
  have HL := Lib.hid hl
  have HOK := Lib.hid hok
  have HCA := Lib.hid hc
  have h64 : n ≤ 64 := by rw [← hl]; exact hok.n64
  have h65 : ¬ (64 : Int) < (n : Int) := by omega
  have HBIG := Lib.hid (hasBig A n c ns w hA hl (by omega) (fun x hx => by
    obtain ⟨i, hi⟩ := List.getElem?_of_mem hx
    exact (hok.nodes i x hi).small))
  have HWF := Lib.hid (fun w' (hb : Below w.heap.size w w') => wellFormed_yes A n c ns w' ((hA.keep hb).more hb.size) hl (by rw [← hl]; exact hok.n1) h64 hok.nodes _ rfl (fun j hj => by have := hok.uses j (by rw [hl]; exact hj); rw [hl] at this; exact this))
  clear hA hl hok hc
  go_enter Tryz.func65, Tryz.ntmps65
  go_wp2_with fail
  refine HBIG.out.mono ?_
  rintro e w1 ⟨rfl, hb1⟩
  have HB1 := Lib.hid hb1
  clear hb1 HBIG
  go_wp2_with fail
  refine (HWF.out _ HB1.out).mono ?_
  rintro e w2 ⟨rfl, hb2⟩
  have HB2 := Lib.hid (below_trans HB1.out hb2)
  clear hb2 HWF HB1
  go_wp2_with fail
  go_loopw [29] (fun i wr => ∃ k : Nat, k ≤ 3 ∧ i = I k ∧ Below w.heap.size w wr) (fun i _ => 3 - (intOf i).toNat)
  case atStart => exact ⟨0, by omega, rfl, HB2.out⟩
  case round =>
    obtain ⟨k, hk, rfl, hbe⟩ := hrel
    have HBE := Lib.hid hbe
    clear hbe HB2
    by_cases hlt : (k : Int) < 3
    · have i0 : (0 : Int) ≤ (k : Int) := by omega
      have hc := HCA.out.keep HBE.out
      obtain ⟨x, hx⟩ : ∃ x, xs[k]? = some x := ⟨_, List.getElem?_eq_getElem (by rw [hc.1]; omega)⟩
      obtain ⟨hr, hi, hlr, hco⟩ := hc.2.2 k x hx
      have hbl : cb < wr.heap.size := Nat.lt_of_lt_of_le hc.2.1 HBE.out.size
      have f0 : wr.cell? ⟨cb, k * 4, none⟩ = some (I x.c.epoch) := hr 0 _ rfl
      have f1 : wr.cell? ⟨cb, k * 4 + 1, none⟩ = some (.slice x.A x.c.months.length x.ca) := hr 1 _ rfl
      have f2 : wr.cell? ⟨cb, k * 4 + 2, none⟩ = some (I x.c.leap) := hr 2 _ rfl
      have f3 : wr.cell? ⟨cb, k * 4 + 3, none⟩ = some (.slice x.B x.c.rules.length x.cb) := hr 3 _ rfl
      have hne : ¬ cb = wr.heap.size := by omega
      have HBV := Lib.hid (below_var wr (.cells (calCells x.c x.A x.ca x.B x.cb) 113))
      have hbs := HBE.out.size
      have HCV := Lib.hid (civilValid_yes x.c x.A x.ca x.B x.cb _ (((hi.more hbs).keep HBV.out).more HBV.out.size) (((hlr.more hbs).keep HBV.out).more HBV.out.size) hco)
      clear hr hi hlr hco hc hx
      go_wp2_with fail
      refine HCV.out.mono ?_
      rintro e w5 ⟨rfl, hb5⟩
      have HB5 := Lib.hid (below_trans HBV.out hb5)
      clear hb5
      go_wp2_with fail
      go_roundw
      case rel => exact ⟨k + 1, by omega, by go_num, below_trans HBE.out HB5.out⟩
      case measure => simp [intOf]; omega
    · go_wp2_with fail
      refine (shapes_any _).mono ?_
      rintro e w3 ⟨rfl, hb3⟩
      have HB3 := Lib.hid (below_trans (below_trans HBE.out hb3) (below_var w3 (.cells shC 146)))
      have HT3 := Lib.hid (Row.new w3 shC 146)
      have hsb : w.heap.size ≤ w3.heap.size := Nat.le_trans HBE.out.size hb3.size
      clear hb3
      go_wp2_with (refine wpList_var_row rfl rfl _ _ _ rfl rfl rfl rfl _ shC sh_info' rfl rfl rfl sh_one ?_)
      obtain ⟨tb, htb⟩ : ∃ tb, w3.heap.size = tb := ⟨_, rfl⟩
      rw [htb] at HT3 hsb ⊢
      clear htb
      go_loopw [40] (fun i wr => ∃ j : Nat, j ≤ n ∧ i = I j ∧ Below w.heap.size w wr ∧ Row wr tb shC) (fun i _ => n - (intOf i).toNat)
      case atStart => exact ⟨0, by omega, rfl, HB3.out, HT3.out⟩
      case round =>
        obtain ⟨j, hj, rfl, hbj, hrj⟩ := hrel
        have HBJ := Lib.hid hbj
        have HRJ := Lib.hid hrj
        clear hbj hrj HB3 HT3
        by_cases hlt2 : (j : Int) < (n : Int)
        · have i0 : (0 : Int) ≤ (j : Int) := by omega
          obtain ⟨b, ⟨⟨kind, cal, l, r, nn, m, list, name⟩, A', c'⟩, rfl, hx, hm, ho⟩ := one_nd (k := j) HA.out HL.out HBJ.out (by omega)
          have hN := HOK.out.nodes j _ hx
          obtain ⟨f0, f1, f2, f3, f4, f5, f6, f7⟩ := ho.cells
          simp only at hN f0 f1 f2 f3 f4 f5 f6 f7
          obtain ⟨kd, hkd⟩ : ∃ kd, kind.toNat = kd := ⟨_, rfl⟩
          rw [hkd] at hN
          have hkk : kind = (kd : Int) := hN.kind
          subst hkk
          have hk1 := hN.k1
          have hk2 := hN.k2
          have hbl := ho.la
          obtain ⟨_, t1, _, _⟩ := shC_at kd (by omega)
          rw [← HRJ.out.2] at t1
          have htl := HRJ.out.1
          have hne1 : ¬ b = wr.heap.size := by omega
          have hne2 : ¬ tb = wr.heap.size := by omega
          have HBV := Lib.hid (below_var wr (.cells #[I kd, I cal, I l, I r, I nn, I m, .slice A' list.length c', .string name] 87))
          have hcal := hN.cal
          simp only at hcal
          clear hN ho hx hm hkd
          rcases hcal with ⟨hcb, hc1, hc2⟩ | ⟨hcb, hc0⟩
          · rw [hcb] at t1
            have hc3 : ¬ (3 : Int) ≤ cal := by omega
            go_wp2_with fail
            go_roundw
            case rel => exact ⟨j + 1, by omega, by go_num, below_trans HBJ.out HBV.out, HRJ.out.keep HBV.out⟩
            case measure => simp [intOf]; omega
          · rw [hcb] at t1
            clear hc0 hcb
            go_wp2_with fail
            go_roundw
            case rel => exact ⟨j + 1, by omega, by go_num, below_trans HBJ.out HBV.out, HRJ.out.keep HBV.out⟩
            case measure => simp [intOf]; omega
        · go_wp2_with fail
          go_ret
          exact ⟨rfl, HBJ.out⟩
end Go.Proofs.YtdakcbddlempfaaGreat

/- slices.Clone of numbers, rule.add of a leaf; the map of rule.Part. -/
namespace Go.Proofs.YtdakcbddlempfaaGreat
open Go Go.RowKit Go.WideShapes

theorem own_none (w : World) : (w.alloc (.cells #[] 3)).ownsRow w.heap.size 3 1 (.slice (some ⟨w.heap.size, 0, none⟩) 0 0) 0 [] :=
  ⟨rfl, .inr ⟨w.heap.size, 0, #[], rfl, Nat.le_refl _, heap_alloc_last w _, Nat.le_refl _, Nat.zero_le _, rfl, rfl⟩⟩
/-- Some slice of n elements, in memory of the call's own. -/
def SomeSl (n : Nat) (w : World) (e : Ending) (w' : World) : Prop := ∃ A c, e = .returned (.slice A n c) ∧ Below w.heap.size w w'
theorem below_grown {w W w' : World} {base e size n : Nat} {v : Value} {ys : List Value} (hb : Below base w W) (hown : W.ownsRow base e size v n ys) (hle : base ≤ W.heap.size) (hg : W.grownBy w' v.ownBlock) : Below base w w' :=
  ⟨hg.os.trans hb.os, hg.tape.trans hb.tape, hg.output.trans hb.output, Nat.le_trans hb.size hg.size, fun k hk => (hg.block k (by omega) (own_ge hown k hk)).trans (hb.block k hk)⟩
set_option maxRecDepth 10000 in
set_option maxHeartbeats 2000000 in
theorem clone_any (A : Option Addr) (n c : Nat) (zs : List Int) (w : World) (hA : IntsAt w w.heap.size A zs) (hl : zs.length = n) (hn : n ≤ 1000) : Calls Tryz.prog 112 #[.slice A n c] w (SomeSl n w) := by
  cases A with
  | none =>
    have h0 : n = 0 := by
      rcases hA with h | ⟨b, off, h, _⟩
      · omega
      · cases h
    subst h0
    have heq : ∀ W, (binOp .eql 22 (.slice none 0 c) (.slice none 0 0)).run Tryz.prog W = .ok (.bool true) W := fun W => by simp [binOp, run_equal_slice_nil W 22 3 none 0 c Tryz.underlying22]
    go_enter Tryz.func112, Tryz.ntmps112
    go_wp2
    go_ret
    exact ⟨_, _, rfl, Below.refl _ _⟩
  | some a =>
    have HN : Hid (∀ j u, (zs.map I)[j]? = some u → (w.alloc (.cells #[] 3)).cell? (a.add j) = some u) := Lib.hid fun j u hu => by
      rcases hA with h | ⟨b, off, h, hb, hc⟩
      · rw [List.eq_nil_of_length_eq_zero h] at hu; cases hu
      · injection h with h
        subst h
        rw [List.getElem?_map] at hu
        obtain ⟨z, hz, rfl⟩ := Option.map_eq_some_iff.1 hu
        have hj : j < zs.length := (List.getElem?_eq_some_iff.1 hz).1
        rw [add_plain, World.cell?_of_block (Below.heap_alloc w _ b hb), hc j hj, hz]; rfl
    have HO := Lib.hid (own_none w)
    have HL := Lib.hid hl
    have HB := Lib.hid (below_var w (.cells #[] 3))
    obtain ⟨i0, hi, hz0, hz1, hz2⟩ := info_parts info_int
    have HI := Lib.hid hi
    have HZ0 := Lib.hid hz0
    have HZ1 := Lib.hid hz1
    have HZ2 := Lib.hid hz2
    have heq : ∀ W, (binOp .eql 22 (.slice (some a) n c) (.slice none 0 0)).run Tryz.prog W = .ok (.bool false) W := fun W => by simp [binOp, run_equal_slice_nil W 22 3 (some a) n c Tryz.underlying22]
    clear hA hl hi hz0 hz1 hz2
    go_enter Tryz.func112, Tryz.ntmps112
    go_wp2_with (at_builtin; refine wpList_append_own_at _ rfl _ _ 22 rfl w.heap.size 3 i0 (.int .i64 0) 1 8 Tryz.underlying22 HI.out HZ0.out HZ1.out HZ2.out rfl (by decide) _ 0 [] rfl HO.out a n c (zs.map I) rfl (by rw [List.length_map, HL.out]; omega) HN.out (by intro u hu; obtain ⟨z, _, rfl⟩ := List.mem_map.1 hu; rfl) (by unfold maxLen; omega) (by omega) (by simp) ?_)
    intro v' w' hown hg _ _
    have HB2 := Lib.hid (below_grown HB.out HO.out (by simp) hg)
    have hv : ∃ A' c', v' = .slice A' n c' := by
      rcases hown.2 with ⟨rfl, h⟩ | ⟨g, cap, cur, rfl, _⟩
      · exact ⟨none, 0, by rw [show n = 0 by omega]⟩
      · exact ⟨some ⟨g, 0, none⟩, cap, rfl⟩
    obtain ⟨A', c', rfl⟩ := hv
    clear hown hg
    go_wp2_with fail
    go_ret
    exact ⟨_, _, rfl, HB2.out⟩
theorem run_upd0 (W : World) (mb : Nat) (h : W.heap[mb]? = some (.map #[] 0)) :
    (Instr.mapUpdate 165 (.map (some mb)) (.int .i64 0) (.bool true)).run Tryz.prog W = .ok () { W with heap := W.heap.setIfInBounds mb (.map #[{ key := .int .i64 0, val := .bool true, born := 0 }] 1) } := by
  have h1 : Instr.findNow (.int .i64) (.int .i64 0) (#[] : Array MapEntry).toList 0 = some none := rfl
  simp only [Instr.mapUpdate, Sem.run_bind, run_underlying Tryz.underlying165, Result.andThen, MapKept.run_getObj_map h, MapKept.run_checkKey (k := .int .i64 0) Tryz.underlying3 (by trivial) false 9999, MapKept.run_findKey Tryz.underlying3 h1, MapKept.run_setObj_map _ h]
  rfl
def oneMap : Array MapEntry := #[{ key := .int .i64 0, val := .bool true, born := 0 }]
set_option maxRecDepth 20000 in
theorem run_look (W : World) (mb k : Nat) (h : W.heap[mb]? = some (.map oneMap 1)) :
    (Instr.lookup 165 (.map (some mb)) (.int .i64 k) false).run Tryz.prog W = .ok (.bool (k == 0)) W := by
  have hz : (zeroValue 4).run Tryz.prog W = .ok (.bool false) W := by kernel_rfl
  have hck : ∀ e, (Instr.checkKey e 10000 3 (.int .i64 (k : Int))).run Tryz.prog W = .ok () W := fun e => MapKept.run_checkKey Tryz.underlying3 (by trivial) e 9999
  by_cases hk : k = 0
  · subst hk
    have hf : (Instr.findKey 3 (.int .i64 ((0 : Nat) : Int)) oneMap.toList).run Tryz.prog W = .ok (some (0, .bool true)) W := MapKept.run_findKey Tryz.underlying3 rfl
    simp only [Instr.lookup, Sem.run_bind, run_underlying Tryz.underlying165, Result.andThen, MapKept.run_getObj_map h, hck, hf, Sem.run_pure]
    rfl
  · have hf : (Instr.findKey 3 (.int .i64 (k : Int)) oneMap.toList).run Tryz.prog W = .ok none W := MapKept.run_findKey Tryz.underlying3 (by
      have hne : ((k : Int) == 0) = false := by simp [hk]
      simp [oneMap, Instr.findNow, Instr.sameNow, hne])
    have hk2 : (k == 0) = false := by simp [hk]
    simp only [Instr.lookup, Sem.run_bind, run_underlying Tryz.underlying165, Result.andThen, MapKept.run_getObj_map h, hck, hf, hz, Sem.run_pure, hk2]
    rfl
end Go.Proofs.YtdakcbddlempfaaGreat

/- rule.add of a node without operands; the walker of rule.Part at a node without operands. -/
namespace Go.Proofs.YtdakcbddlempfaaGreat
open Go Go.RowKit

theorem index_sh (k : Nat) (hk : k < 19) (w : World) : (Instr.index 146 (.agg shC) (.int .i64 (k : Int))).run Tryz.prog w = .ok (.agg #[I (opn k), .bool (calB k), I (shLo k), I (shHi k)]) w := by
  have h : k = 0 ∨ k = 1 ∨ k = 2 ∨ k = 3 ∨ k = 4 ∨ k = 5 ∨ k = 6 ∨ k = 7 ∨ k = 8 ∨ k = 9 ∨ k = 10 ∨ k = 11 ∨ k = 12 ∨ k = 13 ∨ k = 14 ∨ k = 15 ∨ k = 16 ∨ k = 17 ∨ k = 18 := by omega
  rcases h with rfl | rfl | rfl | rfl | rfl | rfl | rfl | rfl | rfl | rfl | rfl | rfl | rfl | rfl | rfl | rfl | rfl | rfl | rfl <;> (show _ = _; kernel_rfl)
theorem field_sh (a b c : Int) (u : Bool) (w : World) : (Instr.field 145 (.agg #[I a, .bool u, I b, I c]) 0).run Tryz.prog w = .ok (I a) w := by kernel_rfl
/-- The node's variable, as it lies. -/
structure NVar (w : World) (cs : Array Value) (W : World) : Prop where
  var : W.heap[w.heap.size]? = some (.cells cs 87 (0, 0))
  lo : Below w.heap.size w W
theorem NVar.below {w W W' : World} {cs : Array Value} (h : NVar w cs W) (hb : Below W.heap.size W W') : NVar w cs W' := ⟨(hb.block _ (Array.getElem?_eq_some_iff.1 h.var).1).trans h.var, below_trans h.lo hb⟩
theorem NVar.put {w W : World} {cs : Array Value} (h : NVar w cs W) (o : Nat) (v : Value) : NVar w (cs.setIfInBounds o v) (W.setCell ⟨w.heap.size, o, none⟩ v) := ⟨heap_setCell_same W _ o _ _ v h.var, h.lo.setCell (p := ⟨w.heap.size, o, none⟩) (Nat.le_refl _) _⟩
theorem NVar.cell {w W : World} {cs : Array Value} (h : NVar w cs W) : ∀ i, W.cell? ⟨w.heap.size, i, none⟩ = cs[i]? := fun i => cell_of_row W _ i _ _ _ h.var
theorem NVar.froz {w W : World} {cs : Array Value} (h : NVar w cs W) : ∀ i, W.frozen? ⟨w.heap.size, i, none⟩ = false := fun i => frozen_of_row W _ i _ _ h.var
set_option maxRecDepth 10000 in
set_option maxHeartbeats 2000000 in
theorem add_leaf (kd : Nat) (cal l r nn m : Int) (list : List Int) (name : ByteArray) (A : Option Addr) (c : Nat) (P : Option Addr) (np cp : Nat) (w : World) (hA : IntsAt w w.heap.size A list) (hl : list.length ≤ 64) (hk : kd < 19) (ho : opn kd = 0) :
    Calls Tryz.prog 107 #[.slice none 0 0, .agg #[I kd, I cal, I l, I r, I nn, I m, .slice A list.length c, .string name], .slice P np cp] w (SomeSl 1 w) := by
  have HN0 : Hid (NVar w #[I kd, I cal, I l, I r, I nn, I m, .slice A list.length c, .string name] (w.alloc (.cells #[I kd, I cal, I l, I r, I nn, I m, .slice A list.length c, .string name] 87))) := Lib.hid ⟨heap_alloc_last w _, below_var w _⟩
  have hix := index_sh kd hk
  rw [ho] at hix
  have hfd := field_sh 0 (shLo kd) (shHi kd) (calB kd)
  have HCL : Hid (∀ W, Below w.heap.size w W → Calls Tryz.prog 112 #[.slice A list.length c] W (SomeSl list.length W)) := Lib.hid fun W hb => clone_any A list.length c list W ((hA.keep hb).more hb.size) rfl (by omega)
  clear hA hl hk ho
  go_enter Tryz.func107, Tryz.ntmps107
  go_wp2_with fail
  refine (HCL.out _ HN0.out.lo).mono ?_
  rintro e w1 ⟨A1, c1, rfl, hb1⟩
  have HN1 := Lib.hid (HN0.out.below hb1)
  have hc1 := HN1.out.cell
  have hf1 := HN1.out.froz
  have HN2 : Hid (NVar w #[I kd, I cal, I l, I r, I nn, I m, .slice A1 list.length c1, .string name] (w1.setCell ⟨w.heap.size, 6, none⟩ (.slice A1 list.length c1))) := Lib.hid (HN1.out.put 6 (.slice A1 list.length c1))
  clear hb1 HN0 HCL
  go_wp2_with fail
  clear hc1 hf1
  have hc2 := HN2.out.cell
  obtain ⟨W2, hW2⟩ : ∃ W, w1.setCell ⟨w.heap.size, 6, none⟩ (.slice A1 list.length c1) = W := ⟨_, rfl⟩
  rw [hW2] at HN2 hc2 ⊢
  clear hW2
  go_region_law (go_simp; go_at_call 86; refine (shapes_any _).mono ?_; rintro v w5 ⟨rfl, hb5⟩; have HN5 := Lib.hid (HN2.out.below (below_drew' hb5)); have hc5 := HN5.out.cell; clear hb5)
  all_goals
    have HB5 := Lib.hid (below_trans HN5.out.lo (below_var w5 (.cells (ndCells ⟨kd, cal, l, r, nn, m, list, name⟩ A1 c1) 87)))
    have hs5 := HN5.out.lo.size
    clear hc2
    go_wp2_with (at_builtin; refine wpList_app_nodes rfl _ _ rfl w.heap.size _ [] rfl (World.ownsRow_nil _ _ _ _) ⟨w5.heap.size, 0, none⟩ 1 [⟨⟨kd, cal, l, r, nn, m, list, name⟩, A1, c1⟩] rfl cells_new (by simp) (by simp; omega) ?_)
    intro v' w6 hown hg
    have HB6 := Lib.hid (below_grown HB5.out (World.ownsRow_nil _ _ 87 8) (by simp; omega) hg)
    have hv : ∃ A' c', v' = .slice A' 1 c' := by
      rcases hown.2 with ⟨_, h⟩ | ⟨g, cap, cur, rfl, _⟩
      · cases h
      · exact ⟨some ⟨g, 0, none⟩, cap, rfl⟩
    obtain ⟨A', c', rfl⟩ := hv
    clear hown hg
    go_wp2_with fail
    go_ret
    exact ⟨_, _, rfl, HB6.out⟩
end Go.Proofs.YtdakcbddlempfaaGreat

/- rule.Part at the first node. -/
namespace Go.Proofs.YtdakcbddlempfaaGreat
open Go Go.RowKit

/-- The map's block is set to one entry; all others stand. -/
def mapSet (W : World) (mb : Nat) : World := { W with heap := W.heap.setIfInBounds mb (.map oneMap 1) }
theorem mapSet_other (W : World) (mb k : Nat) (h : k ≠ mb) : (mapSet W mb).heap[k]? = W.heap[k]? := by
  simp only [mapSet, Array.getElem?_setIfInBounds]
  rw [if_neg (fun e => h e.symm)]
theorem mapSet_same (W : World) (mb : Nat) {o : Obj} (h : W.heap[mb]? = some o) : (mapSet W mb).heap[mb]? = some (.map oneMap 1) := by
  have : mb < W.heap.size := (Array.getElem?_eq_some_iff.1 h).1
  simp [mapSet, this]
structure Wk (W : World) (mb : Nat) (w' : World) : Prop where
  map : w'.heap[mb]? = some (.map oneMap 1)
  os : w'.os = W.os
  tape : w'.tape = W.tape
  output : w'.output = W.output
  size : W.heap.size ≤ w'.heap.size
  block : ∀ k, k < W.heap.size → k ≠ mb → w'.heap[k]? = W.heap[k]?
theorem Wk.start (W : World) (mb : Nat) {o : Obj} (h : W.heap[mb]? = some o) : Wk W mb (mapSet W mb) := ⟨mapSet_same W mb h, rfl, rfl, rfl, by simp [mapSet], fun k _ hk => mapSet_other W mb k hk⟩
theorem Wk.below {W w' w'' : World} {mb : Nat} (h : Wk W mb w') (hb : Below w'.heap.size w' w'') : Wk W mb w'' :=
  ⟨(hb.block _ (Array.getElem?_eq_some_iff.1 h.map).1).trans h.map, hb.os.trans h.os, hb.tape.trans h.tape, hb.output.trans h.output, Nat.le_trans h.size hb.size, fun k hk hm => (hb.block k (Nat.lt_of_lt_of_le hk h.size)).trans (h.block k hk hm)⟩
theorem Wk.cell {W w' : World} {mb b o : Nat} {v : Value} (h : Wk W mb w') (hc : W.cell? ⟨b, o, none⟩ = some v) (hm : b ≠ mb) : w'.cell? ⟨b, o, none⟩ = some v := by
  have hb : b < W.heap.size := by
    apply Classical.byContradiction
    intro hn
    have h2 : W.heap[b]? = none := Array.getElem?_eq_none (by omega)
    simp [World.cell?, h2] at hc
  exact (World.cell?_of_block (a := ⟨b, o, none⟩) (h.block b hb hm)).trans hc
set_option maxRecDepth 10000 in
set_option maxHeartbeats 2000000 in
theorem walk0 (kp rp wp mb b n c kd : Nat) (W : World) (h1 : W.cell? ⟨kp, 0, none⟩ = some (.map (some mb))) (h2 : W.heap[mb]? = some (.map #[] 0)) (h3 : W.cell? ⟨rp, 0, none⟩ = some (.slice (some ⟨b, 0, none⟩) n c)) (hn : 1 ≤ n) (h4 : W.cell? ⟨b, 0, none⟩ = some (I kd)) (hk : kd < 19) (ho : opn kd = 0) (hr : rp ≠ mb) (hb : b ≠ mb) :
    Calls Tryz.prog 106 #[I 0, pt kp, pt rp, pt wp] W fun e w' => (∃ v, e = .returned v) ∧ Wk W mb w' := by
  have hup : (Instr.mapUpdate 165 (.map (some mb)) (.int .i64 0) (.bool true)).run Tryz.prog W = .ok () (mapSet W mb) := run_upd0 W mb h2
  have HS := Lib.hid (Wk.start W mb h2)
  have c3 : (mapSet W mb).cell? ⟨rp, 0, none⟩ = some (.slice (some ⟨b, 0, none⟩) n c) := HS.out.cell h3 hr
  have c4 : (mapSet W mb).cell? ⟨b, 0, none⟩ = some (I kd) := HS.out.cell h4 hb
  have hix := index_sh kd hk
  rw [ho] at hix
  have hfd := field_sh 0 (shLo kd) (shHi kd) (calB kd)
  have i1 : (0 : Int) < (n : Int) := by omega
  have i2 : 0 < n := by omega
  have H3 := Lib.hid h3
  have H4 := Lib.hid h4
  have HR := Lib.hid hr
  have HB := Lib.hid hb
  obtain ⟨WM, hWM⟩ : ∃ WM, mapSet W mb = WM := ⟨_, rfl⟩
  rw [hWM] at hup HS c3 c4
  clear h2 h3 h4 hr hb ho hWM
  go_enter Tryz.func106, Tryz.ntmps106
  go_wp2_with fail
  go_region_law (go_simp; go_at_call 86; refine (shapes_any _).mono ?_; rintro v w5 ⟨rfl, hb5⟩; have HS5 := Lib.hid (HS.out.below (below_drew' hb5)); have d3 := HS5.out.cell H3.out HR.out; have d4 := HS5.out.cell H4.out HB.out; clear hb5)
  all_goals
    go_wp2_with fail
    go_end0
    exact ⟨⟨_, rfl⟩, HS5.out⟩
/-- The blocks of rule.Part behind its set-up: the rule's box, the places, the map and its variable. -/
structure PS (w w1 : World) (b n c : Nat) (mo : Obj) (W : World) : Prop where
  rp : W.heap[w.heap.size]? = some (.cells #[.slice (some ⟨b, 0, none⟩) n c] 28 (0, 0))
  kp : W.heap[w1.heap.size + 1 + 1 + 1]? = some (.cells #[.map (some (w1.heap.size + 1 + 1))] 165 (0, 0))
  mp : W.heap[w1.heap.size + 1 + 1]? = some mo
  pl : ∃ cs, cs.size = n ∧ W.heap[w1.heap.size]? = some (.cells cs 3 (0, 0))
  lo : Below w.heap.size w W
  s1 : w.heap.size < w1.heap.size
  sz : w1.heap.size + 4 ≤ W.heap.size
theorem PS.start {w w1 : World} {b n c : Nat} {o2 : Obj} (hb : Below w.heap.size w w1) (hs : w.heap.size < w1.heap.size) (hr : w1.heap[w.heap.size]? = some (.cells #[.slice (some ⟨b, 0, none⟩) n c] 28 (0, 0))) :
    PS w w1 b n c (.map #[] 0) ((((w1.alloc (.cells (Array.replicate n (I 0)) 3)).alloc o2).alloc (.map #[] 0)).alloc (.cells #[.map (some (w1.heap.size + 1 + 1))] 165)) := by
  have b1 := below_var w1 (.cells (Array.replicate n (I 0)) 3)
  have b2 := below_var (w1.alloc (.cells (Array.replicate n (I 0)) 3)) o2
  have b3 := below_var ((w1.alloc (.cells (Array.replicate n (I 0)) 3)).alloc o2) (.map #[] 0)
  have b4 := below_var (((w1.alloc (.cells (Array.replicate n (I 0)) 3)).alloc o2).alloc (.map #[] 0)) (.cells #[.map (some (w1.heap.size + 1 + 1))] 165)
  have h1 := heap_alloc_last w1 (.cells (Array.replicate n (I 0)) 3)
  have h3 := heap_alloc_last ((w1.alloc (.cells (Array.replicate n (I 0)) 3)).alloc o2) (.map #[] 0)
  have h4 := heap_alloc_last (((w1.alloc (.cells (Array.replicate n (I 0)) 3)).alloc o2).alloc (.map #[] 0)) (.cells #[.map (some (w1.heap.size + 1 + 1))] 165)
  have hall := below_trans (below_trans (below_trans b1 b2) b3) b4
  simp only [World.size_alloc] at h3 h4
  refine ⟨(hall.block _ hs).trans hr, h4, ?_, ⟨Array.replicate n (I 0), by simp, ?_⟩, below_trans hb hall, hs, by simp⟩
  · rw [b4.block _ (by simp)]; exact h3
  · rw [b4.block _ (by simp; omega), b3.block _ (by simp; omega), b2.block _ (by simp)]; exact h1
theorem PS.walked {w w1 W w2 : World} {b n c : Nat} {mo : Obj} (h : PS w w1 b n c mo W) (hw : Wk W (w1.heap.size + 1 + 1) w2) : PS w w1 b n c (.map oneMap 1) w2 := by
  have hs := h.s1
  have hz := h.sz
  obtain ⟨cs, h1, h2⟩ := h.pl
  refine ⟨(hw.block _ (by omega) (by omega)).trans h.rp, (hw.block _ (by omega) (by omega)).trans h.kp, hw.map, ⟨cs, h1, (hw.block _ (by omega) (by omega)).trans h2⟩, ⟨hw.os.trans h.lo.os, hw.tape.trans h.lo.tape, hw.output.trans h.lo.output, Nat.le_trans h.lo.size hw.size, fun k hk => (hw.block k (by omega) (by omega)).trans (h.lo.block k hk)⟩, hs, Nat.le_trans hz hw.size⟩
theorem PS.below {w w1 W W' : World} {b n c : Nat} {mo : Obj} (h : PS w w1 b n c mo W) (hb : Below W.heap.size W W') : PS w w1 b n c mo W' := by
  have hs := h.s1
  have hz := h.sz
  obtain ⟨cs, h1, h2⟩ := h.pl
  exact ⟨(hb.block _ (by omega)).trans h.rp, (hb.block _ (by omega)).trans h.kp, (hb.block _ (by omega)).trans h.mp, ⟨cs, h1, (hb.block _ (by omega)).trans h2⟩, below_trans h.lo hb, hs, Nat.le_trans hz hb.size⟩
theorem PS.put {w w1 W : World} {b n c : Nat} {mo : Obj} (h : PS w w1 b n c mo W) (j : Nat) (v : Value) : PS w w1 b n c mo (W.setCell ⟨w1.heap.size, j, none⟩ v) := by
  have hs := h.s1
  have hz := h.sz
  obtain ⟨cs, h1, h2⟩ := h.pl
  have ho : ∀ k, k ≠ w1.heap.size → (W.setCell ⟨w1.heap.size, j, none⟩ v).heap[k]? = W.heap[k]? := fun k hk => heap_setCell_other W _ _ v hk
  exact ⟨(ho _ (by omega)).trans h.rp, (ho _ (by omega)).trans h.kp, (ho _ (by omega)).trans h.mp, ⟨cs.setIfInBounds j v, by simp [h1], heap_setCell_same W _ j _ _ v h2⟩, h.lo.setCell (p := ⟨w1.heap.size, j, none⟩) (by show w.heap.size ≤ w1.heap.size; omega) _, hs, by simpa [World.setCell] using hz⟩
theorem PS.place {w w1 W : World} {b n c : Nat} {mo : Obj} (h : PS w w1 b n c mo W) (j : Nat) (hj : j < n) : (∃ v, W.cell? ⟨w1.heap.size, j, none⟩ = some v) ∧ W.frozen? ⟨w1.heap.size, j, none⟩ = false := by
  obtain ⟨cs, h1, h2⟩ := h.pl
  exact ⟨⟨_, (cell_of_row W _ j _ _ _ h2).trans (Array.getElem?_eq_getElem (by omega))⟩, frozen_of_row W _ j _ _ h2⟩
set_option maxRecDepth 10000 in
set_option maxHeartbeats 2000000 in
theorem part_yes (A : Option Addr) (n c : Nat) (ns : List NdV) (w : World) (hA : RulesAt w w.heap.size A ns) (hl : ns.length = n) (hok : RuleOK ns) :
    Calls Tryz.prog 87 #[.slice A n c, I 0] w fun e w' => (∃ v, e = .returned (.tuple #[v, I 0])) ∧ Below w.heap.size w w' := by
  have HA := Lib.hid hA
  have HL := Lib.hid hl
  have HOK := Lib.hid hok
  have h64 : n ≤ 64 := by rw [← hl]; exact hok.n64
  have h1 : 1 ≤ n := by rw [← hl]; exact hok.n1
  have HWF := Lib.hid (fun w' (hb : Below w.heap.size w w') => wellFormed_yes A n c ns w' ((hA.keep hb).more hb.size) hl (by rw [← hl]; exact hok.n1) h64 hok.nodes _ rfl (fun j hj => by have := hok.uses j (by rw [hl]; exact hj); rw [hl] at this; exact this))
  have hmk := make_ints n (by omega)
  have hmm := @run_makeMap Tryz.prog
  have HB0 := Lib.hid (below_var w (.cells #[.slice A n c] 28))
  have HR0 := Lib.hid (Row.new w #[.slice A n c] 28)
  have HH0 := Lib.hid (heap_alloc_last w (.cells #[.slice A n c] 28))
  have hq1 : ¬ (n : Int) ≤ 0 := by omega
  clear hA hl hok
  go_enter Tryz.func87, Tryz.ntmps87
  go_wp2_with fail
  refine (HWF.out _ HB0.out).mono ?_
  rintro e w1 ⟨rfl, hb1⟩
  have HB1 := Lib.hid (below_trans HB0.out hb1)
  have HR1 := Lib.hid (HR0.out.keep hb1)
  have HH1 := Lib.hid ((hb1.block _ (by simp)).trans HH0.out)
  have hr1 : w1.cell? ⟨w.heap.size, 0, none⟩ = some (.slice A n c) := HR1.out.2 0
  have hsz := HR1.out.1
  have hne : ¬ w.heap.size = w1.heap.size := by omega
  have hne1 : ¬ w.heap.size = w1.heap.size + 1 := by omega
  have hne2 : ¬ w.heap.size = w1.heap.size + 1 + 1 := by omega
  have hne3 : ¬ w.heap.size = w1.heap.size + 1 + 1 + 1 := by omega
  clear hb1 HWF HB0 HR0
  go_wp2_with fail
  obtain ⟨b, rfl, hbl⟩ : ∃ b, A = some ⟨b, 0, none⟩ ∧ b < w.heap.size := by
    rcases HA.out with h | ⟨b', h1, h2, _⟩
    · have := HL.out; omega
    · exact ⟨b', h1, h2⟩
  have HP0 := Lib.hid (PS.start (o2 := .cells #[.func (.func 106) #[] #[pt (w1.heap.size + 1 + 1 + 1), pt w.heap.size, pt (w1.heap.size + 1)]] 164) HB1.out hsz HH1.out)
  obtain ⟨b', x, he, hx, hm, hnd⟩ := one_nd (k := 0) HA.out HL.out HP0.out.lo (by omega)
  injection he with he
  injection he with he _ _
  subst he
  have hN := HOK.out.nodes 0 x hx
  have hk2 := hN.k2
  have hop : opn x.d.kind.toNat = 0 := by
    rcases hN.opl with ⟨_, h1, h2⟩ | ⟨h, _⟩
    · exact absurd h2 (by simp; omega)
    · exact h
  have HOP := Lib.hid hop
  refine (walk0 (w1.heap.size + 1 + 1 + 1) w.heap.size (w1.heap.size + 1) (w1.heap.size + 1 + 1) b n c x.d.kind.toNat _ (cell_of_row _ _ 0 _ _ _ HP0.out.kp) HP0.out.mp (cell_of_row _ _ 0 _ _ _ HP0.out.rp) h1 (by have := hnd.ra 0 _ rfl; rw [← hN.kind]; exact this) (by omega) hop (by omega) (by omega)).mono ?_
  rintro e w2 ⟨⟨v, rfl⟩, hwk⟩
  have HP2 := Lib.hid (HP0.out.walked hwk)
  have hr2 : w2.cell? ⟨w.heap.size, 0, none⟩ = some (.slice (some ⟨b, 0, none⟩) n c) := cell_of_row _ _ 0 _ _ _ HP2.out.rp
  have HX := Lib.hid hx
  clear hwk HP0 hmk hmm HR1 hr1 hne hne1 hne2 hne3 hN hnd hm hx hop hk2 HH1
  go_wp2_with fail
  go_loopw [7, 35] (fun o i wr => ∃ k : Nat, k ≤ n ∧ i = I k ∧ ((k = 0 ∧ o = .slice none 0 0) ∨ (1 ≤ k ∧ ∃ A c, o = .slice A 1 c)) ∧ PS w w1 b n c (.map oneMap 1) wr) (fun _ i _ => n - (intOf i).toNat)
  case atStart => exact ⟨0, by omega, rfl, .inl ⟨rfl, rfl⟩, HP2.out⟩
  case round =>
    obtain ⟨k, hk, rfl, hout, hps⟩ := hrel
    have HP := Lib.hid hps
    clear hps HP2 hr2
    by_cases hlt : (k : Int) < (n : Int)
    · have i0 : (0 : Int) ≤ (k : Int) := by omega
      have i1 : k < n := by omega
      obtain ⟨b', y, he, hy, hm, hnd⟩ := one_nd (k := k) HA.out HL.out HP.out.lo i1
      injection he with he
      injection he with he _ _
      subst he
      have hN := HOK.out.nodes k y hy
      obtain ⟨f0, f1, f2, f3, f4, f5, f6, f7⟩ := hnd.cells
      have HY := Lib.hid hy
      obtain ⟨⟨kind, cal, l, r, nn, m, list, name⟩, A', c'⟩ := y
      simp only at hN f0 f1 f2 f3 f4 f5 f6 f7
      obtain ⟨kd, hkd⟩ : ∃ kd, kind.toNat = kd := ⟨_, rfl⟩
      rw [hkd] at hN
      have hkk : kind = (kd : Int) := hN.kind
      subst hkk
      have hlen := hN.len
      have hk2 := hN.k2
      have HBV := Lib.hid (below_var wr (.cells #[I kd, I cal, I l, I r, I nn, I m, .slice A' list.length c', .string name] 87))
      have HPV := Lib.hid (HP.out.below HBV.out)
      have hbw := hnd.la
      have hs1 := HP.out.s1
      have hsz' := HP.out.sz
      have hne1 : ¬ b = wr.heap.size := by omega
      have hlk := run_look _ (w1.heap.size + 1 + 1) k HPV.out.mp
      have hkp : wr.cell? ⟨w1.heap.size + 1 + 1 + 1, 0, none⟩ = some (.map (some (w1.heap.size + 1 + 1))) := cell_of_row _ _ 0 _ _ _ HP.out.kp
      have hkv : (wr.alloc (.cells #[I kd, I cal, I l, I r, I nn, I m, .slice A' list.length c', .string name] 87)).cell? ⟨w1.heap.size + 1 + 1 + 1, 0, none⟩ = some (.map (some (w1.heap.size + 1 + 1))) := cell_of_row _ _ 0 _ _ _ HPV.out.kp
      have hne2 : ¬ w1.heap.size + 1 + 1 + 1 = wr.heap.size := by omega
      have hne3 : ¬ wr.heap.size = w1.heap.size + 1 + 1 + 1 := by omega
      have hne4 : ¬ w1.heap.size + 3 = wr.heap.size := by omega
      have HIA : Hid (IntsAt w w.heap.size A' list) := Lib.hid (rule_ints HA.out hy)
      clear hnd hm hy hkd hbw
      rcases hout with ⟨hk0, rfl⟩ | ⟨hk1, A2, c2, rfl⟩
      · have hkz : (k == 0) = true := by simp [hk0]
        rw [hkz] at hlk
        have HOP2 : Hid (opn kd = 0) := Lib.hid (by
          rcases hN.opl with ⟨_, h1, h2⟩ | ⟨h, _⟩
          · exact absurd h2 (by simp only; omega)
          · exact h)
        have hlen' : list.length ≤ 64 := hlen
        clear hN hlen hk0 hkz
        go_wp2_with fail
        refine (add_leaf kd cal l r nn m list name A' c' _ _ _ _ ((HIA.out.keep HPV.out.lo).more HPV.out.lo.size) hlen' (by omega) HOP2.out).mono ?_
        rintro e w5 ⟨A5, c5, rfl, hb5⟩
        have HP5 := Lib.hid (HPV.out.below hb5)
        obtain ⟨⟨v5, hv5⟩, hf5⟩ := HP5.out.place k i1
        have HP6 := Lib.hid (HP5.out.put k (I 0))
        clear hb5 hlk
        go_wp2_with fail
        go_roundw
        case rel => exact ⟨k + 1, by omega, by go_num, .inr ⟨by omega, _, _, rfl⟩, HP6.out⟩
        case measure => simp [intOf]; omega
      · have hkz : (k == 0) = false := by simp; omega
        rw [hkz] at hlk
        clear hN hlen hkz
        go_wp2_with fail
        go_roundw
        case rel => exact ⟨k + 1, by omega, by go_num, .inr ⟨by omega, _, _, rfl⟩, HPV.out⟩
        case measure => simp [intOf]; omega
    · go_wp2_with fail
      go_ret2
      exact ⟨⟨_, rfl⟩, HP.out.lo⟩
end Go.Proofs.YtdakcbddlempfaaGreat
