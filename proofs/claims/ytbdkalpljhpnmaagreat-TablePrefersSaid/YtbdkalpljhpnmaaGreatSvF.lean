/- civil.Valid (where a calendar is valid). -/
import Derived.Test.YtbdkalpljhpnmaaGreatSvE
import Derived.Test.YtbdkalpljhpnmaaGreatQa
import Derived.BigQuiet
import Derived.Deep.AppendLies
import Derived.Deep.CutBlock
import Derived.Deep.DeepCutAuto
import Derived.Deep.DrawnRows
import Derived.Deep.MidRow
import Derived.Deep.QuietTactic
import Derived.Deep.RegionHeld3
import Derived.Deep.RegionLaw
import Derived.Deep.WholeRow
import Derived.Great.BuildSlice
import Derived.Laws.BytesString
import Derived.Laws.CopyOwn
import Derived.Laws.EntriesVeiled
import Derived.Laws.MakeOwn
import Derived.Laws.ResultCell
import Derived.Laws.Rows
import Derived.Laws.Tables
import Derived.Lib.Hide
import Derived.LoopIn
import Derived.LoopNIn
import Derived.Maps.AppendAt
import Derived.Outline
import Derived.OwnWalkIn
import Derived.RangeFuncBound
import Derived.RangeFuncBox
import Derived.RangeFuncCalls
import Derived.RangeFuncLeaves
import Derived.RangeFuncNested
import Derived.Shelf.Abstract
import Derived.Shelf.Bytes.SlSmallAll
import Derived.Shelf.RegionOpen
import Derived.StillTailTactics
import Derived.Stop.BytesEq
import Derived.TacticsInMore
import Derived.WalkKit
import Derived.WalkLawsBesides
import Derived.WalkSpells
namespace Go.Proofs.YtbdkalpljhpnmaaGreat
open Go Go.RowKit

structure Cal where
  epoch : Int
  months : List Int
  leap : Int
  rules : List Lr
structure CalOK (c : Cal) : Prop where
  ep : 0 ≤ c.epoch ∧ c.epoch ≤ 1048576
  mo : 1 ≤ c.months.length ∧ c.months.length ≤ 16
  le : 0 ≤ c.leap ∧ c.leap < c.months.length
  ru : c.rules.length ≤ 16
  all : ∀ m ∈ c.months, 1 ≤ m ∧ m ≤ 40
  per : PerOK 1 c.rules
def calCells (c : Cal) (A : Option Addr) (ca : Nat) (B : Option Addr) (cb : Nat) : Array Value := #[I c.epoch, .slice A c.months.length ca, I c.leap, .slice B c.rules.length cb]
attribute [local go_sem] calCells
set_option maxRecDepth 10000 in
set_option maxHeartbeats 2000000 in
theorem civilValid_yes (c : Cal) (A : Option Addr) (ca : Nat) (B : Option Addr) (cb : Nat) (w : World) (hA : IntsAt w w.heap.size A c.months) (hB : LrsAt w w.heap.size B c.rules) (h : CalOK c) :
    Calls Tryz.prog 59 #[.agg (calCells c A ca B cb)] w (Gives (.bool true) w) := by
  have HB0 := Lib.hid (below_var w (.cells (calCells c A ca B cb) 37))
  have HRW := Lib.hid (Row.new w (calCells c A ca B cb) 37)
  obtain ⟨ep, mo, le, ru⟩ := c
  have HPER := Lib.hid (fun w' hb => period_yes B ru.length cb ru w' ((hB.keep hb).more hb.size) rfl (by have := h.ru; simp only at this; omega) h.per)
  obtain ⟨⟨e1, e2⟩, ⟨m1, m2⟩, ⟨l1, l2⟩, r1, hall, hper⟩ := h
  simp only at e1 e2 m1 m2 l1 l2 r1 hall hA
  obtain ⟨b, off, rfl, hb, hc⟩ : ∃ b off, A = some ⟨b, off, none⟩ ∧ b < w.heap.size ∧ ∀ j, j < mo.length → w.cell? ⟨b, off + j, none⟩ = some (I (mo[j]?.getD 0)) := by
    rcases hA with h | h
    · omega
    · exact h
  have HC := Lib.hid hc
  have HALL := Lib.hid (fun k (hk : k < mo.length) => hall _ (List.getElem_mem hk))
  have q1 : ¬ ep < 0 := by omega
  have q2 : ¬ (1048576 : Int) < ep := by omega
  obtain ⟨n, hn⟩ : ∃ n, mo.length = n := ⟨_, rfl⟩
  obtain ⟨nr, hnr⟩ : ∃ nr, ru.length = nr := ⟨_, rfl⟩
  have q3 : ¬ (n : Int) < 1 := by omega
  have q4 : ¬ (16 : Int) < (n : Int) := by omega
  have q5 : ¬ le < -1 := by omega
  have q6 : ¬ (n : Int) ≤ le := by omega
  have q7 : ¬ (16 : Int) < (nr : Int) := by omega
  have q8 : (le == -1) = false := by simp; omega
  have hne : ¬ b = w.heap.size := by omega
  have HN := Lib.hid hn
  have e0 : (calCells ⟨ep, mo, le, ru⟩ (some ⟨b, off, none⟩) ca B cb) = #[I ep, .slice (some ⟨b, off, none⟩) n ca, I le, .slice B nr cb] := by rw [← hn, ← hnr]; rfl
  rw [e0] at HB0 HRW ⊢
  rw [hnr] at HPER
  clear hc hall hper hB hA e0 hn hnr
  go_enter Tryz.func59, Tryz.ntmps59
  go_wp2_with fail
  go_loopw [52] (fun i wr => ∃ k : Nat, k ≤ n ∧ i = I k ∧ wr = w.alloc (.cells #[I ep, .slice (some ⟨b, off, none⟩) n ca, I le, .slice B nr cb] 37)) (fun i _ => n - (intOf i).toNat)
  case atStart => exact ⟨0, Nat.zero_le _, rfl, rfl⟩
  case round =>
    obtain ⟨k, hk, rfl, rfl⟩ := hrel
    by_cases hlt : k < n
    · have i0 : (0 : Int) ≤ (k : Int) := by omega
      have i1 : (k : Int) < (n : Int) := by omega
      have hkm : k < mo.length := by rw [HN.out]; exact hlt
      have c1 := HC.out k hkm
      have hz := HALL.out k hkm
      rw [List.getElem?_eq_getElem hkm] at c1
      generalize mo[k] = z at c1 hz
      have c2 : w.cell? ⟨b, off + k, none⟩ = some (I z) := c1
      have q9 : ¬ z < 1 := by omega
      have q10 : ¬ (40 : Int) < z := by omega
      clear c1 hz
      go_wp2_with fail
      go_roundw
      case rel => exact ⟨k + 1, by omega, by go_num, by first | trivial | rfl⟩
      case measure => simp [intOf]; omega
    · go_wp2_with fail
      refine (HPER.out _ HB0.out).mono ?_
      rintro x w5 ⟨⟨y, rfl⟩, hb5⟩
      have HB5 := Lib.hid (below_trans HB0.out hb5)
      clear hb5
      go_wp2_with fail
      go_ret
      exact ⟨rfl, HB5.out⟩
end Go.Proofs.YtbdkalpljhpnmaaGreat
