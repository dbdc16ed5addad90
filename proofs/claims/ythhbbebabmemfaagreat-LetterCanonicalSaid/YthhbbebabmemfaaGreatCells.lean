/- letter.validCells. -/
import Derived.Test.YthhbbebabmemfaaGreatSmall
import Derived.BigQuiet
import Derived.Deep.QuietTactic
import Derived.Deep.WholeRow
import Derived.Laws.Rows
import Derived.Laws.Tables
import Derived.Lib.Hide
import Derived.Outline
import Derived.StillTailTactics
import Derived.Stop.BytesEq
import Derived.WalkKit
import Derived.WalkLawsBesides
import Derived.WalkSpells
namespace Go.Proofs.YthhbbebabmemfaaGreat
open Go Go.RowKit

/-- A slice of ints with this address reads as zs, below block B. -/
def IntsAt (w : World) (B : Nat) (A : Option Addr) (zs : List Int) : Prop :=
  zs.length = 0 ∨ ∃ b off, A = some ⟨b, off, none⟩ ∧ b < B ∧ ∀ j, j < zs.length → w.cell? ⟨b, off + j, none⟩ = some (I (zs[j]?.getD 0))
theorem IntsAt.keep {w w' : World} {B : Nat} {A : Option Addr} {zs : List Int} (h : IntsAt w B A zs) (hb : Below B w w') : IntsAt w' B A zs := by
  rcases h with h | ⟨b, off, hA, hbB, hc⟩
  · exact .inl h
  · exact .inr ⟨b, off, hA, hbB, fun j hj => (hb.cell (p := ⟨b, off + j, none⟩) hbB).trans (hc j hj)⟩
theorem IntsAt.more {w : World} {B B' : Nat} {A : Option Addr} {zs : List Int} (h : IntsAt w B A zs) (hB : B ≤ B') : IntsAt w B' A zs := by
  rcases h with h | ⟨b, off, hA, hbB, hc⟩
  · exact .inl h
  · exact .inr ⟨b, off, hA, by omega, hc⟩

def cellOK (srv : Bool) (zs : List Int) (j : Nat) : Bool :=
  if srv then decide (0 ≤ zs[j]?.getD 0 ∧ zs[j]?.getD 0 ≤ 255 ∧ zs[j]?.getD 0 < 16 ∧ (j = 0 ∨ zs[j - 1]?.getD 0 < zs[j]?.getD 0)) else decide (0 ≤ zs[j]?.getD 0 ∧ zs[j]?.getD 0 ≤ 255)
theorem cellOK_t {zs : List Int} {j : Nat} {z p : Int} (hz : zs[j]?.getD 0 = z) (hp : zs[j - 1]?.getD 0 = p) : cellOK true zs j = decide (0 ≤ z ∧ z ≤ 255 ∧ z < 16 ∧ (j = 0 ∨ p < z)) := by
  subst hz hp; rfl
theorem cellOK_f {zs : List Int} {j : Nat} {z : Int} (hz : zs[j]?.getD 0 = z) : cellOK false zs j = decide (0 ≤ z ∧ z ≤ 255) := by
  subst hz; rfl
def srvB (k : Int) : Bool := decide (8 ≤ k ∧ k ≤ 14)
def vCells (k : Int) (zs : List Int) : Bool := (List.range zs.length).all (cellOK (srvB k) zs) && (decide (k ≠ 17) || decide (0 < zs.length))

theorem vCells_no {k : Int} {zs : List Int} {j : Nat} (hj : j < zs.length) (h : cellOK (srvB k) zs j = false) : vCells k zs = false := by
  unfold vCells
  have : (List.range zs.length).all (cellOK (srvB k) zs) = false := by
    rw [Bool.eq_false_iff]; intro h'; rw [List.all_eq_true] at h'
    have := h' j (List.mem_range.2 hj); rw [h] at this; cases this
  rw [this]; rfl
theorem vCells_end {k : Int} {zs : List Int} (h : ∀ j, j < zs.length → cellOK (srvB k) zs j = true) : vCells k zs = (decide (k ≠ 17) || decide (0 < zs.length)) := by
  unfold vCells
  have : (List.range zs.length).all (cellOK (srvB k) zs) = true := by
    rw [List.all_eq_true]; intro j hj; exact h j (List.mem_range.1 hj)
  rw [this]; rfl

theorem neq_dec (a b : Int) : (a != b) = decide (a ≠ b) := by
  rw [Bool.eq_iff_iff]; simp
theorem beq_dec (a b : Int) : (a == b) = decide (a = b) := by
  rw [Bool.eq_iff_iff]; simp

attribute [local go_sem] lt_get0 lt_get29
set_option maxRecDepth 10000 in
set_option maxHeartbeats 800000 in
theorem validCells_srv (l : Lt) (vr vm : Value) (b off c : Nat) (w : World) (hm : l.cells.length ≤ 140737488355328) (hb : b < w.heap.size)
    (hc : ∀ j, j < l.cells.length → w.cell? ⟨b, off + j, none⟩ = some (I (l.cells[j]?.getD 0))) (h8 : 8 ≤ l.kind) (h14 : l.kind ≤ 14) :
    Calls Tryz.prog 58 #[.agg (ltCells l vr vm (.slice (some ⟨b, off, none⟩) l.cells.length c))] w (Gives (.bool (vCells l.kind l.cells)) w) := by
  have hs : srvB l.kind = true := by unfold srvB; exact decide_eq_true (by omega)
  have HS := Lib.hid hs
  have HC := Lib.hid hc
  clear hs hc
  go_enter Tryz.func58, Tryz.ntmps58
  go_wp2
  go_loop [17] (fun i => ∃ k : Nat, k ≤ l.cells.length ∧ i = .int .i64 k ∧ Hid (∀ j, j < k → cellOK (srvB l.kind) l.cells j = true)) (fun i => l.cells.length - (intOf i).toNat)
  case atStart => exact ⟨0, Nat.zero_le _, rfl, Lib.hid (fun j hj => absurd hj (by omega))⟩
  case round =>
    obtain ⟨k, hk, rfl, HK⟩ := hrel
    by_cases hlt : k < l.cells.length
    · have h1 := HC.out k hlt
      have h2 := HC.out (k - 1) (by omega)
      obtain ⟨z, hz⟩ : ∃ z, l.cells[k]?.getD 0 = z := ⟨_, rfl⟩
      obtain ⟨p, hp⟩ : ∃ p, l.cells[k - 1]?.getD 0 = p := ⟨_, rfl⟩
      rw [hz] at h1
      rw [hp] at h2
      have HZ := Lib.hid hz
      have HP := Lib.hid hp
      clear hz hp
      go_wp2
      all_goals first
        | (go_round
           case rel => exact ⟨k + 1, by omega, by go_num, Lib.hid (fun j hj => by
               rcases Nat.lt_succ_iff_lt_or_eq.1 hj with h | h
               · exact HK.out j h
               · subst h; have hs := HS.out; rw [hs, cellOK_t HZ.out HP.out]; exact decide_eq_true (by omega))⟩
           case measure => simp [intOf]; omega)
        | (go_ret
           exact ⟨ret_bool (vCells_no hlt (by have hs := HS.out; rw [hs, cellOK_t HZ.out HP.out]; exact decide_eq_false (by omega))).symm, below_var _ _⟩)
    · have HE := Lib.hid (vCells_end (k := l.kind) (zs := l.cells) (fun j hj => HK.out j (by omega)))
      by_cases h17 : l.kind = 17
      · exact absurd h17 (by omega)
      · have b17 : (l.kind != 17) = true := by rw [neq_dec]; exact decide_eq_true (by omega)
        go_wp2
        go_ret
        exact ⟨ret_bool (by rw [HE.out, show decide (l.kind ≠ 17) = true from decide_eq_true (by omega)]; rfl), below_var _ _⟩
set_option maxRecDepth 10000 in
set_option maxHeartbeats 800000 in
theorem validCells_high (l : Lt) (vr vm : Value) (b off c : Nat) (w : World) (hm : l.cells.length ≤ 140737488355328) (hb : b < w.heap.size)
    (hc : ∀ j, j < l.cells.length → w.cell? ⟨b, off + j, none⟩ = some (I (l.cells[j]?.getD 0))) (h8 : 8 ≤ l.kind) (h14 : 15 ≤ l.kind) :
    Calls Tryz.prog 58 #[.agg (ltCells l vr vm (.slice (some ⟨b, off, none⟩) l.cells.length c))] w (Gives (.bool (vCells l.kind l.cells)) w) := by
  have hs : srvB l.kind = false := by unfold srvB; exact decide_eq_false (by omega)
  have HS := Lib.hid hs
  have HC := Lib.hid hc
  clear hs hc
  have d14 : decide (l.kind ≤ 14) = false := decide_eq_false (by omega)
  go_enter Tryz.func58, Tryz.ntmps58
  go_wp2
  go_loop [17] (fun i => ∃ k : Nat, k ≤ l.cells.length ∧ i = .int .i64 k ∧ Hid (∀ j, j < k → cellOK (srvB l.kind) l.cells j = true)) (fun i => l.cells.length - (intOf i).toNat)
  case atStart => exact ⟨0, Nat.zero_le _, rfl, Lib.hid (fun j hj => absurd hj (by omega))⟩
  case round =>
    obtain ⟨k, hk, rfl, HK⟩ := hrel
    by_cases hlt : k < l.cells.length
    · have h1 := HC.out k hlt
      have h2 := HC.out (k - 1) (by omega)
      obtain ⟨z, hz⟩ : ∃ z, l.cells[k]?.getD 0 = z := ⟨_, rfl⟩
      obtain ⟨p, hp⟩ : ∃ p, l.cells[k - 1]?.getD 0 = p := ⟨_, rfl⟩
      rw [hz] at h1
      rw [hp] at h2
      have HZ := Lib.hid hz
      have HP := Lib.hid hp
      clear hz hp
      go_wp2
      all_goals first
        | (go_round
           case rel => exact ⟨k + 1, by omega, by go_num, Lib.hid (fun j hj => by
               rcases Nat.lt_succ_iff_lt_or_eq.1 hj with h | h
               · exact HK.out j h
               · subst h; have hs := HS.out; rw [hs, cellOK_f HZ.out]; exact decide_eq_true (by omega))⟩
           case measure => simp [intOf]; omega)
        | (go_ret
           exact ⟨ret_bool (vCells_no hlt (by have hs := HS.out; rw [hs, cellOK_f HZ.out]; exact decide_eq_false (by omega))).symm, below_var _ _⟩)
    · have HE := Lib.hid (vCells_end (k := l.kind) (zs := l.cells) (fun j hj => HK.out j (by omega)))
      by_cases h17 : l.kind = 17
      · have b17 : (l.kind != 17) = false := by rw [neq_dec]; exact decide_eq_false (by omega)
        have e17 : decide (l.kind ≠ 17) = false := decide_eq_false (by omega)
        have HS17 := Lib.hid e17
        clear h17 e17
        go_wp2
        all_goals
          go_ret
          refine ⟨ret_bool ?_, below_var _ _⟩
          rw [HE.out, HS17.out, Bool.false_or]
      · have b17 : (l.kind != 17) = true := by rw [neq_dec]; exact decide_eq_true (by omega)
        go_wp2
        go_ret
        exact ⟨ret_bool (by rw [HE.out, show decide (l.kind ≠ 17) = true from decide_eq_true (by omega)]; rfl), below_var _ _⟩
set_option maxRecDepth 10000 in
set_option maxHeartbeats 800000 in
theorem validCells_low (l : Lt) (vr vm : Value) (b off c : Nat) (w : World) (hm : l.cells.length ≤ 140737488355328) (hb : b < w.heap.size)
    (hc : ∀ j, j < l.cells.length → w.cell? ⟨b, off + j, none⟩ = some (I (l.cells[j]?.getD 0))) (h8 : l.kind < 8) :
    Calls Tryz.prog 58 #[.agg (ltCells l vr vm (.slice (some ⟨b, off, none⟩) l.cells.length c))] w (Gives (.bool (vCells l.kind l.cells)) w) := by
  have hs : srvB l.kind = false := by unfold srvB; exact decide_eq_false (by omega)
  have HS := Lib.hid hs
  have HC := Lib.hid hc
  clear hs hc
  go_enter Tryz.func58, Tryz.ntmps58
  go_wp2
  go_loop [17] (fun i => ∃ k : Nat, k ≤ l.cells.length ∧ i = .int .i64 k ∧ Hid (∀ j, j < k → cellOK (srvB l.kind) l.cells j = true)) (fun i => l.cells.length - (intOf i).toNat)
  case atStart => exact ⟨0, Nat.zero_le _, rfl, Lib.hid (fun j hj => absurd hj (by omega))⟩
  case round =>
    obtain ⟨k, hk, rfl, HK⟩ := hrel
    by_cases hlt : k < l.cells.length
    · have h1 := HC.out k hlt
      have h2 := HC.out (k - 1) (by omega)
      obtain ⟨z, hz⟩ : ∃ z, l.cells[k]?.getD 0 = z := ⟨_, rfl⟩
      obtain ⟨p, hp⟩ : ∃ p, l.cells[k - 1]?.getD 0 = p := ⟨_, rfl⟩
      rw [hz] at h1
      rw [hp] at h2
      have HZ := Lib.hid hz
      have HP := Lib.hid hp
      clear hz hp
      go_wp2
      all_goals first
        | (go_round
           case rel => exact ⟨k + 1, by omega, by go_num, Lib.hid (fun j hj => by
               rcases Nat.lt_succ_iff_lt_or_eq.1 hj with h | h
               · exact HK.out j h
               · subst h; have hs := HS.out; rw [hs, cellOK_f HZ.out]; exact decide_eq_true (by omega))⟩
           case measure => simp [intOf]; omega)
        | (go_ret
           exact ⟨ret_bool (vCells_no hlt (by have hs := HS.out; rw [hs, cellOK_f HZ.out]; exact decide_eq_false (by omega))).symm, below_var _ _⟩)
    · have HE := Lib.hid (vCells_end (k := l.kind) (zs := l.cells) (fun j hj => HK.out j (by omega)))
      by_cases h17 : l.kind = 17
      · exact absurd h17 (by omega)
      · have b17 : (l.kind != 17) = true := by rw [neq_dec]; exact decide_eq_true (by omega)
        go_wp2
        go_ret
        exact ⟨ret_bool (by rw [HE.out, show decide (l.kind ≠ 17) = true from decide_eq_true (by omega)]; rfl), below_var _ _⟩
set_option maxRecDepth 10000 in
set_option maxHeartbeats 800000 in
theorem validCells_none (l : Lt) (vr vm : Value) (A : Option Addr) (c : Nat) (w : World) (hl : l.cells.length = 0) :
    Calls Tryz.prog 58 #[.agg (ltCells l vr vm (.slice A 0 c))] w (Gives (.bool (vCells l.kind l.cells)) w) := by
  have HE := Lib.hid (vCells_end (k := l.kind) (zs := l.cells) (fun j hj => absurd hj (by omega)))
  rw [hl] at HE
  clear hl
  have h8 : decide (8 ≤ l.kind) = true ∨ decide (8 ≤ l.kind) = false := by cases decide (8 ≤ l.kind) <;> simp
  have h14 : decide (l.kind ≤ 14) = true ∨ decide (l.kind ≤ 14) = false := by cases decide (l.kind ≤ 14) <;> simp
  have h17 : (l.kind != 17) = decide (l.kind ≠ 17) := neq_dec _ _
  have h17' : decide (l.kind ≠ 17) = true ∨ decide (l.kind ≠ 17) = false := by cases decide (l.kind ≠ 17) <;> simp
  rcases h8 with h8 | h8 <;> rcases h14 with h14 | h14 <;> rcases h17' with h17' | h17'
  all_goals
    rw [h17'] at h17 HE
    clear h17'
    go_enter Tryz.func58, Tryz.ntmps58
    go_wp2
    go_loop [17] (fun i => i = .int .i64 0) (fun _ => 0)
    case atStart => rfl
    case round =>
      subst hrel
      go_wp2
      go_ret
      exact ⟨ret_bool HE.out.symm, below_var _ _⟩
theorem validCells_any (l : Lt) (vr vm : Value) (A : Option Addr) (c : Nat) (w : World) (hm : l.cells.length ≤ 140737488355328) (hi : IntsAt w w.heap.size A l.cells) :
    Calls Tryz.prog 58 #[.agg (ltCells l vr vm (.slice A l.cells.length c))] w (Gives (.bool (vCells l.kind l.cells)) w) := by
  rcases hi with h | ⟨b, off, rfl, hb, hc⟩
  · have := validCells_none l vr vm A c w h
    rw [← h] at this
    exact this
  · by_cases h8 : 8 ≤ l.kind
    · by_cases h14 : l.kind ≤ 14
      · exact validCells_srv l vr vm b off c w hm hb hc h8 h14
      · exact validCells_high l vr vm b off c w hm hb hc h8 (by omega)
    · exact validCells_low l vr vm b off c w hm hb hc (by omega)
end Go.Proofs.YthhbbebabmemfaaGreat
