/- kalendsref02.Mod and (*kalendsref07.Maker).Pick: a number in the range that is asked for; only the maker's count has changed. -/
import Derived.Test.YthhbbebabmemfaaGreatPm
import Derived.Test.YthhbbebabmemfaaGreatWriters
import Derived.BigQuiet
import Derived.Deep.AppendLies
import Derived.Deep.CutBlock
import Derived.Deep.DeepCutAuto
import Derived.Deep.DrawnRows
import Derived.Deep.MidRow
import Derived.Deep.QuietTactic
import Derived.Deep.RegionHeld3
import Derived.Deep.RegionLaw
import Derived.Deep.WholeRow
import Derived.Great.BuildSlice
import Derived.Laws.BytesString
import Derived.Laws.CopyOwn
import Derived.Laws.EntriesVeiled
import Derived.Laws.MakeOwn
import Derived.Laws.ResultCell
import Derived.Laws.Rows
import Derived.Laws.Tables
import Derived.Lib.Hide
import Derived.LoopIn
import Derived.LoopNIn
import Derived.Maps.AppendAt
import Derived.Outline
import Derived.OwnWalkIn
import Derived.RangeFuncBound
import Derived.RangeFuncBox
import Derived.RangeFuncCalls
import Derived.RangeFuncLeaves
import Derived.RangeFuncNested
import Derived.Shelf.Abstract
import Derived.Shelf.Bytes.SlSmallAll
import Derived.Shelf.RegionOpen
import Derived.StillTailTactics
import Derived.Stop.BytesEq
import Derived.TacticsInMore
import Derived.WalkKit
import Derived.WalkLawsBesides
import Derived.WalkSpells
namespace Go.Proofs.YthhbbebabmemfaaGreat
open Go Go.RowKit

theorem emod_of (a b : Int) (hb : 0 < b) : a % b = if a.tmod b < 0 then a.tmod b + b else a.tmod b := by
  by_cases h : 0 ≤ a
  · rw [if_neg (by have := Int.tmod_nonneg b h; omega), Int.tmod_eq_emod_of_nonneg h]
  · have h1 : a.tmod b ≤ 0 := by
      have := Int.tmod_nonneg b (show 0 ≤ -a by omega)
      rw [Int.neg_tmod] at this; omega
    have h2 : -b < a.tmod b := by
      have := Int.tmod_lt_of_pos (-a) hb
      rw [Int.neg_tmod] at this; omega
    have h3 : a % b = (a.tmod b) % b := by
      rw [Int.tmod_def]
      rw [Int.sub_emod, Int.mul_emod_right]; simp
    rw [h3]
    split
    · rw [← Int.add_emod_right, Int.emod_eq_of_lt (by omega) (by omega)]
    · rw [Int.emod_eq_of_lt (by omega) (by omega)]
theorem tmod_gt (a b : Int) (hb : 0 < b) : -b < a.tmod b := by
  have := Int.tmod_lt_of_pos (-a) hb
  rw [Int.neg_tmod] at this; omega
set_option maxRecDepth 10000 in
set_option maxHeartbeats 400000 in
theorem mod_any (a b : Int) (w : World) (hb : 0 < b) (hb2 : b ≤ 1000000000000000000) (ha : fits a) :
    Calls Tryz.prog 33 #[I a, I b] w fun e w' => e = .returned (I (a % b)) ∧ w' = w := by
  have he := emod_of a b hb
  obtain ⟨ha1, ha2⟩ := ha
  have hb0 : b ≠ 0 := by omega
  have hb1 : b ≠ -1 := by omega
  have h2 := Int.tmod_lt_of_pos a hb
  have h3 := tmod_gt a b hb
  obtain ⟨q, hq⟩ : ∃ q, a.tmod b = q := ⟨_, rfl⟩
  rw [hq] at he h2 h3
  by_cases h : q < 0
  · rw [if_pos h] at he
    go_enter Tryz.func33, Tryz.ntmps33
    go_wp2
    go_ret
    exact ⟨by first | rfl | (rw [he]; rfl), rfl⟩
  · rw [if_neg h] at he
    go_enter Tryz.func33, Tryz.ntmps33
    go_wp2
    go_ret
    exact ⟨by first | rfl | (rw [he]; rfl), rfl⟩
def mkCells (A : Option Addr) (n c at_ nodes : Nat) : Array Value := #[.slice A n c, I at_, I 2, I nodes]
/-- The maker at block mb: the numbers xs (which lie below it), how many were used, how many nodes were made. -/
def MkSt (w : World) (mb : Nat) (xs : List Int) (at_ nodes : Nat) : Prop :=
  ∃ A c, w.heap[mb]? = some (.cells (mkCells A xs.length c at_ nodes) 68 (0, 0)) ∧ IntsAt w mb A xs
structure XsOK (xs : List Int) : Prop where
  len : xs.length ≤ 9223372036854775807
  fit : ∀ j, j < xs.length → fits (xs[j]?.getD 0)
theorem MkSt.lt {w : World} {mb : Nat} {xs : List Int} {a n : Nat} (h : MkSt w mb xs a n) : mb < w.heap.size := by
  obtain ⟨A, c, h, _⟩ := h
  exact (Array.getElem?_eq_some_iff.1 h).1
theorem MkSt.grow {w w' : World} {mb : Nat} {xs : List Int} {a n : Nat} (h : MkSt w mb xs a n) (hb : Below w.heap.size w w') : MkSt w' mb xs a n := by
  have hl := h.lt
  obtain ⟨A, c, h1, h2⟩ := h
  exact ⟨A, c, (hb.block mb hl).trans h1, h2.keep (hb.mono (by omega))⟩
theorem MkSt.draws {w : World} {mb : Nat} {xs : List Int} {a n : Nat} (h : MkSt w mb xs a n) (q : Nat) : MkSt (w.drewN q) mb xs a n := by
  obtain ⟨A, c, h1, h2⟩ := h
  exact ⟨A, c, h1, h2⟩
theorem MkSt.setAt {w : World} {mb : Nat} {xs : List Int} {a n : Nat} (h : MkSt w mb xs a n) (a' : Nat) : MkSt (w.setCell ⟨mb, 1, none⟩ (I a')) mb xs a' n := by
  obtain ⟨A, c, h1, h2⟩ := h
  exact ⟨A, c, by rw [heap_setCell_same w mb 1 _ _ _ h1]; rfl, h2.keep ((Below.refl mb w).setCell (p := ⟨mb, 1, none⟩) (Nat.le_refl _) _)⟩
theorem MkSt.setNodes {w : World} {mb : Nat} {xs : List Int} {a n : Nat} (h : MkSt w mb xs a n) (n' : Nat) : MkSt (w.setCell ⟨mb, 3, none⟩ (I n')) mb xs a n' := by
  obtain ⟨A, c, h1, h2⟩ := h
  exact ⟨A, c, by rw [heap_setCell_same w mb 3 _ _ _ h1]; rfl, h2.keep ((Below.refl mb w).setCell (p := ⟨mb, 3, none⟩) (Nat.le_refl _) _)⟩
def Picked (w : World) (mb : Nat) (xs : List Int) (at_ nodes : Nat) (n : Int) (e : Ending) (w' : World) : Prop :=
  ∃ r, e = .returned (I r) ∧ 0 ≤ r ∧ r < n ∧ MkSt w' mb xs (at_ + 1) nodes ∧ MKeep mb w w'
set_option maxRecDepth 10000 in
set_option maxHeartbeats 1000000 in
theorem pick_any (w : World) (mb : Nat) (xs : List Int) (at_ nodes : Nat) (n : Int) (h : MkSt w mb xs at_ nodes) (hx : XsOK xs) (hat : at_ ≤ 1000000000) (hn : 0 < n) (hn2 : n ≤ 1000000000000000000) :
    Calls Tryz.prog 30 #[pt mb, I n] w (Picked w mb xs at_ nodes n) := by
  have HS := Lib.hid (h.setAt (at_ + 1))
  have HK := Lib.hid ((MKeep.refl mb w).set 1 (I ((at_ + 1 : Nat) : Int)))
  obtain ⟨A, c, h1, h2⟩ := h
  have c0 : w.cell? ⟨mb, 0, none⟩ = some (.slice A xs.length c) := cell_of_row w mb 0 _ _ _ h1
  have c1 : w.cell? ⟨mb, 1, none⟩ = some (I at_) := cell_of_row w mb 1 _ _ _ h1
  have f1 := frozen_of_row w mb 1 _ _ h1
  have hl := hx.len
  by_cases hle : at_ < xs.length
  · have hfx := hx.fit at_ hle
    rcases h2 with h2 | ⟨b, off, rfl, hbm, hc⟩
    · omega
    have hcx := hc at_ hle
    obtain ⟨x, hx0⟩ : ∃ x, xs[at_]?.getD 0 = x := ⟨_, rfl⟩
    rw [hx0] at hcx hfx
    have hltI : (at_ : Int) < (xs.length : Int) := by omega
    have hne : ¬ b = mb := by omega
    have hwr : IntKind.i64.wrap (at_ : Int) = (at_ : Int) := by rw [IntKind.wrap_i64]; omega
    have h0I : (0 : Int) ≤ (at_ : Int) := by omega
    have hd : decide ((xs.length : Int) < (at_ : Int) + 1) = false := decide_eq_false (by omega)
    have HM := Lib.hid (fun W => mod_any x n W hn hn2 hfx)
    clear hx0 hc h1 hx hfx
    go_enter Tryz.func30, Tryz.ntmps30
    go_wp2
    go_quiet (fail)
    go_wp2
    have HS1 := Lib.hid (HS.out.draws nq)
    have HK1 := Lib.hid (HK.out.draws nq)
    have k0 : ((w.setCell ⟨mb, 1, none⟩ (I ((at_ + 1 : Nat) : Int))).drewN nq).cell? ⟨mb, 0, none⟩ = some (.slice (some ⟨b, off, none⟩) xs.length c) := (World.cell?_setCell_other _ _ _ _ (by intro e; injection e with _ e2; omega)).trans c0
    have k1 : ((w.setCell ⟨mb, 1, none⟩ (I ((at_ + 1 : Nat) : Int))).drewN nq).cell? ⟨mb, 1, none⟩ = some (I ((at_ : Int) + 1)) := World.cell?_setCell_same' _ _ _ (by rw [c1]; rfl)
    have k2 : ((w.setCell ⟨mb, 1, none⟩ (I ((at_ + 1 : Nat) : Int))).drewN nq).cell? ⟨b, off + at_, none⟩ = some (I x) := (World.cell?_setCell_other _ _ _ _ (by intro e; injection e with e1; omega)).trans hcx
    obtain ⟨W1, hW1⟩ : ∃ W, (w.setCell ⟨mb, 1, none⟩ (I ((at_ + 1 : Nat) : Int))).drewN nq = W := ⟨_, rfl⟩
    rw [hW1] at HS1 HK1 k0 k1 k2
    have hW1' : (w.setCell ⟨mb, 1, none⟩ (Value.int IntKind.i64 ((at_ : Int) + 1))).drewN nq = W1 := hW1
    rw [hW1']
    clear hW1 hW1' HS HK c0 c1 hcx f1
    go_quiet (first | (go_at_call 33; refine Calls.quiet_of_same (HM.out _)))
    go_wp2
    go_ret
    exact ⟨_, rfl, Int.emod_nonneg _ (by omega), Int.emod_lt_of_pos _ hn, HS1.out.draws _, HK1.out.draws _⟩
  · have hd : decide ((xs.length : Int) < (at_ : Int) + 1) = true := decide_eq_true (by omega)
    have hdI : (xs.length : Int) < (at_ : Int) + 1 := by omega
    clear h1 h2 hx
    go_enter Tryz.func30, Tryz.ntmps30
    go_wp2
    go_quiet (fail)
    go_wp2
    go_ret
    exact ⟨0, rfl, Int.le_refl _, hn, HS.out.draws _, HK.out.draws _⟩
end Go.Proofs.YthhbbebabmemfaaGreat
