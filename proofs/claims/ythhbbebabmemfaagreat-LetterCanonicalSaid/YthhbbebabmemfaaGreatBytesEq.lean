/- bytes.Equal, slices.Equal of bytes, kalendsref20.SameBytes: two slices of bytes. -/
import Derived.Test.YthhbbebabmemfaaGreatCells
import Derived.BigQuiet
import Derived.Deep.AppendLies
import Derived.Deep.CutBlock
import Derived.Deep.DeepCutAuto
import Derived.Deep.DrawnRows
import Derived.Deep.MidRow
import Derived.Deep.QuietTactic
import Derived.Deep.RegionHeld3
import Derived.Deep.RegionLaw
import Derived.Deep.WholeRow
import Derived.Great.BuildSlice
import Derived.Laws.BytesString
import Derived.Laws.CopyOwn
import Derived.Laws.EntriesVeiled
import Derived.Laws.MakeOwn
import Derived.Laws.ResultCell
import Derived.Laws.Rows
import Derived.Laws.Tables
import Derived.Lib.Hide
import Derived.LoopIn
import Derived.LoopNIn
import Derived.Maps.AppendAt
import Derived.Outline
import Derived.OwnWalkIn
import Derived.RangeFuncBound
import Derived.RangeFuncBox
import Derived.RangeFuncCalls
import Derived.RangeFuncLeaves
import Derived.RangeFuncNested
import Derived.Shelf.Abstract
import Derived.Shelf.Bytes.SlSmallAll
import Derived.Shelf.RegionOpen
import Derived.StillTailTactics
import Derived.Stop.BytesEq
import Derived.TacticsInMore
import Derived.WalkKit
import Derived.WalkLawsBesides
import Derived.WalkSpells
namespace Go.Proofs.YthhbbebabmemfaaGreat
open Go Go.RowKit

/-- A slice of bytes with this address reads as bs, below block B. -/
def BytesAt (w : World) (B : Nat) (A : Option Addr) (bs : List UInt8) : Prop :=
  bs.length = 0 ∨ ∃ b off, A = some ⟨b, off, none⟩ ∧ b < B ∧ ∀ j, j < bs.length → w.cell? ⟨b, off + j, none⟩ = some (Extern.Stop.cell (bs[j]?.getD 0))
theorem BytesAt.keep {w w' : World} {B : Nat} {A : Option Addr} {bs : List UInt8} (h : BytesAt w B A bs) (hb : Below B w w') : BytesAt w' B A bs := by
  rcases h with h | ⟨b, off, hA, hbB, hc⟩
  · exact .inl h
  · exact .inr ⟨b, off, hA, hbB, fun j hj => (hb.cell (p := ⟨b, off + j, none⟩) hbB).trans (hc j hj)⟩
theorem BytesAt.more {w : World} {B B' : Nat} {A : Option Addr} {bs : List UInt8} (h : BytesAt w B A bs) (hB : B ≤ B') : BytesAt w B' A bs := by
  rcases h with h | ⟨b, off, hA, hbB, hc⟩
  · exact .inl h
  · exact .inr ⟨b, off, hA, by omega, hc⟩

theorem beq_take (xs ys : List UInt8) (hl : xs.length = ys.length) : (∀ j, j < xs.length → xs[j]?.getD 0 = ys[j]?.getD 0) ↔ xs = ys := by
  constructor
  · intro h
    apply List.ext_getElem hl
    intro i h1 h2
    have := h i h1
    simpa [h1, h2] using this
  · rintro rfl _ _; rfl
def SameRel (n : Nat) (xs ys : List UInt8) (i : Value) : Prop := ∃ k : Nat, k ≤ n ∧ i = .int .i64 k ∧ ∀ j, j < k → xs[j]?.getD 0 = ys[j]?.getD 0

set_option maxRecDepth 10000 in
set_option maxHeartbeats 1000000 in
theorem sameBytes_ne (A B : Option Addr) (n m c d : Nat) (w : World) (h : n ≠ m) :
    Calls Tryz.prog 7 #[.slice A n c, .slice B m d] w fun e w' => e = .returned (.bool false) ∧ w = w' := by
  have hb : ((n : Int) != (m : Int)) = true := by rw [neq_dec]; exact decide_eq_true (by omega)
  go_enter Tryz.func7, Tryz.ntmps7
  go_wp2
  go_ret
  exact ⟨rfl, rfl⟩
theorem cell_int (x : UInt8) : Extern.Stop.cell x = .int .u8 (x.toNat : Int) := rfl
theorem cells_ne {x y : UInt8} (h : x ≠ y) : ((x.toNat : Int) != (y.toNat : Int)) = true := by
  rw [neq_dec]; exact decide_eq_true (fun e => h (UInt8.toNat_inj.1 (by omega)))
theorem cells_same (x : UInt8) : ((x.toNat : Int) != (x.toNat : Int)) = false := by
  rw [neq_dec]; exact decide_eq_false (by omega)
theorem below_drewN' (w : World) (k : Nat) : Below w.heap.size w (w.drewN k) := below_drewN (Below.refl _ _) k
set_option maxRecDepth 10000 in
set_option maxHeartbeats 1000000 in
theorem sameBytes_some (b1 o1 b2 o2 n c d : Nat) (xs ys : List UInt8) (hx : xs.length = n) (hy : ys.length = n) (w : World) (hA : ∀ j, j < n → w.cell? ⟨b1, o1 + j, none⟩ = some (Extern.Stop.cell (xs[j]?.getD 0))) (hB : ∀ j, j < n → w.cell? ⟨b2, o2 + j, none⟩ = some (Extern.Stop.cell (ys[j]?.getD 0))) (hn : n ≤ 140737488355328) :
    Calls Tryz.prog 7 #[.slice (some ⟨b1, o1, none⟩) n c, .slice (some ⟨b2, o2, none⟩) n d] w (Gives (.bool (xs == ys)) w) := by
  have hb : ((n : Int) != (n : Int)) = false := by rw [neq_dec]; exact decide_eq_false (by omega)
  have HX := Lib.hid hx
  have HY := Lib.hid hy
  have HA := Lib.hid hA
  have HB := Lib.hid hB
  clear hx hy hA hB
  go_enter Tryz.func7, Tryz.ntmps7
  go_wp2
  go_loopw [5] (fun i wr => SameRel n xs ys i ∧ ∃ q, wr = w.drewN q) (fun i _ => n - (intOf i).toNat)
  case atStart => exact ⟨⟨0, Nat.zero_le _, rfl, fun j hj => absurd hj (by omega)⟩, 0, rfl⟩
  case round =>
    obtain ⟨⟨k, hk, rfl, hall⟩, q, rfl⟩ := hrel
    have HL := Lib.hid hall
    clear hall
    by_cases hlt : k < n
    · have h1 := HA.out k hlt
      have h2 := HB.out k hlt
      obtain ⟨x, hx⟩ : ∃ x, xs[k]?.getD 0 = x := ⟨_, rfl⟩
      obtain ⟨y, hy⟩ : ∃ y, ys[k]?.getD 0 = y := ⟨_, rfl⟩
      rw [hx, cell_int] at h1
      rw [hy, cell_int] at h2
      have HX1 := Lib.hid hx
      have HY1 := Lib.hid hy
      clear hx hy
      have i0 : (0 : Int) ≤ (k : Int) := by omega
      have i1 : (k : Int) < (n : Int) := by omega
      by_cases hxy : x = y
      · subst hxy
        have hne := cells_same x
        go_wp2
        go_quiet (fail)
        go_wp2
        go_roundw
        case rel => exact ⟨⟨k + 1, by omega, by go_num, fun j hj => by
            rcases Nat.lt_succ_iff_lt_or_eq.1 hj with h | h
            · exact HL.out j h
            · subst h; rw [HX1.out, HY1.out]⟩, _, rfl⟩
        case measure => simp [intOf]; omega
      · have hne := cells_ne hxy
        have HXY := Lib.hid hxy
        clear hxy
        go_wp2
        go_quiet (fail)
        go_wp2
        go_ret
        refine ⟨ret_bool ?_, ?_⟩
        · symm; rw [beq_eq_false_iff_ne]; intro e; exact HXY.out (by rw [← HX1.out, ← HY1.out, e])
        · first | exact below_drewN' _ _ | (rw [World.drewN_drewN]; exact below_drewN' _ _)
    · have he : xs = ys := (beq_take xs ys (HX.out.trans HY.out.symm)).1 (fun j hj => HL.out j (by have := HX.out; omega))
      have HE := Lib.hid he
      clear he
      go_wp2
      go_ret
      exact ⟨ret_bool (by rw [HE.out]; simp), below_drewN' _ _⟩
set_option maxRecDepth 10000 in
set_option maxHeartbeats 1000000 in
theorem sameBytes_none (A B : Option Addr) (c d : Nat) (w : World) :
    Calls Tryz.prog 7 #[.slice A 0 c, .slice B 0 d] w (Gives (.bool true) w) := by
  go_enter Tryz.func7, Tryz.ntmps7
  go_wp2
  go_loop [5] (fun i => i = .int .i64 0) (fun _ => 0)
  case atStart => rfl
  case round =>
    subst hrel
    go_wp2
    go_ret
    exact ⟨rfl, Below.refl _ _⟩
theorem sameBytes_any (A B : Option Addr) (c d : Nat) (xs ys : List UInt8) (w : World) (hA : BytesAt w w.heap.size A xs) (hB : BytesAt w w.heap.size B ys) (hn : xs.length ≤ 140737488355328) :
    Calls Tryz.prog 7 #[.slice A xs.length c, .slice B ys.length d] w (Gives (.bool (xs == ys)) w) := by
  by_cases h : xs.length = ys.length
  · by_cases h0 : xs.length = 0
    · have h1 : ys.length = 0 := by omega
      have e1 := List.eq_nil_of_length_eq_zero h0
      have e2 := List.eq_nil_of_length_eq_zero h1
      subst e1 e2
      exact sameBytes_none A B c d w
    · rcases hA with hA | ⟨b1, o1, rfl, _, hc1⟩
      · exact absurd hA h0
      · rcases hB with hB | ⟨b2, o2, rfl, _, hc2⟩
        · omega
        · rw [← h]
          exact sameBytes_some b1 o1 b2 o2 _ c d xs ys rfl h.symm w hc1 (fun j hj => hc2 j (by omega)) hn
  · have e : (xs == ys) = false := beq_eq_false_iff_ne.2 (fun e => h (by rw [e]))
    rw [e]
    exact (sameBytes_ne A B _ _ c d w h).mono fun e w' ⟨he, hw⟩ => ⟨he, by rw [← hw]; exact Below.refl _ _⟩
end Go.Proofs.YthhbbebabmemfaaGreat
