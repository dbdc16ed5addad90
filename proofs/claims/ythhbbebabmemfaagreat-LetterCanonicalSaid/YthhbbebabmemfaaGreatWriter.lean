/- (*letter.writer).number: the lowest bytes of a number, appended. -/
import Derived.Test.YthhbbebabmemfaaGreatSmall
import Derived.BigQuiet
import Derived.Deep.AppendLies
import Derived.Deep.CutBlock
import Derived.Deep.DeepCutAuto
import Derived.Deep.DrawnRows
import Derived.Deep.MidRow
import Derived.Deep.QuietTactic
import Derived.Deep.RegionHeld3
import Derived.Deep.RegionLaw
import Derived.Deep.WholeRow
import Derived.Great.BuildSlice
import Derived.Laws.BytesString
import Derived.Laws.CopyOwn
import Derived.Laws.EntriesVeiled
import Derived.Laws.MakeOwn
import Derived.Laws.ResultCell
import Derived.Laws.Rows
import Derived.Laws.Tables
import Derived.Lib.Hide
import Derived.LoopIn
import Derived.LoopNIn
import Derived.Maps.AppendAt
import Derived.Outline
import Derived.OwnWalkIn
import Derived.RangeFuncBound
import Derived.RangeFuncBox
import Derived.RangeFuncCalls
import Derived.RangeFuncLeaves
import Derived.RangeFuncNested
import Derived.Shelf.Abstract
import Derived.Shelf.Bytes.SlSmallAll
import Derived.Shelf.RegionOpen
import Derived.StillTailTactics
import Derived.Stop.BytesEq
import Derived.TacticsInMore
import Derived.WalkKit
import Derived.WalkLawsBesides
import Derived.WalkSpells
namespace Go.Proofs.YthhbbebabmemfaaGreat
open Go Go.RowKit

def byteOf (n : Int) : UInt8 := UInt8.ofNat (n % 256).toNat
theorem byteOf_cell (n : Int) : Extern.Stop.cell (byteOf n) = .int .u8 (n % 256) := by
  have h0 : 0 ≤ n % 256 := Int.emod_nonneg _ (by omega)
  have h1 : n % 256 < 256 := Int.emod_lt_of_pos _ (by omega)
  have h2 : (n % 256).toNat < 256 := by omega
  have h3 : (UInt8.ofNat (n % 256).toNat).toNat = (n % 256).toNat := by rw [UInt8.toNat_ofNat']; exact Nat.mod_eq_of_lt h2
  show Value.int .u8 (((UInt8.ofNat (n % 256).toNat).toNat : Nat) : Int) = _
  rw [h3, Int.toNat_of_nonneg h0]
def le : Int → Nat → List UInt8
  | _, 0 => []
  | n, s + 1 => byteOf n :: le (n / 256) s
def shiftBy : Int → Nat → Int
  | n, 0 => n
  | n, k + 1 => shiftBy n k / 256
theorem shiftBy_div (n : Int) (k : Nat) : shiftBy (n / 256) k = shiftBy n (k + 1) := by
  induction k with
  | zero => rfl
  | succ k ih => show shiftBy (n / 256) k / 256 = _; rw [ih]; rfl
theorem le_snoc (n : Int) (k : Nat) : le n (k + 1) = le n k ++ [byteOf (shiftBy n k)] := by
  induction k generalizing n with
  | zero => rfl
  | succ k ih => rw [le, ih, shiftBy_div]; rfl
theorem le_length (n : Int) (k : Nat) : (le n k).length = k := by
  induction k generalizing n with
  | zero => rfl
  | succ k ih => simp [le, ih]
theorem shiftBy_bd (n : Int) (k : Nat) (h0 : -9223372036854775808 ≤ n) (h1 : n ≤ 9223372036854775807) : -9223372036854775808 ≤ shiftBy n k ∧ shiftBy n k ≤ 9223372036854775807 := by
  induction k with
  | zero => exact ⟨h0, h1⟩
  | succ k ih => unfold shiftBy; omega

/-- The writer at block g: the letter's address, and the bytes written so far in a row of their own. -/
def WSt (w : World) (g : Nat) (lp v : Value) (bs : List UInt8) : Prop :=
  w.heap[g]? = some (.cells #[lp, v] 64 (0, 0)) ∧ w.ownsRow (g + 1) 5 1 v bs.length (bs.map Extern.Stop.cell)
/-- Only the writer, the row of its bytes and new blocks have changed. -/
structure WKeep (g : Nat) (v : Value) (w : World) (v' : Value) (w' : World) : Prop where
  os : w'.os = w.os
  tape : w'.tape = w.tape
  output : w'.output = w.output
  size : w.heap.size ≤ w'.heap.size
  block : ∀ k, k < w.heap.size → k ≠ g → some k ≠ v.ownBlock → w'.heap[k]? = w.heap[k]?
  own : v'.ownBlock = v.ownBlock ∨ ∃ b, v'.ownBlock = some b ∧ w.heap.size ≤ b
theorem WKeep.refl (g : Nat) (v : Value) (w : World) : WKeep g v w v w := ⟨rfl, rfl, rfl, Nat.le_refl _, fun _ _ _ _ => rfl, .inl rfl⟩
theorem WKeep.trans {g : Nat} {v v1 v2 : Value} {w w1 w2 : World} (h : WKeep g v w v1 w1) (k : WKeep g v1 w1 v2 w2) : WKeep g v w v2 w2 := by
  refine ⟨k.os.trans h.os, k.tape.trans h.tape, k.output.trans h.output, Nat.le_trans h.size k.size, fun b hb hg hv => ?_, ?_⟩
  · refine (k.block b (Nat.lt_of_lt_of_le hb h.size) hg ?_).trans (h.block b hb hg hv)
    rcases h.own with e | ⟨b1, e, hb1⟩
    · rw [e]; exact hv
    · rw [e]; intro h'; injection h' with h'; omega
  · rcases k.own with e | ⟨b, e, hb⟩
    · rcases h.own with e1 | ⟨b1, e1, hb1⟩
      · exact .inl (e.trans e1)
      · exact .inr ⟨b1, e.trans e1, hb1⟩
    · exact .inr ⟨b, e, Nat.le_trans h.size hb⟩
theorem ownsRow_far {w : World} {base e size n : Nat} {v u : Value} {xs : List Value} {p : Addr} (h : w.ownsRow base e size v n xs) (hp : some p.block ≠ v.ownBlock) : (w.setCell p u).ownsRow base e size v n xs := by
  refine ⟨h.1, ?_⟩
  rcases h.2 with h | ⟨g, cap, cur, rfl, hg, hh, h1, h2, h3, h4⟩
  · exact .inl h
  · refine .inr ⟨g, cap, cur, rfl, hg, ?_, h1, h2, h3, h4⟩
    rw [heap_setCell_other w p g u (fun e => hp (by rw [← e]; rfl))]
    exact hh
theorem own_ge {w : World} {base e size n : Nat} {v : Value} {xs : List Value} (h : w.ownsRow base e size v n xs) (b : Nat) (hb : b < base) : some b ≠ v.ownBlock := by
  rcases h.2 with ⟨rfl, _⟩ | ⟨g, cap, cur, rfl, hg, _⟩
  · simp [Value.ownBlock]
  · intro e; have : b = g := by simpa [Value.ownBlock] using e
    omega
theorem own_form {w : World} {base e size n : Nat} {v : Value} {xs : List Value} (h : w.ownsRow base e size v n xs) (hn : 0 < n) : ∃ g cap, v = .slice (some ⟨g, 0, none⟩) n cap ∧ g < w.heap.size := by
  rcases h.2 with ⟨_, h0⟩ | ⟨g, cap, cur, rfl, _, hh, _⟩
  · omega
  · exact ⟨g, cap, rfl, (Array.getElem?_eq_some_iff.1 hh).1⟩
theorem own_lt {w : World} {base e size n : Nat} {v : Value} {xs : List Value} (h : w.ownsRow base e size v n xs) : ∀ b, v.ownBlock = some b → b < w.heap.size := by
  intro b hb
  rcases h.2 with ⟨rfl, _⟩ | ⟨g, cap, cur, rfl, _, hh, _⟩
  · simp [Value.ownBlock] at hb
  · have : g = b := by simpa [Value.ownBlock] using hb
    subst this; exact (Array.getElem?_eq_some_iff.1 hh).1
/-- One byte more. -/
theorem wst_step {w w1 : World} {g : Nat} {lp v v' : Value} {bs : List UInt8} {c : UInt8} {o : Obj} (h : WSt w g lp v bs) (hg : g < w.heap.size)
    (hown : w1.ownsRow (g + 1) 5 1 v' (bs.length + 1) (bs.map Extern.Stop.cell ++ [Extern.Stop.cell c])) (hgrow : (w.alloc o).grownBy w1 v.ownBlock)
    (hat : v'.ownBlock = v.ownBlock ∨ v'.ownBlock = some (w.heap.size + 1)) :
    w1.heap[g]? = some (.cells #[lp, v] 64 (0, 0)) ∧ WSt (w1.setCell ⟨g, 1, none⟩ v') g lp v' (bs ++ [c]) ∧ WKeep g v w v' (w1.setCell ⟨g, 1, none⟩ v') := by
  have hne : some g ≠ v.ownBlock := own_ge h.2 g (Nat.lt_succ_self g)
  have hg1 : w1.heap[g]? = some (.cells #[lp, v] 64 (0, 0)) := by
    rw [hgrow.block g (by simp; omega) hne, Below.heap_alloc w o g hg]; exact h.1
  refine ⟨hg1, ⟨?_, ?_⟩, ?_⟩
  · rw [heap_setCell_same w1 g 1 _ _ v' hg1]; rfl
  · have := ownsRow_far (u := v') (p := ⟨g, 1, none⟩) hown (own_ge hown g (Nat.lt_succ_self g))
    simpa using this
  · refine ⟨hgrow.os, hgrow.tape, hgrow.output, ?_, fun k hk hkg hkv => ?_, ?_⟩
    · have := hgrow.size; simp [World.setCell] at this ⊢; omega
    · rw [heap_setCell_other w1 _ k v' hkg, hgrow.block k (by simp; omega) hkv, Below.heap_alloc w o k hk]
    · rcases hat with e | e
      · exact .inl e
      · exact .inr ⟨_, e, by omega⟩

theorem info_u8 : (Tryz.prog.info? 5).map (fun i => (i.zero, i.size, i.bytes)) = some (some (.int .u8 0), 1, 1) := by kernel_rfl
def NumPost (w : World) (g : Nat) (lp v : Value) (bs : List UInt8) (e : Ending) (w' : World) : Prop :=
  e = .returned (.tuple #[]) ∧ ∃ v', WSt w' g lp v' bs ∧ WKeep g v w v' w'
def NumRel (w : World) (g : Nat) (lp v : Value) (bs : List UInt8) (n : Int) (size : Nat) (x i : Value) (wr : World) : Prop :=
  ∃ k : Nat, k ≤ size ∧ i = .int .i64 k ∧ x = .int .i64 (shiftBy n k) ∧ ∃ v', WSt wr g lp v' (bs ++ le n k) ∧ WKeep g v w v' wr
set_option maxRecDepth 10000 in
set_option maxHeartbeats 1000000 in
theorem number_any (w : World) (g : Nat) (lp v : Value) (bs : List UInt8) (n : Int) (size : Nat) (hn0 : -9223372036854775808 ≤ n) (hn1 : n ≤ 9223372036854775807) (hs : size ≤ 8) (hl : bs.length ≤ 1099511627776) (hg : g < w.heap.size) (hst : WSt w g lp v bs) :
    Calls Tryz.prog 24 #[.pointer (some ⟨g, 0, none⟩), I n, I size] w (NumPost w g lp v (bs ++ le n size)) := by
  obtain ⟨i0, hi, hz0, hz1, hz2⟩ := info_parts info_u8
  have HST := Lib.hid hst
  clear hst
  go_enter Tryz.func24, Tryz.ntmps24
  go_wp2
  go_loopw [1, 7] (fun x i wr => NumRel w g lp v bs n size x i wr) (fun _ i _ => size - (intOf i).toNat)
  case atStart => exact ⟨0, Nat.zero_le _, rfl, rfl, v, by simpa [le] using HST.out, WKeep.refl _ _ _⟩
  case round =>
    obtain ⟨k, hk, rfl, rfl, v1, hw1, hk1⟩ := hrel
    by_cases hlt : k < size
    · obtain ⟨x, hx⟩ : ∃ x, shiftBy n k = x := ⟨_, rfl⟩
      have hbd := shiftBy_bd n k hn0 hn1
      rw [hx] at hbd ⊢
      have HX := Lib.hid hx
      obtain ⟨B, hB⟩ : ∃ B, bs ++ le n k = B := ⟨_, rfl⟩
      have hlen : B.length ≤ 1099511627784 := by rw [← hB, List.length_append, le_length]; omega
      rw [hB] at hw1
      have HBB := Lib.hid hB
      have hc := cell_of_row wr g 1 _ _ _ hw1.1
      have hgr : g < wr.heap.size := Nat.lt_of_lt_of_le hg hk1.size
      have HW := Lib.hid hw1
      have HK := Lib.hid hk1
      have hown := Lib.hid hw1.2
      clear hx hw1 hk1 hB
      go_wp2_with (at_builtin; refine wpList_append_own_at _ rfl _ _ 22 rfl (g + 1) 5 i0 (.int .u8 0) 1 1 Tryz.underlying22 hi hz0 hz1 hz2 rfl (by decide) _ _ _ rfl (hown.out.alloc _) ⟨wr.heap.size, 0, none⟩ 1 1 [Extern.Stop.cell (byteOf x)] rfl rfl ?c1 ?c2 ?c3 ?c4 ?c5 ?_)
      case c1 =>
        rw [byteOf_cell]
        exact cell_one_new _ _ _
      case c2 => intro u hu; simp at hu; subst hu; rfl
      case c3 => unfold maxLen; omega
      case c4 => omega
      case c5 => simp; omega
      intro v' w1 hown' hgrow _ hat
      obtain ⟨hg1, hst1, hkp1⟩ := wst_step HW.out hgr hown' hgrow hat
      obtain ⟨g', cap', rfl, _⟩ := own_form hown' (Nat.succ_pos _)
      have hc1 := cell_of_row w1 g 1 _ _ _ hg1
      have hf1 := frozen_of_row w1 g 1 _ _ hg1
      have HST1 := Lib.hid hst1
      have HKP1 := Lib.hid hkp1
      clear hown' hgrow hat hg1 hst1 hkp1 hc
      go_wp2
      go_roundw
      case rel => exact ⟨k + 1, by omega, by go_num, by unfold shiftBy; rw [HX.out], _, by rw [le_snoc, ← List.append_assoc, HBB.out, HX.out]; exact HST1.out, HK.out.trans HKP1.out⟩
      case measure => simp [intOf]; omega
    · have hke : k = size := by omega
      have HKE := Lib.hid hke
      have HW := Lib.hid hw1
      have HK := Lib.hid hk1
      clear hke hw1 hk1
      go_wp2
      go_end0
      exact ⟨rfl, v1, by rw [← HKE.out]; exact HW.out, HK.out⟩
end Go.Proofs.YthhbbebabmemfaaGreat
