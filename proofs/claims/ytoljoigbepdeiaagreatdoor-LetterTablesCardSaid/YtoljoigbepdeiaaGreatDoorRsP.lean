/- Numbers written and read again (plain). -/
import Derived.Test.YtoljoigbepdeiaaGreatDoorReadNum
import Derived.Test.YtoljoigbepdeiaaGreatDoorRsN
import Derived.BigQuiet
import Derived.Deep.AppendLies
import Derived.Deep.CutBlock
import Derived.Deep.DeepCutAuto
import Derived.Deep.DrawnRows
import Derived.Deep.MidRow
import Derived.Deep.QuietTactic
import Derived.Deep.RegionHeld3
import Derived.Deep.RegionLaw
import Derived.Deep.WholeRow
import Derived.Great.BuildSlice
import Derived.Laws.BitsAllLaws
import Derived.Laws.BytesString
import Derived.Laws.CopyOwn
import Derived.Laws.Cover3
import Derived.Laws.EntriesVeiled
import Derived.Laws.MakeOwn
import Derived.Laws.ResultCell
import Derived.Laws.Rows
import Derived.Laws.Tables
import Derived.Lib.Hide
import Derived.LoopIn
import Derived.LoopNIn
import Derived.MapKept
import Derived.Maps.AppendAt
import Derived.Outline
import Derived.OwnWalkIn
import Derived.RangeFuncBound
import Derived.RangeFuncBox
import Derived.RangeFuncCalls
import Derived.RangeFuncLeaves
import Derived.RangeFuncNested
import Derived.Shelf.Abstract
import Derived.Shelf.Bytes.SlSmallAll
import Derived.Shelf.RegionOpen
import Derived.StillTailTactics
import Derived.Stop.BytesEq
import Derived.TacticsInMore
import Derived.WalkKit
import Derived.WalkLawsBesides
import Derived.WalkSpells
namespace Go.Proofs.YtoljoigbepdeiaaGreatDoor
open Go Go.RowKit

def hvs (s : Int) (l : List (Nat × UInt8)) : Int := l.foldl (fun s x => s * 256 + (x.2.toNat : Int)) s
set_option maxRecDepth 10000 in
theorem or_mul (a b : Nat) (h : a < 256) : (b * 256) ||| a = b * 256 + a := by
  rw [show b * 256 = b <<< 8 from by rw [Nat.shiftLeft_eq], Nat.shiftLeft_add_eq_or_of_lt (by omega)]
set_option maxRecDepth 10000 in
theorem ustep_mod (s : Int) (c : UInt8) : ustep s c = (s * 256 + (c.toNat : Int)) % 18446744073709551616 := by
  unfold ustep
  have hc := c.toNat_lt
  obtain ⟨b, hb⟩ : ∃ b : Nat, IntKind.u64.wrap (s * 256) = ((b * 256 : Nat) : Int) := by
    rw [show IntKind.u64.wrap (s * 256) = (s * 256) % 18446744073709551616 by simp [IntKind.wrap, IntKind.bits, IntKind.signed]]
    exact ⟨((s * 256) % 18446744073709551616 / 256).toNat, by omega⟩
  have hw : ((b * 256 : Nat) : Int) = (s * 256) % 18446744073709551616 := by rw [← hb]; simp [IntKind.wrap, IntKind.bits, IntKind.signed]
  rw [hb, u64_or_nat _ _ (by omega) (by omega), or_mul _ _ (by omega)]
  omega
set_option maxRecDepth 10000 in
theorem rstep_wrap (s : Int) (c : UInt8) : rstep s c = wrap64 (s * 256 + (c.toNat : Int)) := by
  have hc := c.toNat_lt
  have h1 := ustep_mod s c
  unfold ustep at h1
  have key : ∀ x y : Int, bits BinOp.or IntKind.i64 (wrap64 x) y = wrap64 (bits BinOp.or IntKind.u64 (IntKind.u64.wrap x) y) := by
    intro x y
    have e : BitVec.ofInt 64 (wrap64 x) = BitVec.ofInt 64 (IntKind.u64.wrap x) := by
      apply BitVec.eq_of_toInt_eq
      rw [BitVec.toInt_ofInt, BitVec.toInt_ofInt, show IntKind.u64.wrap x = x % 18446744073709551616 by simp [IntKind.wrap, IntKind.bits, IntKind.signed]]
      unfold wrap64
      simp only [Int.bmod]
      omega
    show IntKind.i64.wrap ((BitVec.ofInt 64 (wrap64 x) ||| BitVec.ofInt 64 y).toNat : Int) = wrap64 (IntKind.u64.wrap ((BitVec.ofInt 64 (IntKind.u64.wrap x) ||| BitVec.ofInt 64 y).toNat : Int))
    rw [e]
    have hb := (BitVec.ofInt 64 (IntKind.u64.wrap x) ||| BitVec.ofInt 64 y).isLt
    obtain ⟨n, hn⟩ : ∃ n, (BitVec.ofInt 64 (IntKind.u64.wrap x) ||| BitVec.ofInt 64 y).toNat = n := ⟨_, rfl⟩
    rw [hn] at hb ⊢
    rw [IntKind.wrap_i64, show IntKind.u64.wrap (n : Int) = (n : Int) % 18446744073709551616 by simp [IntKind.wrap, IntKind.bits, IntKind.signed]]
    unfold wrap64
    omega
  unfold rstep
  rw [key, h1]
  unfold wrap64
  omega
set_option maxRecDepth 10000 in
theorem foldU (l : List (Nat × UInt8)) : ∀ s t : Int, s = t % 18446744073709551616 → l.foldl (fun s x => ustep s x.2) s = hvs t l % 18446744073709551616 := by
  induction l with
  | nil => intro s t h; exact h
  | cons x l ih =>
    intro s t h
    rw [List.foldl_cons]
    refine ih _ (t * 256 + (x.2.toNat : Int)) ?_
    rw [ustep_mod]
    omega
set_option maxRecDepth 10000 in
theorem foldR (l : List (Nat × UInt8)) : ∀ s t : Int, s = wrap64 t → l.foldl (fun s x => rstep s x.2) s = wrap64 (hvs t l) := by
  induction l with
  | nil => intro s t h; exact h
  | cons x l ih =>
    intro s t h
    rw [List.foldl_cons]
    refine ih _ (t * 256 + (x.2.toNat : Int)) ?_
    rw [rstep_wrap]
    unfold wrap64 at *
    omega
set_option maxRecDepth 10000 in
theorem byteOf_nat (n : Int) : ((byteOf n).toNat : Int) = n % 256 := by
  have h := byteOf_cell n
  unfold Extern.Stop.cell at h
  injection h
set_option maxRecDepth 10000 in
theorem hvs8 (x : Int) (hx : fits x) : wrap64 (hvs 0 (upto (bk (le x 8)) 8)) = x := by
  have e : hvs 0 (upto (bk (le x 8)) 8) = (((((((((0 * 256 + ((byteOf (x / 256 / 256 / 256 / 256 / 256 / 256 / 256)).toNat : Int)) * 256 + ((byteOf (x / 256 / 256 / 256 / 256 / 256 / 256)).toNat : Int)) * 256 + ((byteOf (x / 256 / 256 / 256 / 256 / 256)).toNat : Int)) * 256 + ((byteOf (x / 256 / 256 / 256 / 256)).toNat : Int)) * 256 + ((byteOf (x / 256 / 256 / 256)).toNat : Int)) * 256 + ((byteOf (x / 256 / 256)).toNat : Int)) * 256 + ((byteOf (x / 256)).toNat : Int)) * 256 + ((byteOf x).toNat : Int))) := rfl
  rw [e]
  simp only [byteOf_nat]
  unfold fits at hx
  unfold wrap64
  omega
set_option maxRecDepth 10000 in
theorem hvs4 (x : Int) (h0 : 0 ≤ x) (h1 : x < 4294967296) : wrap64 (hvs 0 (upto (bk (le x 4)) 4)) = x := by
  have e : hvs 0 (upto (bk (le x 4)) 4) = ((((0 * 256 + ((byteOf (x / 256 / 256 / 256)).toNat : Int)) * 256 + ((byteOf (x / 256 / 256)).toNat : Int)) * 256 + ((byteOf (x / 256)).toNat : Int)) * 256 + ((byteOf x).toNat : Int)) := rfl
  rw [e]
  simp only [byteOf_nat]
  unfold wrap64
  omega
set_option maxRecDepth 10000 in
theorem hvs1 (x : Int) (h0 : 0 ≤ x) (h1 : x < 256) : wrap64 (hvs 0 (upto (bk (le x 1)) 1)) = x := by
  have e : hvs 0 (upto (bk (le x 1)) 1) = 0 * 256 + ((byteOf x).toNat : Int) := rfl
  rw [e]
  simp only [byteOf_nat]
  unfold wrap64
  omega
set_option maxRecDepth 10000 in
theorem take_le (x : Int) (n : Nat) (R : List UInt8) : (le x n ++ R).take n = le x n := by
  rw [List.take_append_of_le_length (by rw [le_length]; exact Nat.le_refl n), List.take_of_length_le (by rw [le_length]; exact Nat.le_refl n)]
set_option maxRecDepth 10000 in
theorem drop_le (x : Int) (n : Nat) (R : List UInt8) : (le x n ++ R).drop n = R := by
  rw [List.drop_append_of_le_length (by rw [le_length]; exact Nat.le_refl n), List.drop_of_length_le (by rw [le_length]; exact Nat.le_refl n)]
  rfl
set_option maxRecDepth 10000 in
/-- A number of eight bytes, read by the series' reader. -/
theorem num8_le (x : Int) (hx : fits x) (R : List UInt8) : num8 ((le x 8 ++ R).take 8) = x := by
  rw [take_le]
  unfold num8 unleU
  rw [le_length, foldU _ 0 0 (by decide)]
  have h := hvs8 x hx
  obtain ⟨y, hy⟩ : ∃ y, hvs 0 (upto (bk (le x 8)) 8) = y := ⟨_, rfl⟩
  rw [hy] at h ⊢
  rw [← h]
  unfold wrap64
  omega
set_option maxRecDepth 10000 in
theorem tk_le' (x : Int) (n : Nat) (R : List UInt8) : tk (le x n ++ R) false n = le x n ∧ tkR (le x n ++ R) false n = R ∧ tkB (le x n ++ R) false n = false := by
  have e : tkB (le x n ++ R) false n = false := by
    unfold tkB
    rw [Bool.false_or]
    exact decide_eq_false (by rw [List.length_append, le_length]; omega)
  unfold tk tkR
  rw [e]
  exact ⟨take_le x n R, drop_le x n R, rfl⟩
set_option maxRecDepth 10000 in
/-- Numbers, read by the letter's reader. -/
theorem rdN_8 (x : Int) (hx : fits x) (R : List UInt8) : rdN (le x 8 ++ R) false 8 = x := by
  unfold rdN unle
  rw [(tk_le' x 8 R).1, le_length, foldR _ 0 0 (by unfold wrap64; omega)]
  exact hvs8 x hx
set_option maxRecDepth 10000 in
theorem rdN_4 (x : Int) (h0 : 0 ≤ x) (h1 : x < 4294967296) (R : List UInt8) : rdN (le x 4 ++ R) false 4 = x := by
  unfold rdN unle
  rw [(tk_le' x 4 R).1, le_length, foldR _ 0 0 (by unfold wrap64; omega)]
  exact hvs4 x h0 h1
set_option maxRecDepth 10000 in
theorem rdN_1 (x : Int) (h0 : 0 ≤ x) (h1 : x < 256) (R : List UInt8) : rdN (le x 1 ++ R) false 1 = x := by
  unfold rdN unle
  rw [(tk_le' x 1 R).1, le_length, foldR _ 0 0 (by unfold wrap64; omega)]
  exact hvs1 x h0 h1
end Go.Proofs.YtoljoigbepdeiaaGreatDoor
