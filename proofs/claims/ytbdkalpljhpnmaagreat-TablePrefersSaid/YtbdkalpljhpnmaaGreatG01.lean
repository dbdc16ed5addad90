/- The texts TrA, RsP, TrN, TrL, TbY, TbY2, TrI, in this order. -/
import Derived.Test.YtbdkalpljhpnmaaGreatPm
import Derived.Test.YtbdkalpljhpnmaaGreatQa
import Derived.BigQuiet
import Derived.Deep.AppendLies
import Derived.Deep.CutBlock
import Derived.Deep.DeepCutAuto
import Derived.Deep.DrawnRows
import Derived.Deep.MidRow
import Derived.Deep.QuietTactic
import Derived.Deep.RegionHeld3
import Derived.Deep.RegionLaw
import Derived.Deep.WholeRow
import Derived.Great.BuildSlice
import Derived.Laws.BytesString
import Derived.Laws.CopyOwn
import Derived.Laws.EntriesVeiled
import Derived.Laws.MakeOwn
import Derived.Laws.ResultCell
import Derived.Laws.Rows
import Derived.Laws.Tables
import Derived.Lib.Hide
import Derived.LoopIn
import Derived.LoopNIn
import Derived.Maps.AppendAt
import Derived.Outline
import Derived.OwnWalkIn
import Derived.RangeFuncBound
import Derived.RangeFuncBox
import Derived.RangeFuncCalls
import Derived.RangeFuncLeaves
import Derived.RangeFuncNested
import Derived.Shelf.Abstract
import Derived.Shelf.Bytes.SlSmallAll
import Derived.Shelf.RegionOpen
import Derived.StillTailTactics
import Derived.Stop.BytesEq
import Derived.TacticsInMore
import Derived.WalkKit
import Derived.WalkLawsBesides
import Derived.WalkSpells
import Derived.Test.YtbdkalpljhpnmaaGreatQb
import Derived.Laws.BitsAllLaws
import Derived.Laws.Cover3
import Derived.MapKept
import Derived.Lib.ByteType
import Derived.Test.YtbdkalpljhpnmaaGreatPs
import Derived.Test.YtbdkalpljhpnmaaGreatTbM
import Derived.Test.YtbdkalpljhpnmaaGreatTbR
/- The table's reader: take. -/
namespace Go.Proofs.YtbdkalpljhpnmaaGreat
open Go Go.RowKit

/-- The table's reader at block rb: the bytes that are left lie below block M. -/
structure TRd (M : Nat) (w : World) (rb : Nat) (rest : List UInt8) : Prop where
  at_ : ∃ bb off c, w.heap[rb]? = some (.cells #[.slice (some ⟨bb, off, none⟩) rest.length c] 121 (0, 0)) ∧ rest.length ≤ c ∧ c ≤ 9223372036854775807 ∧ bb < M ∧ ∀ j, j < rest.length → w.cell? ⟨bb, off + j, none⟩ = some (Extern.Stop.cell (rest[j]?.getD 0))
  lo : M ≤ rb
theorem TRd.lt {M : Nat} {w : World} {rb : Nat} {rest : List UInt8} (h : TRd M w rb rest) : rb < w.heap.size := by
  obtain ⟨bb, off, c, h1, _⟩ := h.at_
  exact (Array.getElem?_eq_some_iff.1 h1).1
theorem TRd.of {M : Nat} {w w' : World} {rb : Nat} {rest : List UInt8} (h : TRd M w rb rest) (h1 : w'.heap[rb]? = w.heap[rb]?) (h2 : ∀ k, k < M → w'.heap[k]? = w.heap[k]?) : TRd M w' rb rest := by
  obtain ⟨bb, off, c, g1, g2, g3, g4, g5⟩ := h.at_
  exact ⟨⟨bb, off, c, h1.trans g1, g2, g3, g4, fun j hj => (World.cell?_of_block (a := ⟨bb, off + j, none⟩) (h2 bb g4)).trans (g5 j hj)⟩, h.lo⟩
theorem TRd.below {M B : Nat} {w w' : World} {rb : Nat} {rest : List UInt8} (h : TRd M w rb rest) (hb : Below B w w') (hM : rb < B) : TRd M w' rb rest :=
  h.of (hb.block rb hM) fun k hk => hb.block k (by have := h.lo; omega)
theorem TRd.drew {M : Nat} {w : World} {rb : Nat} {rest : List UInt8} (h : TRd M w rb rest) : TRd M w.drew rb rest := h.of rfl fun _ _ => rfl
def GotT (M : Nat) (w : World) (rb n : Nat) (rest : List UInt8) (e : Ending) (w' : World) : Prop :=
  ∃ bb off c, e = .returned (.slice (some ⟨bb, off, none⟩) n c) ∧ n ≤ c ∧ c ≤ 9223372036854775807 ∧ bb < M ∧ (∀ j, j < n → w'.cell? ⟨bb, off + j, none⟩ = some (Extern.Stop.cell ((rest.take n)[j]?.getD 0))) ∧ TRd M w' rb (rest.drop n) ∧ MKeep rb w w'
theorem trd_set {M : Nat} {w : World} {rb bb off' c' n : Nat} {rest : List UInt8} {v : Value} (hM : M ≤ rb) (h1 : w.heap[rb]? = some (.cells #[v] 121 (0, 0))) (h2 : rest.length - n ≤ c') (h3 : c' ≤ 9223372036854775807) (h4 : bb < M)
    (h5 : ∀ j, j < (rest.drop n).length → w.cell? ⟨bb, off' + j, none⟩ = some (Extern.Stop.cell ((rest.drop n)[j]?.getD 0))) :
    TRd M (w.setCell ⟨rb, 0, none⟩ (.slice (some ⟨bb, off', none⟩) (rest.length - n) c')) rb (rest.drop n) ∧ MKeep rb w (w.setCell ⟨rb, 0, none⟩ (.slice (some ⟨bb, off', none⟩) (rest.length - n) c')) := by
  have hd : (rest.drop n).length = rest.length - n := List.length_drop
  refine ⟨⟨⟨bb, off', c', ?_, by omega, h3, h4, fun j hj => ?_⟩, hM⟩, ⟨rfl, rfl, rfl, by simp [World.setCell], fun k _ hk => heap_setCell_other w ⟨rb, 0, none⟩ k _ hk⟩⟩
  · rw [heap_setCell_same w rb 0 _ _ _ h1, hd]; rfl
  · exact (World.cell?_of_block (a := ⟨bb, off' + j, none⟩) (heap_setCell_other w ⟨rb, 0, none⟩ bb _ (by show bb ≠ rb; omega))).trans (h5 j hj)
set_option maxRecDepth 10000 in
set_option maxHeartbeats 1000000 in
theorem ttake_some (M : Nat) (w : World) (rb n : Nat) (rest : List UInt8) (hr : TRd M w rb rest) (hn : n ≤ rest.length) :
    Calls Tryz.prog 161 #[.pointer (some ⟨rb, 0, none⟩), I n] w (GotT M w rb n rest) := by
  obtain ⟨⟨bb, off, c, h1, h2, h3, h4, h5⟩, hM⟩ := hr
  have hc0 : w.cell? ⟨rb, 0, none⟩ = some (.slice (some ⟨bb, off, none⟩) rest.length c) := cell_of_row w rb 0 _ _ _ h1
  have hf0 := frozen_of_row w rb 0 _ _ h1
  obtain ⟨m, hm⟩ : ∃ m, rest.length = m := ⟨_, rfl⟩
  have HM := Lib.hid hm
  have HT : Hid (∀ j, j < n → w.cell? ⟨bb, off + j, none⟩ = some (Extern.Stop.cell ((rest.take n)[j]?.getD 0))) := Lib.hid (fun j hj => by rw [h5 j (by omega), List.getElem?_take_of_lt (by omega)])
  have H5 := Lib.hid h5
  have H1 := Lib.hid h1
  rw [hm] at hc0 hn h2
  clear h1 h5 hm
  have n1 : ¬ (m : Int) < (n : Int) := by omega
  have n2 : (0 : Int) ≤ (n : Int) := by omega
  by_cases hcn : c = n
  · have hmn : m = n := by omega
    subst hmn
    subst hcn
    have hS := trd_set (off' := off) (c' := 0) (n := c) (v := .slice (some ⟨bb, off, none⟩) rest.length c) hM H1.out (by rw [HM.out]; omega) (by omega) h4 (fun j hj => by rw [List.length_drop, HM.out] at hj; omega)
    rw [HM.out, Nat.sub_self] at hS
    have HSS := Lib.hid hS
    have HT2 : Hid (∀ j, j < c → (w.setCell ⟨rb, 0, none⟩ (.slice (some ⟨bb, off, none⟩) 0 0)).cell? ⟨bb, off + j, none⟩ = some (Extern.Stop.cell ((rest.take c)[j]?.getD 0))) := Lib.hid fun j hj => (World.cell?_of_block (a := ⟨bb, off + j, none⟩) (heap_setCell_other w _ bb _ (by show bb ≠ rb; omega))).trans (HT.out j hj)
    clear hS
    go_enter Tryz.func161, Tryz.ntmps161
    go_wp2
    go_ret
    exact ⟨_, _, _, rfl, Nat.le_refl _, h3, h4, HT2.out, HSS.out.1, HSS.out.2⟩
  · have hcn2 : ¬ n = c := fun h => hcn h.symm
    have hS := trd_set (off' := off + n) (c' := c - n) (n := n) (v := .slice (some ⟨bb, off, none⟩) rest.length c) hM H1.out (by rw [HM.out]; omega) (by omega) h4 (fun j hj => by
      rw [List.length_drop, HM.out] at hj
      rw [Nat.add_assoc, H5.out (n + j) (by rw [HM.out]; omega), List.getElem?_drop])
    rw [HM.out] at hS
    have HSS := Lib.hid hS
    have HT2 : Hid (∀ j, j < n → (w.setCell ⟨rb, 0, none⟩ (.slice (some ⟨bb, off + n, none⟩) (m - n) (c - n))).cell? ⟨bb, off + j, none⟩ = some (Extern.Stop.cell ((rest.take n)[j]?.getD 0))) := Lib.hid fun j hj => (World.cell?_of_block (a := ⟨bb, off + j, none⟩) (heap_setCell_other w _ bb _ (by show bb ≠ rb; omega))).trans (HT.out j hj)
    clear hS
    go_enter Tryz.func161, Tryz.ntmps161
    go_wp2
    go_ret
    exact ⟨_, _, _, rfl, by omega, h3, h4, HT2.out, HSS.out.1, HSS.out.2⟩
end Go.Proofs.YtbdkalpljhpnmaaGreat

/- Numbers written and read again (plain). -/
namespace Go.Proofs.YtbdkalpljhpnmaaGreat
open Go Go.RowKit

def hvs (s : Int) (l : List (Nat × UInt8)) : Int := l.foldl (fun s x => s * 256 + (x.2.toNat : Int)) s
set_option maxRecDepth 10000 in
theorem or_mul (a b : Nat) (h : a < 256) : (b * 256) ||| a = b * 256 + a := by
  rw [show b * 256 = b <<< 8 from by rw [Nat.shiftLeft_eq], Nat.shiftLeft_add_eq_or_of_lt (by omega)]
set_option maxRecDepth 10000 in
theorem ustep_mod (s : Int) (c : UInt8) : ustep s c = (s * 256 + (c.toNat : Int)) % 18446744073709551616 := by
  unfold ustep
  have hc := c.toNat_lt
  obtain ⟨b, hb⟩ : ∃ b : Nat, IntKind.u64.wrap (s * 256) = ((b * 256 : Nat) : Int) := by
    rw [show IntKind.u64.wrap (s * 256) = (s * 256) % 18446744073709551616 by simp [IntKind.wrap, IntKind.bits, IntKind.signed]]
    exact ⟨((s * 256) % 18446744073709551616 / 256).toNat, by omega⟩
  have hw : ((b * 256 : Nat) : Int) = (s * 256) % 18446744073709551616 := by rw [← hb]; simp [IntKind.wrap, IntKind.bits, IntKind.signed]
  rw [hb, u64_or_nat _ _ (by omega) (by omega), or_mul _ _ (by omega)]
  omega
set_option maxRecDepth 10000 in
theorem rstep_wrap (s : Int) (c : UInt8) : rstep s c = wrap64 (s * 256 + (c.toNat : Int)) := by
  have hc := c.toNat_lt
  have h1 := ustep_mod s c
  unfold ustep at h1
  have key : ∀ x y : Int, bits BinOp.or IntKind.i64 (wrap64 x) y = wrap64 (bits BinOp.or IntKind.u64 (IntKind.u64.wrap x) y) := by
    intro x y
    have e : BitVec.ofInt 64 (wrap64 x) = BitVec.ofInt 64 (IntKind.u64.wrap x) := by
      apply BitVec.eq_of_toInt_eq
      rw [BitVec.toInt_ofInt, BitVec.toInt_ofInt, show IntKind.u64.wrap x = x % 18446744073709551616 by simp [IntKind.wrap, IntKind.bits, IntKind.signed]]
      unfold wrap64
      simp only [Int.bmod]
      omega
    show IntKind.i64.wrap ((BitVec.ofInt 64 (wrap64 x) ||| BitVec.ofInt 64 y).toNat : Int) = wrap64 (IntKind.u64.wrap ((BitVec.ofInt 64 (IntKind.u64.wrap x) ||| BitVec.ofInt 64 y).toNat : Int))
    rw [e]
    have hb := (BitVec.ofInt 64 (IntKind.u64.wrap x) ||| BitVec.ofInt 64 y).isLt
    obtain ⟨n, hn⟩ : ∃ n, (BitVec.ofInt 64 (IntKind.u64.wrap x) ||| BitVec.ofInt 64 y).toNat = n := ⟨_, rfl⟩
    rw [hn] at hb ⊢
    rw [IntKind.wrap_i64, show IntKind.u64.wrap (n : Int) = (n : Int) % 18446744073709551616 by simp [IntKind.wrap, IntKind.bits, IntKind.signed]]
    unfold wrap64
    omega
  unfold rstep
  rw [key, h1]
  unfold wrap64
  omega
set_option maxRecDepth 10000 in
theorem foldU (l : List (Nat × UInt8)) : ∀ s t : Int, s = t % 18446744073709551616 → l.foldl (fun s x => ustep s x.2) s = hvs t l % 18446744073709551616 := by
  induction l with
  | nil => intro s t h; exact h
  | cons x l ih =>
    intro s t h
    rw [List.foldl_cons]
    refine ih _ (t * 256 + (x.2.toNat : Int)) ?_
    rw [ustep_mod]
    omega
set_option maxRecDepth 10000 in
theorem foldR (l : List (Nat × UInt8)) : ∀ s t : Int, s = wrap64 t → l.foldl (fun s x => rstep s x.2) s = wrap64 (hvs t l) := by
  induction l with
  | nil => intro s t h; exact h
  | cons x l ih =>
    intro s t h
    rw [List.foldl_cons]
    refine ih _ (t * 256 + (x.2.toNat : Int)) ?_
    rw [rstep_wrap]
    unfold wrap64 at *
    omega
set_option maxRecDepth 10000 in
theorem byteOf_nat (n : Int) : ((byteOf n).toNat : Int) = n % 256 := by
  have h := byteOf_cell n
  unfold Extern.Stop.cell at h
  injection h
set_option maxRecDepth 10000 in
theorem hvs8 (x : Int) (hx : fits x) : wrap64 (hvs 0 (upto (bk (le x 8)) 8)) = x := by
  have e : hvs 0 (upto (bk (le x 8)) 8) = (((((((((0 * 256 + ((byteOf (x / 256 / 256 / 256 / 256 / 256 / 256 / 256)).toNat : Int)) * 256 + ((byteOf (x / 256 / 256 / 256 / 256 / 256 / 256)).toNat : Int)) * 256 + ((byteOf (x / 256 / 256 / 256 / 256 / 256)).toNat : Int)) * 256 + ((byteOf (x / 256 / 256 / 256 / 256)).toNat : Int)) * 256 + ((byteOf (x / 256 / 256 / 256)).toNat : Int)) * 256 + ((byteOf (x / 256 / 256)).toNat : Int)) * 256 + ((byteOf (x / 256)).toNat : Int)) * 256 + ((byteOf x).toNat : Int))) := rfl
  rw [e]
  simp only [byteOf_nat]
  unfold fits at hx
  unfold wrap64
  omega
set_option maxRecDepth 10000 in
theorem hvs4 (x : Int) (h0 : 0 ≤ x) (h1 : x < 4294967296) : wrap64 (hvs 0 (upto (bk (le x 4)) 4)) = x := by
  have e : hvs 0 (upto (bk (le x 4)) 4) = ((((0 * 256 + ((byteOf (x / 256 / 256 / 256)).toNat : Int)) * 256 + ((byteOf (x / 256 / 256)).toNat : Int)) * 256 + ((byteOf (x / 256)).toNat : Int)) * 256 + ((byteOf x).toNat : Int)) := rfl
  rw [e]
  simp only [byteOf_nat]
  unfold wrap64
  omega
set_option maxRecDepth 10000 in
theorem hvs1 (x : Int) (h0 : 0 ≤ x) (h1 : x < 256) : wrap64 (hvs 0 (upto (bk (le x 1)) 1)) = x := by
  have e : hvs 0 (upto (bk (le x 1)) 1) = 0 * 256 + ((byteOf x).toNat : Int) := rfl
  rw [e]
  simp only [byteOf_nat]
  unfold wrap64
  omega
set_option maxRecDepth 10000 in
theorem take_le (x : Int) (n : Nat) (R : List UInt8) : (le x n ++ R).take n = le x n := by
  rw [List.take_append_of_le_length (by rw [le_length]; exact Nat.le_refl n), List.take_of_length_le (by rw [le_length]; exact Nat.le_refl n)]
set_option maxRecDepth 10000 in
theorem drop_le (x : Int) (n : Nat) (R : List UInt8) : (le x n ++ R).drop n = R := by
  rw [List.drop_append_of_le_length (by rw [le_length]; exact Nat.le_refl n), List.drop_of_length_le (by rw [le_length]; exact Nat.le_refl n)]
  rfl
set_option maxRecDepth 10000 in
/-- A number of eight bytes, read by the series' reader. -/
theorem num8_le (x : Int) (hx : fits x) (R : List UInt8) : num8 ((le x 8 ++ R).take 8) = x := by
  rw [take_le]
  unfold num8 unleU
  rw [le_length, foldU _ 0 0 (by decide)]
  have h := hvs8 x hx
  obtain ⟨y, hy⟩ : ∃ y, hvs 0 (upto (bk (le x 8)) 8) = y := ⟨_, rfl⟩
  rw [hy] at h ⊢
  rw [← h]
  unfold wrap64
  omega
set_option maxRecDepth 10000 in
theorem tk_le' (x : Int) (n : Nat) (R : List UInt8) : tk (le x n ++ R) false n = le x n ∧ tkR (le x n ++ R) false n = R ∧ tkB (le x n ++ R) false n = false := by
  have e : tkB (le x n ++ R) false n = false := by
    unfold tkB
    rw [Bool.false_or]
    exact decide_eq_false (by rw [List.length_append, le_length]; omega)
  unfold tk tkR
  rw [e]
  exact ⟨take_le x n R, drop_le x n R, rfl⟩
set_option maxRecDepth 10000 in
/-- Numbers, read by the letter's reader. -/
theorem rdN_8 (x : Int) (hx : fits x) (R : List UInt8) : rdN (le x 8 ++ R) false 8 = x := by
  unfold rdN unle
  rw [(tk_le' x 8 R).1, le_length, foldR _ 0 0 (by unfold wrap64; omega)]
  exact hvs8 x hx
set_option maxRecDepth 10000 in
theorem rdN_4 (x : Int) (h0 : 0 ≤ x) (h1 : x < 4294967296) (R : List UInt8) : rdN (le x 4 ++ R) false 4 = x := by
  unfold rdN unle
  rw [(tk_le' x 4 R).1, le_length, foldR _ 0 0 (by unfold wrap64; omega)]
  exact hvs4 x h0 h1
set_option maxRecDepth 10000 in
theorem rdN_1 (x : Int) (h0 : 0 ≤ x) (h1 : x < 256) (R : List UInt8) : rdN (le x 1 ++ R) false 1 = x := by
  unfold rdN unle
  rw [(tk_le' x 1 R).1, le_length, foldR _ 0 0 (by unfold wrap64; omega)]
  exact hvs1 x h0 h1
end Go.Proofs.YtbdkalpljhpnmaaGreat

/- The table's reader: number. -/
namespace Go.Proofs.YtbdkalpljhpnmaaGreat
open Go Go.RowKit Go.Shelf
attribute [local go_sem] Oper.semAt_some

/-- All blocks but pb are as they were; pb holds the cells cs. -/
structure TgtAt (w : World) (pb : Nat) (t : TypeId) (cs : Array Value) (W : World) : Prop where
  os : W.os = w.os
  tape : W.tape = w.tape
  output : W.output = w.output
  size : w.heap.size ≤ W.heap.size
  block : ∀ k, k < w.heap.size → k ≠ pb → W.heap[k]? = w.heap[k]?
  tgt : W.heap[pb]? = some (.cells cs t (0, 0))
  lt : pb < w.heap.size
theorem TgtAt.grow {w W W' : World} {pb : Nat} {t : TypeId} {cs : Array Value} (h : TgtAt w pb t cs W) (hb : Below W.heap.size W W') : TgtAt w pb t cs W' :=
  ⟨hb.os.trans h.os, hb.tape.trans h.tape, hb.output.trans h.output, Nat.le_trans h.size hb.size, fun k hk hp => (hb.block k (Nat.lt_of_lt_of_le hk h.size)).trans (h.block k hk hp), (hb.block pb (Nat.lt_of_lt_of_le h.lt h.size)).trans h.tgt, h.lt⟩
theorem TgtAt.put {w W : World} {pb : Nat} {t : TypeId} {cs : Array Value} (h : TgtAt w pb t cs W) (o : Nat) (v : Value) : TgtAt w pb t (cs.setIfInBounds o v) (W.setCell ⟨pb, o, none⟩ v) :=
  ⟨h.os, h.tape, h.output, by simpa [World.setCell] using h.size, fun k hk hp => (heap_setCell_other W _ k v hp).trans (h.block k hk hp), heap_setCell_same W pb o _ _ _ h.tgt, h.lt⟩
theorem TgtAt.drew {w W : World} {pb : Nat} {t : TypeId} {cs : Array Value} (h : TgtAt w pb t cs W) : TgtAt w pb t cs W.drew := ⟨h.os, h.tape, h.output, h.size, h.block, h.tgt, h.lt⟩
theorem TgtAt.cell {w W : World} {pb : Nat} {t : TypeId} {cs : Array Value} (h : TgtAt w pb t cs W) (i : Nat) : W.cell? ⟨pb, i, none⟩ = cs[i]? := cell_of_row W pb i _ _ _ h.tgt
theorem TgtAt.froz {w W : World} {pb : Nat} {t : TypeId} {cs : Array Value} (h : TgtAt w pb t cs W) (i : Nat) : W.frozen? ⟨pb, i, none⟩ = false := frozen_of_row W pb i _ _ h.tgt
theorem tgt_own {β : Type} {w : World} {pb B : Nat} {t : TypeId} (f : β → Array Value) (hB : w.heap.size ≤ B) : OwnFrom B (fun s W => TgtAt w pb t (f s) W) :=
  fun s W W' row hs hg hr => ⟨hg.os.trans hs.os, hg.tape.trans hs.tape, hg.output.trans hs.output, Nat.le_trans hs.size hg.size,
    fun k hk hp => (hg.block k (Nat.lt_of_lt_of_le hk hs.size) (fun e => by have := (hr k e.symm).1; omega)).trans (hs.block k hk hp),
    (hg.block pb (Nat.lt_of_lt_of_le hs.lt hs.size) (fun e => by have := (hr pb e.symm).1; have := hs.lt; omega)).trans hs.tgt, hs.lt⟩
/-- The reader and one block have changed. -/
structure TPut (w : World) (rb pb : Nat) (t : TypeId) (cs : Array Value) (w' : World) : Prop where
  os : w'.os = w.os
  tape : w'.tape = w.tape
  output : w'.output = w.output
  size : w.heap.size ≤ w'.heap.size
  block : ∀ k, k < w.heap.size → k ≠ pb → k ≠ rb → w'.heap[k]? = w.heap[k]?
  tgt : w'.heap[pb]? = some (.cells cs t (0, 0))
theorem trn_body {w w2 W : World} {M pb po B : Nat} {t : TypeId} {cs : Array Value} {pre : List (Nat × UInt8)} {xi : Nat} {xc : UInt8} {v u : Int} (hMp : M ≤ pb) (hpb : pb < w.heap.size) (hw2 : w.heap.size < w2.heap.size)
    (hbx : Boxed W w.heap.size 111 (.pointer (some ⟨pb, po, none⟩))) (hB : TgtAt w2 pb t (cs.setIfInBounds po (I (unle pre))) W) (hu : unle pre = u) (hv : v = rstep u xc) :
    KeepsFrom B W (W.setCell ⟨pb, po, none⟩ (I v)).drew ∧ BK M w2.heap.size W (W.setCell ⟨pb, po, none⟩ (I v)).drew ∧ Boxed (W.setCell ⟨pb, po, none⟩ (I v)).drew w.heap.size 111 (.pointer (some ⟨pb, po, none⟩)) ∧ TgtAt w2 pb t (cs.setIfInBounds po (I (unle (pre ++ [(xi, xc)])))) (W.setCell ⟨pb, po, none⟩ (I v)).drew := by
  have hk : KeepsOthers W (W.setCell ⟨pb, po, none⟩ (I v)) := KeepsOthers.setCell _ _ _
  have hk2 : KeepsOthers W (W.setCell ⟨pb, po, none⟩ (I v)).drew := ⟨hk.size, hk.same⟩
  refine ⟨hk2.from _, ⟨((Below.refl M W).setCell (p := ⟨pb, po, none⟩) hMp _).drew, ?_⟩, ?_, ?_⟩
  · exact World.cell?_of_block (a := ⟨w2.heap.size, 0, none⟩) (heap_setCell_other W _ _ _ (by show w2.heap.size ≠ pb; omega))
  · exact (heap_setCell_other W _ _ _ (by show w.heap.size ≠ pb; omega)).trans hbx
  · have h := hB.put po (I v)
    rw [Array.setIfInBounds_setIfInBounds] at h
    rw [unle_snoc, hu, ← hv]
    exact h.drew
def TNum (M : Nat) (w : World) (rb pb po : Nat) (t : TypeId) (cs : Array Value) (rest : List UInt8) (size : Nat) (e : Ending) (w' : World) : Prop :=
  e = .returned (.tuple #[]) ∧ TRd M w' rb (rest.drop size) ∧ TPut w rb pb t (cs.setIfInBounds po (I (rdN rest false size))) w'
set_option maxRecDepth 100000 in
set_option maxHeartbeats 2000000 in
theorem trnumber_any (M : Nat) (w : World) (rb pb po size : Nat) (t : TypeId) (cs : Array Value) (rest : List UInt8) (hr : TRd M w rb rest) (h8 : size ≤ 8) (hn : size ≤ rest.length) (hp : w.heap[pb]? = some (.cells cs t (0, 0))) (hpo : po < cs.size) (hMp : M ≤ pb) (hne : pb ≠ rb) :
    Calls Tryz.prog 158 #[pt rb, .pointer (some ⟨pb, po, none⟩), I size] w (TNum M w rb pb po t cs rest size) := by
  refine (callsIn_wide (n := 3)).1 ?_
  have hro : Fence.wide.round = none := rfl
  have h1 : 1 ≤ 3 := by omega
  have hlt := hr.lt
  have hpl : pb < w.heap.size := (Array.getElem?_eq_some_iff.1 hp).1
  have hMl := hr.lo
  have hc0 : w.cell? ⟨pb, po, none⟩ = some cs[po] := by rw [cell_of_row w pb po _ _ _ hp]; exact Array.getElem?_eq_getElem hpo
  have hf0 : w.frozen? ⟨pb, po, none⟩ = false := frozen_of_row w pb po _ _ hp
  obtain ⟨WS, hWS⟩ : ∃ W, w.setCell ⟨pb, po, none⟩ (I 0) = W := ⟨_, rfl⟩
  have hsS : WS.heap.size = w.heap.size := by rw [← hWS]; simp [World.setCell]
  have hTS : TgtAt w pb t (cs.setIfInBounds po (I 0)) WS := by
    rw [← hWS]
    exact ⟨rfl, rfl, rfl, by simp [World.setCell], fun k _ hk2 => heap_setCell_other _ _ k _ hk2, heap_setCell_same _ pb po _ _ _ hp, hpl⟩
  obtain ⟨W1, hW1⟩ : ∃ W, WS.alloc (.cells #[.pointer (some ⟨pb, po, none⟩)] 111) = W := ⟨_, rfl⟩
  have hs1 : W1.heap.size = w.heap.size + 1 := by rw [← hW1]; simp [hsS]
  have hT1 : TgtAt w pb t (cs.setIfInBounds po (I 0)) W1 := by rw [← hW1]; exact hTS.grow (below_var WS _)
  have hbox1 : Boxed W1 w.heap.size 111 (.pointer (some ⟨pb, po, none⟩)) := by
    rw [← hW1, ← hsS]
    exact Boxed.new WS 111 (.pointer (some ⟨pb, po, none⟩))
  rw [← hWS] at hW1
  have hr1 : TRd M W1 rb rest := hr.of (hT1.block rb hlt (fun e => hne e.symm)) fun k hk => hT1.block k (by omega) (by omega)
  have HT0 := ttake_some M W1 rb size rest hr1 hn
  obtain ⟨bs, hbs⟩ : ∃ bs, rest.take size = bs := ⟨_, rfl⟩
  have hbl : bs.length = size := by rw [← hbs, List.length_take]; omega
  unfold GotT at HT0
  rw [hbs] at HT0
  have hrd : rdN rest false size = unle (upto (bk bs) bs.length) := by
    have e1 : tkB rest false size = false := by unfold tkB; simp; omega
    unfold rdN tk
    rw [e1]
    simp only [Bool.false_eq_true, if_false, hbs]
  have HL := Lib.hid hbl
  have HRD := Lib.hid hrd
  have HT := Lib.hid HT0
  have HT1 := Lib.hid hT1
  have HBOX := Lib.hid hbox1
  have HW1 := Lib.hid hW1
  have HP := Lib.hid hp
  clear hr hr1 HT0 hbs hbl hrd hT1 hbox1 hW1 hWS hsS hTS hp
  refine callsIn_of_wp_marks Tryz.func158 rfl trivial ?_ hro
  simp only [Tryz.ntmps158, List.size_toArray, List.length_cons, List.length_nil, Nat.reduceAdd, Nat.reduceSub, Array.replicate_succ, Array.replicate_zero, List.push_toArray, List.append_toArray, List.nil_append, List.cons_append]
  gi_wp2_with first
    | (refine ⟨trivial, ?_⟩; gi_at_call 161; rw [HW1.out]; refine (callsIn_wide.2 HT.out).mono ?_; rintro e w2 ⟨bb, off, c, rfl, hcl, hcc, hbM, hby, hrs, hk⟩; have HBY := Lib.hid hby; have HRS := Lib.hid hrs; have HK := Lib.hid hk; clear hby hrs hk)
    | (refine ⟨trivial, ?_⟩; gi_at_call 162; refine (back_in Fence.wide 2 trivial hro _ _ _ _).mono ?_; rintro e w' ⟨rfl, rfl⟩)
  have hsk := HK.out.size
  have hT2 : TgtAt w2 pb t (cs.setIfInBounds po (I 0)) w2 := ⟨rfl, rfl, rfl, Nat.le_refl _, fun _ _ _ => rfl, (HK.out.block pb (by omega) hne).trans HT1.out.tgt, by omega⟩
  have hbox2 : Boxed w2 w.heap.size 111 (.pointer (some ⟨pb, po, none⟩)) := (HK.out.block w.heap.size (by omega) (by omega)).trans HBOX.out
  have hB1 : Below w.heap.size w2 (w2.alloc (.cells #[.slice (some ⟨bb, off, none⟩) size c] 23)) := ((Below.refl _ w2).alloc (Nat.le_refl _) _).mono (by omega)
  have hby1 : BytesAt (w2.alloc (.cells #[.slice (some ⟨bb, off, none⟩) size c] 23)) M (some ⟨bb, off, none⟩) bs := .inr ⟨bb, off, rfl, hbM, fun j hj => (hB1.cell (p := ⟨bb, off + j, none⟩) (by show bb < w.heap.size; omega)).trans (HBY.out j (by have := HL.out; omega))⟩
  have bN := Boxed.new w2 23 (.slice (some ⟨bb, off, none⟩) size c)
  have hcl2 : (w2.alloc (.cells #[.slice (some ⟨bb, off, none⟩) size c] 23)).cell? ⟨w2.heap.size, 0, none⟩ = some (.slice (some ⟨bb, off, none⟩) size c) := bN.cell
  have hst := back_stops Fence.wide (3 - 1) trivial hro (by omega) w2.heap.size M (some ⟨bb, off, none⟩) c bs (by have := HL.out; omega) (w2.alloc (.cells #[.slice (some ⟨bb, off, none⟩) size c] 23)) (by simp) (by simp; omega) (by rw [HL.out]; exact hcl2) hby1
  have hI0 : TgtAt w2 pb t (cs.setIfInBounds po (I 0)) (w2.alloc (.cells #[.slice (some ⟨bb, off, none⟩) size c] 23)) := hT2.grow (below_var w2 _)
  refine wpIn_rangeFunc_ownG hro h1 (gf := 163) (lb := #[.pointer (some ⟨w2.heap.size, 0, none⟩)]) rfl trivial (enters_of Tryz.func163 (by kernel_rfl) rfl)
    hst (fun h k => h.trans k) (bk_b (by simp; omega) (by simp)) (Below.refl _ _) (fun _ => rfl)
    (fun pre W => Boxed W w.heap.size 111 (.pointer (some ⟨pb, po, none⟩)) ∧ TgtAt w2 pb t (cs.setIfInBounds po (I (unle pre))) W)
    (fun _ _ _ => False)
    (OwnFrom.and (Own.from (boxed_own _ _ _) _) (tgt_own _ (by simp)))
    (fun _ _ _ _ _ hs _ _ => hs)
    ⟨hbox2.alloc _, hI0⟩
    (fun x => { tmps := #[pt rb, .pointer (some ⟨pb, po, none⟩), I size, undef, .pointer (some ⟨w.heap.size, 0, none⟩), undef, undef, Extern.Stop.cell x.2, .pointer (some ⟨pb, po, none⟩), .pointer (some ⟨pb, po, none⟩), pt rb, I size, .slice (some ⟨bb, off, none⟩) size c, .func (.func 163) #[] #[.pointer (some ⟨w2.heap.size, 0, none⟩)], .int .i64 (x.1 : Int), Extern.Stop.cell x.2, undef, undef, undef, undef, undef, undef, undef, undef, undef], defers := [] }) ?assign ?body ?done ?stop
  case assign =>
    intro l x W K hK
    gi_wp2
    exact hK
  case body =>
    rintro l pre ⟨xi, xc⟩ W ⟨hbx, hB⟩ _
    have hc := hbx.cell
    have hx1 : (xc.toNat : Int) < 256 := by have := xc.toNat_lt; omega
    have hx2 : (0 : Int) ≤ xc.toNat := by omega
    simp only [Extern.Stop.cell]
    have hcp : W.cell? ⟨pb, po, none⟩ = some (I (unle pre)) := (hB.cell po).trans (by simp [hpo])
    have hfp := hB.froz po
    have HBX := Lib.hid hbx
    have HBB := Lib.hid hB
    have hwl : w.heap.size < w2.heap.size := by omega
    obtain ⟨u, hu⟩ : ∃ u, unle pre = u := ⟨_, rfl⟩
    rw [hu] at hcp
    have HU := Lib.hid hu
    have HV : Hid (bits BinOp.or IntKind.i64 (IntKind.i64.wrap (u * 256)) xc.toNat = rstep u xc) := Lib.hid (by unfold rstep; rw [show IntKind.i64.wrap (u * 256) = wrap64 (u * 256) from by rw [IntKind.wrap_i64]; unfold wrap64; omega])
    have hxw : IntKind.i64.wrap (xc.toNat : Int) = (xc.toNat : Int) := by rw [IntKind.wrap_i64]; omega
    clear hbx hB hT2 hbox2 hB1 hby1 bN hcl2 hst hI0 hc0 hf0 hu HBY HRS HT HT1 HBOX HW1 HP HRD HL
    gi_wp2
    gi_region
    all_goals exact trn_body hMp hpl hwl HBX.out HBB.out HU.out HV.out
  case done =>
    rintro D ys W hD rfl ⟨hbx, hB⟩ hK
    have hc := hbx.cell
    gi_wp2
    refine ⟨by simp, .inl ⟨_, _, rfl, run_takeDeferred hK, ?_⟩⟩
    refine ⟨.tuple #[], by simp [results, Tryz.results158], ?_⟩
    have hD2 : w2.heap.size + 1 ≤ D := by simpa using hD
    have hpo : ∀ k, k < w2.heap.size → (W.putObj D (.deferred none)).heap[k]? = W.heap[k]? := fun k hk => World.putObj_heap_other (by omega)
    refine ⟨rfl, HRS.out.of ((hpo rb (by omega)).trans (hB.block rb (by omega) (fun e => hne e.symm))) (fun k hk => (hpo k (by omega)).trans (hB.block k (by omega) (by omega))), ?_⟩
    rw [HRD.out]
    have hT1 := HT1.out
    refine ⟨hB.os.trans (HK.out.os.trans hT1.os), hB.tape.trans (HK.out.tape.trans hT1.tape), hB.output.trans (HK.out.output.trans hT1.output), ?_, fun k hk h2 h3 => ?_, ?_⟩
    · have h1 := hB.size
      simp only [World.putObj, Array.size_setIfInBounds]
      omega
    · exact (hpo k (by omega)).trans ((hB.block k (by omega) h2).trans ((HK.out.block k (by omega) h3).trans (hT1.block k hk h2)))
    · refine (hpo pb (by omega)).trans ?_
      exact hB.tgt
  case stop =>
    rintro D c pre W _ _ h _
    exact h.elim
end Go.Proofs.YtbdkalpljhpnmaaGreat

/- The table's reader: numbers that were written, length, offset, text, digest. -/
namespace Go.Proofs.YtbdkalpljhpnmaaGreat
open Go Go.RowKit

theorem TPut.trans {w w1 w2 : World} {rb pb : Nat} {t : TypeId} {cs cs2 : Array Value} (h : TPut w rb pb t cs w1) (k : TPut w1 rb pb t cs2 w2) : TPut w rb pb t cs2 w2 :=
  ⟨k.os.trans h.os, k.tape.trans h.tape, k.output.trans h.output, Nat.le_trans h.size k.size, fun b hb h1 h2 => (k.block b (Nat.lt_of_lt_of_le hb h.size) h1 h2).trans (h.block b hb h1 h2), k.tgt⟩
theorem TPut.refl {w : World} {rb pb : Nat} {t : TypeId} {cs : Array Value} (h : w.heap[pb]? = some (.cells cs t (0, 0))) : TPut w rb pb t cs w := ⟨rfl, rfl, rfl, Nat.le_refl _, fun _ _ _ _ => rfl, h⟩
theorem TPut.mkeep {w w1 w2 : World} {rb pb : Nat} {t : TypeId} {cs : Array Value} (h : TPut w rb pb t cs w1) (hk : MKeep rb w1 w2) (hl : pb < w1.heap.size) (hne : pb ≠ rb) : TPut w rb pb t cs w2 :=
  ⟨hk.os.trans h.os, hk.tape.trans h.tape, hk.output.trans h.output, Nat.le_trans h.size hk.size, fun b hb h1 h2 => (hk.block b (Nat.lt_of_lt_of_le hb h.size) h2).trans (h.block b hb h1 h2), (hk.block pb hl hne).trans h.tgt⟩
theorem TPut.grow {w w1 w2 : World} {rb pb : Nat} {t : TypeId} {cs : Array Value} (h : TPut w rb pb t cs w1) (hb : Below w1.heap.size w1 w2) (hl : pb < w1.heap.size) (hne : pb ≠ rb) : TPut w rb pb t cs w2 := h.mkeep (MKeep.of_below hb) hl hne
theorem TPut.put {w w1 : World} {rb pb : Nat} {t : TypeId} {cs : Array Value} (h : TPut w rb pb t cs w1) (o : Nat) (v : Value) : TPut w rb pb t (cs.setIfInBounds o v) (w1.setCell ⟨pb, o, none⟩ v) :=
  ⟨h.os, h.tape, h.output, by simpa [World.setCell] using h.size, fun b hb h1 h2 => (heap_setCell_other w1 _ b v h1).trans (h.block b hb h1 h2), heap_setCell_same w1 pb o _ _ _ h.tgt⟩
theorem TPut.drew {w w1 : World} {rb pb : Nat} {t : TypeId} {cs : Array Value} (h : TPut w rb pb t cs w1) : TPut w rb pb t cs w1.drew := ⟨h.os, h.tape, h.output, h.size, h.block, h.tgt⟩
theorem TPut.of_drew {w w1 : World} {rb pb : Nat} {t : TypeId} {cs : Array Value} (h : TPut w.drew rb pb t cs w1) : TPut w rb pb t cs w1 := ⟨h.os, h.tape, h.output, h.size, h.block, h.tgt⟩
theorem TPut.cell {w w1 : World} {rb pb : Nat} {t : TypeId} {cs : Array Value} (h : TPut w rb pb t cs w1) (i : Nat) : w1.cell? ⟨pb, i, none⟩ = cs[i]? := cell_of_row w1 pb i _ _ _ h.tgt
theorem TPut.froz {w w1 : World} {rb pb : Nat} {t : TypeId} {cs : Array Value} (h : TPut w rb pb t cs w1) (i : Nat) : w1.frozen? ⟨pb, i, none⟩ = false := frozen_of_row w1 pb i _ _ h.tgt
theorem TRd.put {M pb o : Nat} {w : World} {rb : Nat} {rest : List UInt8} (h : TRd M w rb rest) (hp : M ≤ pb) (hne : pb ≠ rb) (v : Value) : TRd M (w.setCell ⟨pb, o, none⟩ v) rb rest :=
  h.of (heap_setCell_other w _ rb v (fun e => hne e.symm)) fun k hk => heap_setCell_other w _ k v (by show k ≠ pb; omega)
def TNumR (M : Nat) (w : World) (rb pb po : Nat) (t : TypeId) (cs : Array Value) (n : Int) (R : List UInt8) (e : Ending) (w' : World) : Prop :=
  e = .returned (.tuple #[]) ∧ TRd M w' rb R ∧ TPut w rb pb t (cs.setIfInBounds po (I n)) w'
theorem trnum_le (M : Nat) (w : World) (rb pb po size : Nat) (t : TypeId) (cs : Array Value) (n v : Int) (R : List UInt8) (hr : TRd M w rb (le n size ++ R)) (h8 : size ≤ 8) (hv : rdN (le n size ++ R) false size = v) (hp : w.heap[pb]? = some (.cells cs t (0, 0))) (hpo : po < cs.size) (hMp : M ≤ pb) (hne : pb ≠ rb) :
    Calls Tryz.prog 158 #[pt rb, .pointer (some ⟨pb, po, none⟩), I size] w (TNumR M w rb pb po t cs v R) :=
  (trnumber_any M w rb pb po size t cs _ hr h8 (by rw [List.length_append, le_length]; omega) hp hpo hMp hne).mono fun e w' ⟨h1, h2, h3⟩ => by
    rw [drop_le] at h2
    rw [hv] at h3
    exact ⟨h1, h2, h3⟩
set_option maxRecDepth 10000 in
theorem hvs2 (x : Int) : wrap64 (hvs 0 (upto (bk (le x 2)) 2)) = x % 65536 := by
  have e : hvs 0 (upto (bk (le x 2)) 2) = ((0 * 256 + ((byteOf (x / 256)).toNat : Int)) * 256 + ((byteOf x).toNat : Int)) := rfl
  rw [e]
  simp only [byteOf_nat]
  unfold wrap64
  omega
theorem rdN_2 (x : Int) (R : List UInt8) : rdN (le x 2 ++ R) false 2 = x % 65536 := by
  unfold rdN unle
  rw [(tk_le' x 2 R).1, le_length, foldR _ 0 0 (by unfold wrap64; omega)]
  exact hvs2 x
def TLenR (M : Nat) (w : World) (rb : Nat) (n : Int) (R : List UInt8) (e : Ending) (w' : World) : Prop := e = .returned (I n) ∧ TRd M w' rb R ∧ MKeep rb w w'
set_option maxRecDepth 10000 in
set_option maxHeartbeats 1000000 in
theorem trlength_le (M : Nat) (w : World) (rb size : Nat) (m n v : Int) (R : List UInt8) (hr : TRd M w rb (le n size ++ R)) (h8 : size ≤ 8) (hv : rdN (le n size ++ R) false size = v) :
    Calls Tryz.prog 157 #[pt rb, I m, I size] w (TLenR M w rb v R) := by
  have hl := hr.lt
  have hlo := hr.lo
  have hb := below_var w (.cells #[I 0] 3)
  have hpl := heap_alloc_last w (.cells #[I 0] 3)
  have HC := Lib.hid (trnum_le M (w.alloc (.cells #[I 0] 3)) rb w.heap.size 0 size 3 #[I 0] n v R (hr.below hb hl) h8 hv hpl (by decide) (by omega) (by omega))
  have HB := Lib.hid hb
  clear hr hb hpl hv
  go_enter Tryz.func157, Tryz.ntmps157
  go_wp2_with fail
  refine HC.out.mono ?_
  rintro e w1 ⟨rfl, hr1, hp1⟩
  have hc1 : w1.cell? ⟨w.heap.size, 0, none⟩ = some (I v) := hp1.cell 0
  have HR1 := Lib.hid hr1
  have HK1 : Hid (MKeep rb w w1) := Lib.hid ⟨hp1.os, hp1.tape, hp1.output, by have := hp1.size; simp at this; omega, fun k hk hkr => (hp1.block k (by simp; omega) (by omega) hkr).trans (HB.out.block k hk)⟩
  clear hr1 hp1 HC
  go_wp2_with fail
  go_ret
  exact ⟨rfl, HR1.out, HK1.out⟩
theorem wrap_i16' (n : Int) : IntKind.i16.wrap n = (n + 32768) % 65536 - 32768 := by
  simp [IntKind.wrap, IntKind.bits, IntKind.signed]; omega
set_option maxRecDepth 10000 in
set_option maxHeartbeats 1000000 in
theorem troffset_le (M : Nat) (w : World) (rb pb po : Nat) (t : TypeId) (cs : Array Value) (n : Int) (R : List UInt8) (hr : TRd M w rb (le n 2 ++ R)) (hn0 : -32768 ≤ n) (hn1 : n ≤ 32767) (hp : w.heap[pb]? = some (.cells cs t (0, 0))) (hpo : po < cs.size) (hMp : M ≤ pb) (hne : pb ≠ rb) :
    Calls Tryz.prog 159 #[pt rb, .pointer (some ⟨pb, po, none⟩)] w (TNumR M w rb pb po t cs n R) := by
  obtain ⟨u, hu⟩ : ∃ u, n % 65536 = u := ⟨_, rfl⟩
  have HC := Lib.hid (trnum_le M w rb pb po 2 t cs n u R hr (by omega) ((rdN_2 n R).trans hu) hp hpo hMp hne)
  have hu0 : 0 ≤ u := by omega
  have hu1 : u < 65536 := by omega
  have hw16 : IntKind.i16.wrap u = n := by
    rw [wrap_i16']
    omega
  clear hr hp
  go_enter Tryz.func159, Tryz.ntmps159
  go_wp2_with fail
  refine HC.out.mono ?_
  rintro e w1 ⟨rfl, hr1, hp1⟩
  have hc1 : w1.cell? ⟨pb, po, none⟩ = some (I u) := (hp1.cell po).trans (by simp [hpo])
  have hf1 := hp1.froz po
  have HR1 := Lib.hid (hr1.put (o := po) hMp hne (I n))
  have HP1 := Lib.hid (hp1.put po (I n))
  clear hr1 hp1 HC hu
  go_wp2_with fail
  go_end0
  exact ⟨rfl, HR1.out, by have h := HP1.out; rwa [Array.setIfInBounds_setIfInBounds] at h⟩
theorem ref_src {w : World} {b o : Nat} {xs : List UInt8} (h : ∀ j, j < 32 → w.cell? ⟨b, o + j, none⟩ = some (Extern.Stop.cell (xs[j]?.getD 0))) (hl : (refCells xs).length = 32) : ∀ j u, (refCells xs)[j]? = some u → w.cell? ((⟨b, o, none⟩ : Addr).add j) = some u := fun j u hu => by
  have hj := (List.getElem?_eq_some_iff.1 hu).1
  rw [Addr.add_mid, h j (by omega)]
  unfold refCells at hu hl hj
  rw [List.length_map] at hl hj
  rw [List.getElem?_map, List.getElem?_eq_getElem (by omega)] at hu
  rw [List.getElem?_eq_getElem (by omega)]
  simpa using hu
def TTxtR (M : Nat) (w : World) (rb pb po : Nat) (t : TypeId) (cs : Array Value) (v : Value) (R : List UInt8) (e : Ending) (w' : World) : Prop :=
  e = .returned (.tuple #[]) ∧ TRd M w' rb R ∧ TPut w rb pb t (cs.setIfInBounds po v) w'
set_option maxRecDepth 10000 in
set_option maxHeartbeats 1000000 in
theorem trtext_le (M : Nat) (w : World) (rb pb po : Nat) (t : TypeId) (cs : Array Value) (s0 s : ByteArray) (R : List UInt8) (hr : TRd M w rb ((le s.size 1 ++ s.data.toList) ++ R)) (hs : s.size < 256) (hp : w.heap[pb]? = some (.cells cs t (0, 0))) (hpo : cs[po]? = some (.string s0)) (hMp : M ≤ pb) (hne : pb ≠ rb) :
    Calls Tryz.prog 160 #[pt rb, .pointer (some ⟨pb, po, none⟩)] w (TTxtR M w rb pb po t cs (.string s) R) := by
  rw [List.append_assoc] at hr
  have hpl : pb < w.heap.size := (Array.getElem?_eq_some_iff.1 hp).1
  have HC := Lib.hid (trlength_le M w rb 1 0 s.size s.size (s.data.toList ++ R) hr (by omega) (rdN_1 _ (by omega) (by omega) _))
  have HP := Lib.hid hp
  have HPO := Lib.hid hpo
  have HL := Lib.hid (show s.data.toList.length = s.size from Array.length_toList)
  clear hr hp hpo
  go_enter Tryz.func160, Tryz.ntmps160
  go_wp2_with fail
  refine HC.out.mono ?_
  rintro e w1 ⟨rfl, hr1, hk1⟩
  have HR1 := Lib.hid hr1
  have HK1 := Lib.hid hk1
  have hs1 := hk1.size
  clear hr1 hk1 HC
  go_wp2_with fail
  refine (ttake_some M w1 rb s.size (s.data.toList ++ R) HR1.out (by rw [List.length_append, HL.out]; omega)).mono ?_
  rintro e w2 ⟨bb, off, c, rfl, hc1, hc2, hbM, hby, hr2, hk2⟩
  have e1 : (s.data.toList ++ R).take s.size = s.data.toList := by rw [← HL.out, List.take_append_of_le_length (Nat.le_refl _), List.take_of_length_le (Nat.le_refl _)]
  have e2 : (s.data.toList ++ R).drop s.size = R := by rw [← HL.out, List.drop_append_of_le_length (Nat.le_refl _), List.drop_of_length_le (Nat.le_refl _)]; rfl
  rw [e1] at hby
  rw [e2] at hr2
  have hcv := rconv_bytes w2 bb off c s hby
  have hp2 : w2.heap[pb]? = some (.cells cs t (0, 0)) := (hk2.block pb (by omega) hne).trans ((HK1.out.block pb hpl hne).trans HP.out)
  have hcp : w2.cell? ⟨pb, po, none⟩ = some (.string s0) := (cell_of_row w2 pb po _ _ _ hp2).trans HPO.out
  have hfp := frozen_of_row w2 pb po _ _ hp2
  have HR2 := Lib.hid (hr2.put (o := po) hMp hne (.string s))
  have HP2 : Hid (TPut w rb pb t (cs.setIfInBounds po (.string s)) (w2.setCell ⟨pb, po, none⟩ (.string s))) := Lib.hid ((((TPut.refl HP.out).mkeep HK1.out hpl hne).mkeep hk2 (by omega) hne).put po (.string s))
  clear hby hr2 hk2 e1 e2 hp2
  go_wp2_with fail
  go_end0
  exact ⟨rfl, HR2.out, HP2.out⟩
def putRow (cs : Array Value) (o : Nat) (vs : List Value) : Array Value := (splice cs.toList o vs).toArray
set_option maxRecDepth 10000 in
set_option maxHeartbeats 2000000 in
theorem trdigest_le (M : Nat) (w : World) (rb pb po : Nat) (t : TypeId) (cs : Array Value) (xs R : List UInt8) (hr : TRd M w rb (xs ++ R)) (h32 : xs.length = 32) (hp : w.heap[pb]? = some (.cells cs t (0, 0))) (hpo : po + 32 ≤ cs.size) (hMp : M ≤ pb) (hne : pb ≠ rb) :
    Calls Tryz.prog 155 #[pt rb, .pointer (some ⟨pb, po, none⟩)] w fun e w' => e = .returned (.tuple #[]) ∧ TRd M w' rb R ∧ TPut w rb pb t (putRow cs po (refCells xs)) w' := by
  have hpl : pb < w.heap.size := (Array.getElem?_eq_some_iff.1 hp).1
  have HC := Lib.hid (ttake_some M w.drew rb 32 (xs ++ R) hr.drew (by rw [List.length_append, h32]; omega))
  have HP := Lib.hid hp
  have HX : Hid ((refCells xs).length = 32) := Lib.hid (by simp [refCells, h32])
  have HE : Hid ((xs ++ R).take 32 = xs ∧ (xs ++ R).drop 32 = R) := Lib.hid ⟨by rw [← h32, List.take_append_of_le_length (Nat.le_refl _), List.take_of_length_le (Nat.le_refl _)], by rw [← h32, List.drop_append_of_le_length (Nat.le_refl _), List.drop_of_length_le (Nat.le_refl _)]; rfl⟩
  clear hr hp h32
  go_enter Tryz.func155, Tryz.ntmps155
  go_wp2_with fail
  go_region_law (first | (go_simp; go_at_call 161; refine HC.out.mono ?_; rintro e w5 ⟨b5, o5, c5, rfl, hl5, hm5, hbM, hb5, hr5, hk5⟩; rw [HE.out.1] at hb5; rw [HE.out.2] at hr5; have HR5 := Lib.hid hr5; have HK5 := Lib.hid hk5; have HB5 : Hid (∀ j u, (refCells xs)[j]? = some u → w5.cell? ((⟨b5, o5, none⟩ : Addr).add j) = some u) := Lib.hid (ref_src hb5 HX.out); have HP5 : Hid (w5.heap[pb]? = some (.cells cs t (0, 0))) := Lib.hid ((hk5.block pb hpl hne).trans HP.out); clear hb5 hr5 hk5) | (refine step_copy_row (by rfl) _ _ _ _ (by rfl) 5 Tryz.underlying23 (by kernel_rfl) pb po 32 32 ⟨b5, o5, none⟩ 32 c5 (by rfl) (by rfl) cs t HP5.out (refCells xs) (by rw [HX.out]; rfl) HB5.out (by rw [HX.out]; exact hpo) (ref_ones xs) (putRow cs po (refCells xs)) rfl ?_))
  all_goals
    have H6 : Hid (TRd M (w5.setRow pb (putRow cs po (refCells xs))) rb R) := Lib.hid (HR5.out.of (setRow_other _ _ _ _ (fun e => hne e.symm)) fun k hk => setRow_other _ _ _ _ (by omega))
    have H7 : Hid (TPut w rb pb t (putRow cs po (refCells xs)) (w5.setRow pb (putRow cs po (refCells xs)))) := Lib.hid ⟨HK5.out.os, HK5.out.tape, HK5.out.output, by simpa [World.setRow] using HK5.out.size, fun k hk h1 h2 => (setRow_other _ _ k _ h1).trans (HK5.out.block k hk h2), setRow_heap _ _ _ _ _ _ HP5.out⟩
    go_wp2_with fail
    go_end0
    exact ⟨rfl, H6.out, H7.out⟩
end Go.Proofs.YtbdkalpljhpnmaaGreat

/- table.calendar with the writer. -/
namespace Go.Proofs.YtbdkalpljhpnmaaGreat
open Go Go.RowKit

attribute [local go_sem] m_w_number n_w_number m_w_offset n_w_offset m_w_text n_w_text m_w_digest n_w_digest m_w_length n_w_length
theorem TWSt.drew {w : World} {g : Nat} {v : Value} {bs : List UInt8} (h : TWSt w g v bs) : TWSt w.drew g v bs := ⟨h.1, h.2.drew⟩
theorem wkeep_drew {g : Nat} {v v' : Value} {w w' : World} (h : WKeep g v w.drew v' w') : WKeep g v w v' w' := ⟨h.os, h.tape, h.output, h.size, h.block, h.own⟩
theorem tw_below {w w' : World} {g : Nat} {v v' : Value} {bs : List UInt8} (h : TWSt w g v bs) (hk : WKeep g v w v' w') : Below g w w' :=
  ⟨hk.os, hk.tape, hk.output, hk.size, fun k hb => hk.block k (by have := h.lt; omega) (by omega) (own_ge h.2 k (by omega))⟩
set_option maxRecDepth 10000 in
set_option maxHeartbeats 1000000 in
theorem wmonth_any (w : World) (g : Nat) (p : Addr) (v : Value) (bs : List UInt8) (n : Int) (hf : fits n) (hl : bs.length ≤ 1000000000) (hst : TWSt w g v bs) (hp : w.cell? p = some (I n)) :
    Calls Tryz.prog 73 #[.iface 81 (pt g), .pointer (some p)] w (TwPost w g v (bs ++ le n 1)) := by
  have HC := Lib.hid (tnumber_any w g p v bs n 1 hf.1 hf.2 (by omega) (by omega) hst.lt hst hp)
  clear hst hp
  go_enter Tryz.func73, Tryz.ntmps73
  go_wp2_with fail
  refine HC.out.mono ?_
  rintro e w1 ⟨rfl, h⟩
  have H := Lib.hid h
  clear h HC
  go_wp2_with fail
  go_end0
  exact ⟨rfl, H.out⟩
def WlRel (w : World) (g : Nat) (v : Value) (bs : List UInt8) (n : Nat) (zs : List Int) (i : Value) (wr : World) : Prop :=
  ∃ k : Nat, k ≤ n ∧ i = .int .i64 k ∧ ∃ v', TWSt wr g v' (bs ++ (le n 1 ++ cellBytes (zs.take k))) ∧ WKeep g v w v' wr
set_option maxRecDepth 10000 in
set_option maxHeartbeats 2000000 in
theorem wlistInt_any (w : World) (g lb lo : Nat) (A : Option Addr) (n c : Nat) (zs : List Int) (v : Value) (bs : List UInt8) (hn : zs.length = n) (hn2 : n ≤ 100000) (hp : w.cell? ⟨lb, lo, none⟩ = some (.slice A n c)) (hlg : lb < g) (hA : IntsAt w g A zs) (hfit : ∀ z ∈ zs, fits z)
    (hl : bs.length ≤ 100000000) (hst : TWSt w g v bs) :
    Calls Tryz.prog 72 #[.iface 81 (pt g), .pointer (some ⟨lb, lo, none⟩), I 1, .func (.func 73) #[] #[]] w (TwPost w g v (bs ++ (le n 1 ++ cellBytes zs))) := by
  have HC := Lib.hid (tlength_any w.drew g v bs n 1 (by omega) (by omega) (by omega) (by omega) hst.drew)
  have HST := Lib.hid hst
  have HN := Lib.hid hn
  have HF := Lib.hid hfit
  have HA := Lib.hid hA
  have HP := Lib.hid hp
  have hgl := hst.lt
  clear hst hn hfit hA
  go_enter Tryz.func72, Tryz.ntmps72
  go_wp2_with fail
  go_still_tail 9, (by kernel_rfl)
  go_wp2_with fail
  refine HC.out.mono ?_
  rintro e w1 ⟨rfl, v1, hs1, hk1⟩
  have HS1 := Lib.hid hs1
  have HK1 := Lib.hid (wkeep_drew hk1)
  clear hs1 hk1 HC hp
  go_wp2_with fail
  go_loopw [22] (fun i wr => WlRel w g v bs n zs i wr) (fun i _ => n - (intOf i).toNat)
  case atStart => exact ⟨0, Nat.zero_le _, rfl, v1, by simpa [cellBytes] using HS1.out, HK1.out⟩
  case round =>
    obtain ⟨k, hk, rfl, v2, hs2, hk2⟩ := hrel
    have hb2 := tw_below HST.out hk2
    have HB2 := Lib.hid hb2
    have HS2 := Lib.hid hs2
    have HK2 := Lib.hid hk2
    have hp2 : wr.cell? ⟨lb, lo, none⟩ = some (.slice A n c) := (hb2.cell (p := ⟨lb, lo, none⟩) hlg).trans HP.out
    clear hs2 hk2 hb2 HS1 HK1
    by_cases hlt : k < n
    · have hkz : k < zs.length := by rw [HN.out]; exact hlt
      obtain ⟨b, off, rfl, hbg, hc0⟩ : ∃ b off, A = some ⟨b, off, none⟩ ∧ b < g ∧ ∀ j, j < zs.length → w.cell? ⟨b, off + j, none⟩ = some (I (zs[j]?.getD 0)) := by
        rcases HA.out with h | h
        · omega
        · exact h
      obtain ⟨z, hz⟩ : ∃ z, zs[k]? = some z := ⟨_, List.getElem?_eq_getElem hkz⟩
      have hcz : wr.cell? ⟨b, off + k, none⟩ = some (I z) := (HB2.out.cell (p := ⟨b, off + k, none⟩) hbg).trans (by rw [hc0 k hkz, hz]; rfl)
      have hlen : (bs ++ (le (n : Int) 1 ++ cellBytes (zs.take k))).length ≤ 1000000000 := by
        rw [List.length_append, List.length_append, le_length, cellBytes_length, List.length_take]; omega
      have HM := Lib.hid (wmonth_any wr g ⟨b, off + k, none⟩ v2 _ z (HF.out z (List.mem_of_getElem? hz)) hlen HS2.out hcz)
      have HZ := Lib.hid hz
      have i0 : (0 : Int) ≤ (k : Int) := by omega
      have i1 : (k : Int) < (n : Int) := by omega
      have i2 : ((k : Int) == (n : Int)) = false := by simp; omega
      clear hkz hc0 hz hlen hcz
      go_wp2_with fail
      refine HM.out.mono ?_
      rintro e w3 ⟨rfl, v3, hs3, hk3⟩
      have HS3 := Lib.hid hs3
      have HK3 := Lib.hid (HK2.out.trans hk3)
      clear hs3 hk3 hp2
      go_wp2_with fail
      go_roundw
      case rel => exact ⟨k + 1, by omega, by go_num, v3, by rw [take_next zs k z HZ.out, cellBytes_snoc, ← List.append_assoc (le _ _), ← List.append_assoc]; exact HS3.out, HK3.out⟩
      case measure => simp [intOf]; omega
    · have hkn : k = n := by omega
      have HKN := Lib.hid hkn
      clear hkn
      go_wp2_with fail
      go_end0
      exact ⟨rfl, v2, by have h := HS2.out; rwa [HKN.out, List.take_of_length_le (by rw [HN.out]; exact Nat.le_refl _)] at h, HK2.out⟩
set_option maxRecDepth 10000 in
set_option maxHeartbeats 1000000 in
theorem wlistLeap_none (w : World) (g lb lo : Nat) (A : Option Addr) (c : Nat) (v : Value) (bs : List UInt8) (hp : w.cell? ⟨lb, lo, none⟩ = some (.slice A 0 c)) (hl : bs.length ≤ 100000000) (hst : TWSt w g v bs) :
    Calls Tryz.prog 74 #[.iface 81 (pt g), .pointer (some ⟨lb, lo, none⟩), I 1, .func (.func 75) #[] #[]] w (TwPost w g v (bs ++ le 0 1)) := by
  have HC := Lib.hid (tlength_any w.drew g v bs 0 1 (by omega) (by omega) (by omega) (by omega) hst.drew)
  clear hst
  go_enter Tryz.func74, Tryz.ntmps74
  go_wp2_with fail
  go_still_tail 9, (by kernel_rfl)
  go_wp2_with fail
  refine HC.out.mono ?_
  rintro e w1 ⟨rfl, v1, hs1, hk1⟩
  have HS1 := Lib.hid hs1
  have HK1 := Lib.hid (wkeep_drew hk1)
  clear hs1 hk1 HC hp
  go_wp2_with fail
  go_loop [22] (fun i => i = .int .i64 0) (fun _ => 0)
  case atStart => rfl
  case round =>
    subst hrel
    go_wp2_with fail
    go_end0
    exact ⟨rfl, v1, HS1.out, HK1.out⟩
set_option maxRecDepth 10000 in
set_option maxHeartbeats 1000000 in
theorem wlistTrans_none (w : World) (g lb lo : Nat) (A : Option Addr) (c : Nat) (v : Value) (bs : List UInt8) (hp : w.cell? ⟨lb, lo, none⟩ = some (.slice A 0 c)) (hl : bs.length ≤ 100000000) (hst : TWSt w g v bs) :
    Calls Tryz.prog 55 #[.iface 81 (pt g), .pointer (some ⟨lb, lo, none⟩), I 2, .func (.func 56) #[] #[]] w (TwPost w g v (bs ++ le 0 2)) := by
  have HC := Lib.hid (tlength_any w.drew g v bs 0 2 (by omega) (by omega) (by omega) (by omega) hst.drew)
  clear hst
  go_enter Tryz.func55, Tryz.ntmps55
  go_wp2_with fail
  go_still_tail 9, (by kernel_rfl)
  go_wp2_with fail
  refine HC.out.mono ?_
  rintro e w1 ⟨rfl, v1, hs1, hk1⟩
  have HS1 := Lib.hid hs1
  have HK1 := Lib.hid (wkeep_drew hk1)
  clear hs1 hk1 HC hp
  go_wp2_with fail
  go_loop [22] (fun i => i = .int .i64 0) (fun _ => 0)
  case atStart => rfl
  case round =>
    subst hrel
    go_wp2_with fail
    go_end0
    exact ⟨rfl, v1, HS1.out, HK1.out⟩
set_option maxRecDepth 10000 in
set_option maxHeartbeats 1000000 in
theorem wlistYear_none (w : World) (g lb lo : Nat) (A : Option Addr) (c : Nat) (v : Value) (bs : List UInt8) (hp : w.cell? ⟨lb, lo, none⟩ = some (.slice A 0 c)) (hl : bs.length ≤ 100000000) (hst : TWSt w g v bs) :
    Calls Tryz.prog 57 #[.iface 81 (pt g), .pointer (some ⟨lb, lo, none⟩), I 1, .func (.func 58) #[] #[]] w (TwPost w g v (bs ++ le 0 1)) := by
  have HC := Lib.hid (tlength_any w.drew g v bs 0 1 (by omega) (by omega) (by omega) (by omega) hst.drew)
  clear hst
  go_enter Tryz.func57, Tryz.ntmps57
  go_wp2_with fail
  go_still_tail 9, (by kernel_rfl)
  go_wp2_with fail
  refine HC.out.mono ?_
  rintro e w1 ⟨rfl, v1, hs1, hk1⟩
  have HS1 := Lib.hid hs1
  have HK1 := Lib.hid (wkeep_drew hk1)
  clear hs1 hk1 HC hp
  go_wp2_with fail
  go_loop [22] (fun i => i = .int .i64 0) (fun _ => 0)
  case atStart => rfl
  case round =>
    subst hrel
    go_wp2_with fail
    go_end0
    exact ⟨rfl, v1, HS1.out, HK1.out⟩
end Go.Proofs.YtbdkalpljhpnmaaGreat

/- table.calendar and table.entry with the writer, at flat zones. -/
namespace Go.Proofs.YtbdkalpljhpnmaaGreat
open Go Go.RowKit

attribute [local go_sem] m_w_number n_w_number m_w_offset n_w_offset m_w_text n_w_text m_w_digest n_w_digest m_w_length n_w_length
def calBytes (c : Cal) : List UInt8 := le c.epoch 4 ++ ((le c.months.length 1 ++ cellBytes c.months) ++ (le 0 1 ++ le 0 1))
theorem calBytes_length (c : Cal) : (calBytes c).length = 7 + c.months.length := by simp [calBytes, le_length, cellBytes_length]; omega
set_option maxRecDepth 10000 in
set_option maxHeartbeats 2000000 in
theorem wcalendar_flat (w : World) (g cb co : Nat) (c : Cal) (A : Option Addr) (a : Nat) (B : Option Addr) (b : Nat) (v : Value) (bs : List UInt8) (hc : CalFlat c) (hr : w.rangeAt cb co (calCells c A a B b).toList) (hfz : w.frozen? ⟨cb, co + 2, none⟩ = false) (hcb : cb < g) (hA : IntsAt w g A c.months)
    (hl : bs.length ≤ 10000000) (hst : TWSt w g v bs) :
    Calls Tryz.prog 54 #[.iface 81 (pt g), .pointer (some ⟨cb, co, none⟩)] w (TwPost w g v (bs ++ calBytes c)) := by
  have hgl := hst.lt
  have c0 : w.cell? ⟨cb, co, none⟩ = some (I c.epoch) := hr 0 _ rfl
  have c1 : w.cell? ⟨cb, co + 1, none⟩ = some (.slice A c.months.length a) := hr 1 _ rfl
  have c2 : w.cell? ⟨cb, co + 2, none⟩ = some (I (-1)) := (hr 2 _ rfl).trans (by rw [hc.le])
  have c3 : w.cell? ⟨cb, co + 3, none⟩ = some (.slice B 0 b) := (hr 3 _ rfl).trans (by rw [hc.ru]; rfl)
  obtain ⟨n, hn⟩ : ∃ n, c.months.length = n := ⟨_, rfl⟩
  rw [hn] at c1
  have hn2 : n ≤ 16 := by have := hc.mo.2; omega
  have hN1 : (bs ++ le c.epoch 4).length ≤ 10000004 := by rw [List.length_append, le_length]; omega
  have HE := Lib.hid hc.ep
  have HN := Lib.hid hn
  have HM : Hid (∀ z ∈ c.months, fits z) := Lib.hid fun z hz => by have := hc.all z hz; unfold fits; omega
  have HC1 := Lib.hid (tnumber_any w.drew g ⟨cb, co, none⟩ v bs c.epoch 4 (by have := hc.ep; omega) (by have := hc.ep; omega) (by omega) (by omega) hst.lt hst.drew c0)
  have HST := Lib.hid hst
  have HA := Lib.hid hA
  clear hc hr hst hA hn
  go_enter Tryz.func54, Tryz.ntmps54
  go_wp2_with fail
  go_still_tail 7, (by kernel_rfl)
  go_wp2_with fail
  refine HC1.out.mono ?_
  rintro e w1 ⟨rfl, v1, hs1, hk1⟩
  have hb1 := tw_below HST.out (wkeep_drew hk1)
  have HB1 := Lib.hid hb1
  have HS1 := Lib.hid hs1
  have HK1 := Lib.hid (wkeep_drew hk1)
  have d1 : w1.cell? ⟨cb, co + 1, none⟩ = some (.slice A n a) := (hb1.cell (p := ⟨cb, co + 1, none⟩) hcb).trans c1
  have hcb1 : cb < w1.heap.size := by have := hs1.lt; omega
  have HL := Lib.hid (wlistInt_any w1 g cb (co + 1) A n a c.months v1 _ HN.out (by omega) d1 hcb (HA.out.keep hb1) HM.out (by omega) hs1)
  have hN2 : (bs ++ le c.epoch 4 ++ (le (n : Int) 1 ++ cellBytes c.months)).length ≤ 10000040 := by
    simp only [List.length_append, le_length, cellBytes_length, HN.out]; omega
  clear hs1 hk1 hb1 HC1 c0 d1
  go_wp2_with fail
  refine HL.out.mono ?_
  rintro e w2 ⟨rfl, v2, hs2, hk2⟩
  have hb2 := HB1.out.trans (tw_below HS1.out hk2)
  have HB2 := Lib.hid hb2
  have HS2 := Lib.hid hs2
  have HK2 := Lib.hid (HK1.out.trans hk2)
  have d2 : w2.cell? ⟨cb, co + 2, none⟩ = some (I (-1)) := (hb2.cell (p := ⟨cb, co + 2, none⟩) hcb).trans c2
  obtain ⟨h1, h2⟩ := hs2.grow (below_var w2 (.cells #[I 0] 3))
  have HG1 := Lib.hid h1
  have HG2 := Lib.hid h2
  have HNE := Lib.hid hs2.new_ne
  have HBL := Lib.hid (heap_alloc_last w2 (.cells #[I 0] 3))
  have HC2 := Lib.hid (tnumber_any (w2.alloc (.cells #[I 0] 3)) g ⟨w2.heap.size, 0, none⟩ v2 _ 0 1 (by omega) (by omega) (by omega) (by omega) h1.lt h1 ((Row.new w2 #[I 0] 3).2 0))
  clear hs2 hk2 hb2 HL h1 h2
  go_wp2_with fail
  refine HC2.out.mono ?_
  rintro e w3 ⟨rfl, v3, hs3, hk3⟩
  have hb3 := tw_below HG1.out hk3
  have d3 : w3.cell? ⟨w2.heap.size, 0, none⟩ = some (I 0) := cell_of_row w3 _ 0 _ _ _ ((HG1.out.far hk3 w2.heap.size (by simp) HNE.out.1 HNE.out.2).trans HBL.out)
  have hb3' : Below g w w3 := (HB2.out.trans ((below_var w2 (.cells #[I 0] 3)).mono (by have := HS2.out.lt; omega))).trans hb3
  have HB3 := Lib.hid hb3'
  have e3 : w3.cell? ⟨cb, co + 2, none⟩ = some (I (-1)) := (hb3'.cell (p := ⟨cb, co + 2, none⟩) hcb).trans c2
  have f3 : w3.frozen? ⟨cb, co + 2, none⟩ = false := (hb3'.frozen (p := ⟨cb, co + 2, none⟩) hcb).trans hfz
  have e4 : w3.cell? ⟨cb, co + 3, none⟩ = some (.slice B 0 b) := (hb3'.cell (p := ⟨cb, co + 3, none⟩) hcb).trans c3
  have hsame := setCell_same e3
  have HS3 := Lib.hid hs3
  have HK3 := Lib.hid ((HK2.out.trans HG2.out).trans hk3)
  have hN3 : (bs ++ le c.epoch 4 ++ (le (n : Int) 1 ++ cellBytes c.months) ++ le 0 1).length ≤ 10000041 := by rw [List.length_append]; simp only [le_length]; omega
  have HLL := Lib.hid (wlistLeap_none w3 g cb (co + 3) B b v3 _ e4 (by omega) hs3)
  clear hs3 hk3 hb3 hb3' HC2 d2 HBL
  go_wp2_with fail
  refine HLL.out.mono ?_
  rintro e w4 ⟨rfl, v4, hs4, hk4⟩
  have HS4 := Lib.hid hs4
  have HK4 := Lib.hid (HK3.out.trans hk4)
  clear hs4 hk4 HLL hsame d3 e3 f3 e4
  go_wp2_with fail
  go_end0
  exact ⟨rfl, v4, by unfold calBytes; rw [HN.out]; have h := HS4.out; simpa [List.append_assoc] using h, HK4.out⟩
def zeBytes (e : Ze) : List UInt8 := (le e.name.size 1 ++ e.name.data.toList) ++ (calBytes e.z.cal ++ (le e.z.start 2 ++ (le 0 2 ++ (le e.z.hor 8 ++ le 0 1))))
theorem zeBytes_length (e : Ze) (h : ZnFlat e.z) (hs : e.name.size ≤ 32) : (zeBytes e).length ≤ 69 := by
  have h1 := calBytes_length e.z.cal
  have h2 := h.cal.mo.2
  have h3 : e.name.data.toList.length = e.name.size := by rw [Array.length_toList]; rfl
  simp only [zeBytes, List.length_append, le_length, h1, h3]
  omega
set_option maxRecDepth 10000 in
set_option maxHeartbeats 2000000 in
theorem wentry_flat (w : World) (g eb eo : Nat) (x : ZeV) (v : Value) (bs : List UInt8) (h : ZnFlat x.e.z) (hs : x.e.name.size ≤ 32) (hr : w.rangeAt eb eo x.cells.toList) (hfz : w.frozen? ⟨eb, eo + 1 + 2, none⟩ = false) (heb : eb < g) (hA : IntsAt w g x.s.A x.e.z.cal.months)
    (hl : bs.length ≤ 9000000) (hst : TWSt w g v bs) :
    Calls Tryz.prog 42 #[.iface 81 (pt g), .pointer (some ⟨eb, eo, none⟩)] w (TwPost w g v (bs ++ zeBytes x.e)) := by
  have hgl := hst.lt
  have c0 : w.cell? ⟨eb, eo, none⟩ = some (.string x.e.name) := hr 0 _ rfl
  have HCAL : Hid (w.rangeAt eb (eo + 1) (calCells x.e.z.cal x.s.A x.s.a x.s.B x.s.b).toList) := Lib.hid fun j u hu => by
    have hj : j < 4 := (List.getElem?_eq_some_iff.1 hu).1
    rw [show eo + 1 + j = eo + (j + 1) by omega]
    refine hr (j + 1) u ?_
    match j, hj with
    | 0, _ => exact hu
    | 1, _ => exact hu
    | 2, _ => exact hu
    | 3, _ => exact hu
  have c5 : w.cell? ⟨eb, eo + 1 + 4, none⟩ = some (I x.e.z.start) := hr 5 _ rfl
  have c6 : w.cell? ⟨eb, eo + 1 + 5, none⟩ = some (.slice x.s.C 0 x.s.c) := (hr 6 _ rfl).trans (by rw [h.trans]; rfl)
  have c7 : w.cell? ⟨eb, eo + 1 + 6, none⟩ = some (I x.e.z.hor) := hr 7 _ rfl
  have c8 : w.cell? ⟨eb, eo + 1 + 7, none⟩ = some (.slice x.s.D 0 x.s.d) := (hr 8 _ rfl).trans (by rw [h.yearly]; rfl)
  have hnl : x.e.name.data.toList.length = x.e.name.size := by rw [Array.length_toList]; rfl
  have hcl := calBytes_length x.e.z.cal
  have hml := h.cal.mo.2
  have HC1 := Lib.hid (ttext_any w.drew g ⟨eb, eo, none⟩ v bs x.e.name (by omega) (by omega) hst.drew c0 (by show eb ≠ g; omega) (own_ge hst.2 eb (by omega)) (by show eb < w.heap.size; omega))
  have HST := Lib.hid hst
  have HF := Lib.hid h
  have HA := Lib.hid hA
  have HCC : Hid (∀ j u, Below g w u → u.cell? ⟨eb, j, none⟩ = w.cell? ⟨eb, j, none⟩) := Lib.hid fun j u hb => hb.cell (p := ⟨eb, j, none⟩) heb
  have HL : Hid (x.e.name.data.toList.length = x.e.name.size ∧ (calBytes x.e.z.cal).length = 7 + x.e.z.cal.months.length ∧ x.e.z.cal.months.length ≤ 16 ∧ x.e.name.size ≤ 32 ∧ bs.length ≤ 9000000) := Lib.hid ⟨hnl, hcl, hml, hs, hl⟩
  clear h hr hst hA hnl hcl hml hs hl
  go_enter Tryz.func42, Tryz.ntmps42
  go_wp2_with fail
  go_still_tail 7, (by kernel_rfl)
  go_wp2_with fail
  refine HC1.out.mono ?_
  rintro e w1 ⟨rfl, v1, hs1, hk1⟩
  obtain ⟨B1, hB1⟩ : ∃ B, bs ++ (le x.e.name.size 1 ++ x.e.name.data.toList) = B := ⟨_, rfl⟩
  have hl1 : B1.length ≤ 9000040 := by rw [← hB1]; have := HL.out; simp only [List.length_append, le_length]; omega
  rw [hB1] at hs1
  have hb1 := tw_below HST.out (wkeep_drew hk1)
  have HB1 := Lib.hid hb1
  have HS1 := Lib.hid hs1
  have HK1 := Lib.hid (wkeep_drew hk1)
  have HQ1 := Lib.hid hB1
  have HC2 := Lib.hid (wcalendar_flat w1 g eb (eo + 1) x.e.z.cal x.s.A x.s.a x.s.B x.s.b v1 B1 HF.out.cal (fun j u hu => (hb1.cell (p := ⟨eb, eo + 1 + j, none⟩) heb).trans (HCAL.out j u hu)) ((hb1.frozen (p := ⟨eb, eo + 1 + 2, none⟩) heb).trans hfz) heb (HA.out.keep hb1) (by omega) hs1)
  clear hs1 hk1 hb1 HC1 hB1 c0
  go_wp2_with fail
  refine HC2.out.mono ?_
  rintro e w2 ⟨rfl, v2, hs2, hk2⟩
  obtain ⟨B2, hB2⟩ : ∃ B, B1 ++ calBytes x.e.z.cal = B := ⟨_, rfl⟩
  have hl2 : B2.length ≤ 9000070 := by rw [← hB2]; have := HL.out; simp only [List.length_append]; omega
  rw [hB2] at hs2
  have hb2 := HB1.out.trans (tw_below HS1.out hk2)
  have HB2 := Lib.hid hb2
  have HS2 := Lib.hid hs2
  have HK2 := Lib.hid (HK1.out.trans hk2)
  have HQ2 := Lib.hid hB2
  have hst0 := HF.out.start
  have HC3 := Lib.hid (toffset_any w2.drew g ⟨eb, eo + 1 + 4, none⟩ v2 B2 x.e.z.start (by omega) (by omega) (by omega) hs2.drew ((HCC.out _ _ hb2).trans c5))
  clear hs2 hk2 hb2 HC2 hB2 c5 hst0
  go_wp2_with fail
  go_still_tail 7, (by kernel_rfl)
  go_wp2_with fail
  refine HC3.out.mono ?_
  rintro e w3 ⟨rfl, v3, hs3, hk3⟩
  obtain ⟨B3, hB3⟩ : ∃ B, B2 ++ le x.e.z.start 2 = B := ⟨_, rfl⟩
  have hl3 : B3.length ≤ 9000080 := by rw [← hB3]; simp only [List.length_append, le_length]; omega
  rw [hB3] at hs3
  have hb3 := HB2.out.trans (tw_below HS2.out (wkeep_drew hk3))
  have HB3 := Lib.hid hb3
  have HS3 := Lib.hid hs3
  have HK3 := Lib.hid (HK2.out.trans (wkeep_drew hk3))
  have HQ3 := Lib.hid hB3
  have HC4 := Lib.hid (wlistTrans_none w3 g eb (eo + 1 + 5) x.s.C x.s.c v3 B3 ((HCC.out _ _ hb3).trans c6) (by omega) hs3)
  clear hs3 hk3 hb3 HC3 hB3 c6
  go_wp2_with fail
  refine HC4.out.mono ?_
  rintro e w4 ⟨rfl, v4, hs4, hk4⟩
  obtain ⟨B4, hB4⟩ : ∃ B, B3 ++ le 0 2 = B := ⟨_, rfl⟩
  have hl4 : B4.length ≤ 9000090 := by rw [← hB4]; simp only [List.length_append, le_length]; omega
  rw [hB4] at hs4
  have hb4 := HB3.out.trans (tw_below HS3.out hk4)
  have HB4 := Lib.hid hb4
  have HS4 := Lib.hid hs4
  have HK4 := Lib.hid (HK3.out.trans hk4)
  have HQ4 := Lib.hid hB4
  have hh0 := HF.out.hor
  have HC5 := Lib.hid (tnumber_any w4.drew g ⟨eb, eo + 1 + 6, none⟩ v4 B4 x.e.z.hor 8 (by omega) (by omega) (by omega) (by omega) hs4.lt hs4.drew ((HCC.out _ _ hb4).trans c7))
  clear hs4 hk4 hb4 HC4 hB4 c7 hh0
  go_wp2_with fail
  go_still_tail 7, (by kernel_rfl)
  go_wp2_with fail
  refine HC5.out.mono ?_
  rintro e w5 ⟨rfl, v5, hs5, hk5⟩
  obtain ⟨B5, hB5⟩ : ∃ B, B4 ++ le x.e.z.hor 8 = B := ⟨_, rfl⟩
  have hl5 : B5.length ≤ 9000100 := by rw [← hB5]; simp only [List.length_append, le_length]; omega
  rw [hB5] at hs5
  have hb5 := HB4.out.trans (tw_below HS4.out (wkeep_drew hk5))
  have HS5 := Lib.hid hs5
  have HK5 := Lib.hid (HK4.out.trans (wkeep_drew hk5))
  have HQ5 := Lib.hid hB5
  have HC6 := Lib.hid (wlistYear_none w5 g eb (eo + 1 + 7) x.s.D x.s.d v5 B5 ((HCC.out _ _ hb5).trans c8) (by omega) hs5)
  clear hs5 hk5 hb5 HC5 hB5 c8
  go_wp2_with fail
  refine HC6.out.mono ?_
  rintro e w6 ⟨rfl, v6, hs6, hk6⟩
  have HS6 := Lib.hid hs6
  have HK6 := Lib.hid (HK5.out.trans hk6)
  clear hs6 hk6 HC6
  go_wp2_with fail
  go_end0
  refine ⟨rfl, v6, ?_, HK6.out⟩
  have h := HS6.out
  rw [← HQ5.out, ← HQ4.out, ← HQ3.out, ← HQ2.out, ← HQ1.out] at h
  unfold zeBytes
  simpa only [List.append_assoc] using h
end Go.Proofs.YtbdkalpljhpnmaaGreat

/- The table's reader: the lists of a zone. -/
namespace Go.Proofs.YtbdkalpljhpnmaaGreat
open Go Go.RowKit

attribute [local go_sem] m_r_number n_r_number m_r_offset n_r_offset m_r_text n_r_text m_r_digest n_r_digest m_r_length n_r_length
set_option maxRecDepth 10000 in
theorem trmonth_le (M : Nat) (w : World) (rb pb po : Nat) (t : TypeId) (cs : Array Value) (n : Int) (R : List UInt8) (hr : TRd M w rb (le n 1 ++ R)) (h0 : 0 ≤ n) (h1 : n < 256) (hp : w.heap[pb]? = some (.cells cs t (0, 0))) (hpo : po < cs.size) (hMp : M ≤ pb) (hne : pb ≠ rb) :
    Calls Tryz.prog 73 #[.iface 120 (pt rb), .pointer (some ⟨pb, po, none⟩)] w (TNumR M w rb pb po t cs n R) := by
  have HC := Lib.hid (trnum_le M w rb pb po 1 t cs n n R hr (by omega) (rdN_1 n h0 h1 R) hp hpo hMp hne)
  clear hr hp
  go_enter Tryz.func73, Tryz.ntmps73
  go_wp2_with fail
  refine HC.out.mono ?_
  rintro e w1 ⟨rfl, h⟩
  have H := Lib.hid h
  clear h HC
  go_wp2_with fail
  go_end0
  exact ⟨rfl, H.out⟩
theorem own_tput {W W' : World} {lo e size g n m cap rb o : Nat} {xs : List Value} {v : Value} {cur : Array Value} (h : W.ownsRow lo e size (.slice (some ⟨g, 0, none⟩) n cap) m xs) (hg : W.heap[g]? = some (.cells cur e (0, 0))) (hp : TPut W rb g e (cur.setIfInBounds o v) W') :
    W'.ownsRow lo e size (.slice (some ⟨g, 0, none⟩) n cap) m (xs.set o v) := by
  obtain ⟨cur', h1, h2, h3, h4, h5, h6, h7, rfl⟩ := own_inv h
  rw [hg] at h1
  injection h1 with h1
  injection h1 with h1
  subst h1
  exact own_mk hp.tgt h2 h3 h4 (by rw [Array.size_setIfInBounds]; exact h5) (by rw [Array.toList_setIfInBounds, List.take_set, h6]) (by rw [List.length_set]; exact h7)
theorem ints_set (zs : List Int) (z : Int) : ((zs.map I) ++ [I 0]).set zs.length (I z) = (zs ++ [z]).map I := by
  rw [List.set_append_right _ _ (by simp)]
  simp
def RlRel (M : Nat) (w : World) (rb pb po : Nat) (t : TypeId) (cs : Array Value) (n : Nat) (zs : List Int) (R : List UInt8) (i : Value) (wr : World) : Prop :=
  ∃ (k : Nat) (A : Option Addr) (c : Nat), k ≤ n ∧ i = .int .i64 k ∧ TRd M wr rb (cellBytes (zs.drop k) ++ R) ∧ TPut w rb pb t (cs.setIfInBounds po (.slice A k c)) wr ∧ wr.ownsRow w.heap.size 3 1 (.slice A k c) k ((zs.take k).map I)
def TLiR (M : Nat) (w : World) (rb pb po : Nat) (t : TypeId) (cs : Array Value) (zs : List Int) (n : Nat) (R : List UInt8) (e : Ending) (w' : World) : Prop :=
  e = .returned (.tuple #[]) ∧ ∃ A c, TRd M w' rb R ∧ TPut w rb pb t (cs.setIfInBounds po (.slice A n c)) w' ∧ w'.ownsRow w.heap.size 3 1 (.slice A n c) n (zs.map I)
set_option maxRecDepth 10000 in
set_option maxHeartbeats 4000000 in
theorem trlistInt (M : Nat) (w : World) (rb pb po n : Nat) (t : TypeId) (cs : Array Value) (zs : List Int) (R : List UInt8) (hn : zs.length = n) (hn2 : n ≤ 100) (hfit : ∀ z ∈ zs, 0 ≤ z ∧ z < 256) (hr : TRd M w rb ((le n 1 ++ cellBytes zs) ++ R)) (hp : w.heap[pb]? = some (.cells cs t (0, 0))) (hpo : cs[po]? = some (.slice none 0 0)) (hMp : M ≤ pb) (hne : pb ≠ rb) :
    Calls Tryz.prog 72 #[.iface 120 (pt rb), .pointer (some ⟨pb, po, none⟩), I 1, .func (.func 73) #[] #[]] w (TLiR M w rb pb po t cs zs n R) := by
  rw [List.append_assoc] at hr
  have hpl : pb < w.heap.size := (Array.getElem?_eq_some_iff.1 hp).1
  have hlo := hr.lo
  have hrl := hr.lt
  have hcs : cs.setIfInBounds po (.slice none 0 0) = cs := by
    apply Array.ext_getElem?
    intro i
    rw [Array.getElem?_setIfInBounds]
    split
    · rename_i e; subst e
      split
      · exact hpo.symm
      · rename_i e2; rw [Array.getElem?_eq_none (by omega)] at hpo; cases hpo
    · rfl
  have hc0 : w.cell? ⟨pb, po, none⟩ = some (.slice none 0 0) := (cell_of_row w pb po _ _ _ hp).trans hpo
  have hpos : po < cs.size := (Array.getElem?_eq_some_iff.1 hpo).1
  have HC := Lib.hid (trlength_le M w.drew rb 1 0 n n (cellBytes zs ++ R) hr.drew (by omega) (rdN_1 _ (by omega) (by omega) _))
  have HP : Hid (TPut w rb pb t (cs.setIfInBounds po (.slice none 0 0)) w) := Lib.hid (by rw [hcs]; exact TPut.refl hp)
  have HN := Lib.hid hn
  have HF := Lib.hid hfit
  clear hr hp hpo hcs hn hfit
  obtain ⟨i0, hi, hz0, hz1, hz2⟩ := info_parts info_int
  go_enter Tryz.func72, Tryz.ntmps72
  go_wp2_with fail
  go_still_tail 9, (by kernel_rfl)
  go_wp2_with fail
  refine HC.out.mono ?_
  rintro e w1 ⟨rfl, hr1, hk1⟩
  have HR1 := Lib.hid hr1
  have HP1 := Lib.hid (HP.out.drew.mkeep hk1 hpl hne)
  clear hr1 hk1 HC hc0
  go_wp2_with fail
  go_loopw [22] (fun i wr => RlRel M w rb pb po t cs n zs R i wr) (fun i _ => n - (intOf i).toNat)
  case atStart => exact ⟨0, none, 0, Nat.zero_le _, rfl, HR1.out, HP1.out, World.ownsRow_nil _ _ _ _⟩
  case round =>
    obtain ⟨k, A, c, hk, rfl, hr, hp, hown⟩ := hrel
    have HR := Lib.hid hr
    have HPP := Lib.hid hp
    have HO := Lib.hid hown
    have hcp : wr.cell? ⟨pb, po, none⟩ = some (.slice A k c) := (hp.cell po).trans (by simp [hpos])
    have hsw := hp.size
    clear hr hp hown HR1 HP1 HP
    by_cases hlt : k < n
    · have i0' : (0 : Int) ≤ (k : Int) := by omega
      have i1 : (k : Int) < (n : Int) := by omega
      have hkz : k < zs.length := by rw [HN.out]; exact hlt
      obtain ⟨z, hz⟩ : ∃ z, zs[k]? = some z := ⟨_, List.getElem?_eq_getElem hkz⟩
      have hzr := HF.out z (List.mem_of_getElem? hz)
      have HZ := Lib.hid hz
      have hbase : w.heap.size ≤ (wr.alloc (.cells #[I 0] 3)).heap.size := by simp; omega
      clear hz
      go_wp2_with (at_builtin; refine wpList_append_own_at _ rfl _ _ 33 rfl w.heap.size 3 i0 (.int .i64 0) 1 8 Tryz.underlying33 hi hz0 hz1 hz2 rfl (by decide) _ _ _ rfl (HO.out.alloc _) ⟨wr.heap.size, 0, none⟩ 1 1 [I 0] rfl rfl ?c1 ?c2 ?c3 ?c4 ?c5 ?_)
      case c1 => exact cell_one_new _ _ _
      case c2 => intro u hu; simp at hu; subst hu; rfl
      case c3 => unfold maxLen; omega
      case c4 => omega
      case c5 => exact hbase
      intro v' w2 hown2 hgrow2 _ hat2
      rw [← List.map_take] at hown2
      obtain ⟨g2, c2, rfl, hg2⟩ := own_form hown2 (Nat.succ_pos _)
      have hbw : ∀ b, b < w.heap.size → w2.heap[b]? = wr.heap[b]? := fun b hb => by rw [hgrow2.block b (by simp; omega) (own_ge HO.out b hb), Below.heap_alloc wr _ b (by omega)]
      have hs2 : wr.heap.size ≤ w2.heap.size := by have := hgrow2.size; rw [World.size_alloc] at this; omega
      have hp2 : w2.heap[pb]? = some (.cells (cs.setIfInBounds po (.slice A k c)) t (0, 0)) := (hbw pb hpl).trans HPP.out.tgt
      have hcp2 : w2.cell? ⟨pb, po, none⟩ = some (.slice A k c) := (cell_of_row w2 pb po _ _ _ hp2).trans (by simp [hpos])
      have hfp2 := frozen_of_row w2 pb po _ _ hp2
      have hlo2 := own_low hown2
      have hP3 : TPut w rb pb t (cs.setIfInBounds po (.slice (some ⟨g2, 0, none⟩) (k + 1) c2)) (w2.setCell ⟨pb, po, none⟩ (.slice (some ⟨g2, 0, none⟩) (k + 1) c2)) := by
        have h : TPut w rb pb t (cs.setIfInBounds po (.slice A k c)) w2 := ⟨hgrow2.os.trans HPP.out.os, hgrow2.tape.trans HPP.out.tape, hgrow2.output.trans HPP.out.output, Nat.le_trans HPP.out.size hs2, fun b hb h1 h2 => (hbw b hb).trans (HPP.out.block b hb h1 h2), hp2⟩
        have h := h.put po (.slice (some ⟨g2, 0, none⟩) (k + 1) c2)
        rwa [Array.setIfInBounds_setIfInBounds] at h
      have hR3 : TRd M (w2.setCell ⟨pb, po, none⟩ (.slice (some ⟨g2, 0, none⟩) (k + 1) c2)) rb (cellBytes (zs.drop k) ++ R) := (HR.out.of (hbw rb hrl) fun b hb => hbw b (by omega)).put hMp hne _
      have hO3 : (w2.setCell ⟨pb, po, none⟩ (.slice (some ⟨g2, 0, none⟩) (k + 1) c2)).ownsRow w.heap.size 3 1 (.slice (some ⟨g2, 0, none⟩) (k + 1) c2) (k + 1) ((zs.take k).map I ++ [I 0]) := ownsRow_far (p := ⟨pb, po, none⟩) hown2 (by intro e; injection e with e; simp only at e; omega)
      have HP3 := Lib.hid hP3
      have HR3 := Lib.hid hR3
      have HO3 := Lib.hid hO3
      clear hown2 hgrow2 hat2 hbw hp2 hP3 hR3 hO3 hg2 hcp
      go_wp2_with fail
      obtain ⟨w3, hw3⟩ : ∃ W, w2.setCell ⟨pb, po, none⟩ (.slice (some ⟨g2, 0, none⟩) (k + 1) c2) = W := ⟨_, rfl⟩
      rw [hw3] at HP3 HR3 HO3 ⊢
      obtain ⟨cur, q1, q2, q3, q4, q5, q6, q7, _⟩ := own_inv HO3.out
      have hcz : cellBytes (zs.drop k) ++ R = le z 1 ++ (cellBytes (zs.drop (k + 1)) ++ R) := by
        have hd : zs.drop k = z :: zs.drop (k + 1) := by
          rw [List.drop_eq_getElem_cons hkz]
          have h := HZ.out
          rw [List.getElem?_eq_getElem hkz] at h
          injection h with h
          rw [h]
        rw [hd]
        simp [cellBytes]
      have hr3 := HR3.out
      rw [hcz] at hr3
      refine (trmonth_le M w3 rb g2 k 3 cur z _ hr3 hzr.1 hzr.2 q1 (by rw [q5]; omega) (by omega) (by omega)).mono ?_
      rintro e w4 ⟨rfl, hr4, hp4⟩
      have hO4 := own_tput HO3.out q1 hp4
      have hlen : ((zs.take k).map I).length = k := by rw [List.length_map, List.length_take]; omega
      have hset : ((zs.take k).map I ++ [I 0]).set k (I z) = (zs.take (k + 1)).map I := by
        have h := ints_set (zs.take k) z
        rw [show (zs.take k).length = k by rw [List.length_take]; omega] at h
        rw [h, take_next zs k z HZ.out]
      rw [hset] at hO4
      have hP4 : TPut w rb pb t (cs.setIfInBounds po (.slice (some ⟨g2, 0, none⟩) (k + 1) c2)) w4 := ⟨hp4.os.trans HP3.out.os, hp4.tape.trans HP3.out.tape, hp4.output.trans HP3.out.output, Nat.le_trans HP3.out.size hp4.size, fun b hb h1 h2 => (hp4.block b (Nat.lt_of_lt_of_le hb HP3.out.size) (by omega) h2).trans (HP3.out.block b hb h1 h2), (hp4.block pb (Nat.lt_of_lt_of_le hpl HP3.out.size) (by omega) hne).trans HP3.out.tgt⟩
      have HR4 := Lib.hid hr4
      have HP4 := Lib.hid hP4
      have HO4 := Lib.hid hO4
      clear hr4 hp4 hO4 hP4 hset hlen hr3 hcz q1 q2 q3 q4 q5 q6 q7 hw3 hcp2 hfp2
      go_wp2_with fail
      go_roundw
      case rel => exact ⟨k + 1, some ⟨g2, 0, none⟩, c2, by omega, by go_num, HR4.out, HP4.out, HO4.out⟩
      case measure => simp [intOf]; omega
    · have hkn : k = n := by omega
      have HKN := Lib.hid hkn
      have hlt' : ¬ (k : Int) < (n : Int) := by omega
      clear hkn hlt hcp
      go_wp2_with fail
      go_end0
      refine ⟨rfl, A, c, ?_, ?_, ?_⟩
      · have h := HR.out
        rw [HKN.out, List.drop_of_length_le (by rw [HN.out]; exact Nat.le_refl _)] at h
        exact h
      · have h := HPP.out
        rwa [HKN.out] at h
      · have h := HO.out
        rwa [HKN.out, List.take_of_length_le (by rw [HN.out]; exact Nat.le_refl _)] at h
end Go.Proofs.YtbdkalpljhpnmaaGreat
