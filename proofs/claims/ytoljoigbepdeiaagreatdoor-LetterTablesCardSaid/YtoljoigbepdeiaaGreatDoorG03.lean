/- The texts RdV, TrL, SvE, SvF, TbC, TbD, TbZ, TbE, TbW, TbX, TbM, in this order. -/
import Derived.Test.YtoljoigbepdeiaaGreatDoorG02
import Derived.BigQuiet
import Derived.Deep.AppendLies
import Derived.Deep.CutBlock
import Derived.Deep.DeepCutAuto
import Derived.Deep.DrawnRows
import Derived.Deep.MidRow
import Derived.Deep.QuietTactic
import Derived.Deep.RegionHeld3
import Derived.Deep.RegionLaw
import Derived.Deep.WholeRow
import Derived.Defers
import Derived.Great.BuildSlice
import Derived.Laws.BitsAllLaws
import Derived.Laws.BytesArg
import Derived.Laws.BytesString
import Derived.Laws.CopyOwn
import Derived.Laws.Cover3
import Derived.Laws.EntriesVeiled
import Derived.Laws.MakeOwn
import Derived.Laws.ResultCell
import Derived.Laws.Rows
import Derived.Laws.Tables
import Derived.Lib.AppendStr
import Derived.Lib.ByteType
import Derived.Lib.Hide
import Derived.LoopIn
import Derived.LoopNIn
import Derived.MapKept
import Derived.Maps.AppendAt
import Derived.Outline
import Derived.OwnWalkIn
import Derived.RangeFuncBound
import Derived.RangeFuncBox
import Derived.RangeFuncCalls
import Derived.RangeFuncLeaves
import Derived.RangeFuncNested
import Derived.Recover
import Derived.Shelf.Abstract
import Derived.Shelf.Bytes.SlSmallAll
import Derived.Shelf.RegionOpen
import Derived.StillTailTactics
import Derived.Stop.BytesEq
import Derived.TacticsInMore
import Derived.WalkKit
import Derived.WalkLawsBesides
import Derived.WalkSpells
import Derived.Test.YtoljoigbepdeiaaGreatDoorTrN
import Derived.Test.YtoljoigbepdeiaaGreatDoorPs
import Derived.Test.YtoljoigbepdeiaaGreatDoorBytesEq
import Derived.Test.YtoljoigbepdeiaaGreatDoorPl
import Derived.Test.YtoljoigbepdeiaaGreatDoorWriter
import Derived.Test.YtoljoigbepdeiaaGreatDoorWriters
/- (*letter.reader).ref on known bytes. -/
namespace Go.Proofs.YtoljoigbepdeiaaGreatDoor
open Go Go.RowKit

/-- copy into a row, as one step of a region that draws its order. -/
theorem step_copy_row {P : Program} {ops : Array Oper} {o : Oper} {a : Act} {w : World} {K : Act → World → Prop} {Q : Exit → Act → World → Prop} {E : Prop} (hgd : o.guard = none) (d s : Operand) (dT sT : TypeId)
    (ho : o.op = .call { callee := .builtin .copy, args := #[d, s], argTypes := #[dT, sT] }) (elem : TypeId) (hu : P.underlying dT = some (.slice elem)) (hsz : (P.info? elem).map (·.size) = some 1)
    (g off dLen dCap : Nat) (ad : Addr) (sLen sCap : Nat) (hd : a.eval d = .slice (some ⟨g, off, none⟩) dLen dCap) (hs : a.eval s = .slice (some ad) sLen sCap)
    (cur : Array Value) (t : TypeId) (hg : w.heap[g]? = some (.cells cur t (0, 0))) (cs : List Value) (hn : cs.length = Nat.min sLen dLen)
    (hsrc : ∀ j v, cs[j]? = some v → w.cell? (ad.add j) = some v) (hfit : off + cs.length ≤ cur.size) (h1 : ∀ v ∈ cs, v.oneCell' = true)
    (new : Array Value) (hnew : new = (splice cur.toList off cs).toArray) (h : K (a.put o.dst (goInt cs.length)) (w.setRow g new)) :
    if Region.wanted o (yielded ops a.tmps) = true then Oper.wp P o a w K Q else E := by
  have hw : Region.wanted o (yielded ops a.tmps) = true := by simp [Region.wanted, hgd]
  rw [if_pos hw]
  have hrun := run_copy_row (P := P) w dT sT o.type elem g off dLen dCap ad sLen sCap cur t cs hu hsz hg hn hsrc hfit h1
  have e : (cur.toList.take off ++ cs ++ cur.toList.drop (off + cs.length)).toArray = new := by rw [hnew]; simp [splice]
  rw [e] at hrun
  unfold Oper.wp
  simp [execOp, ho, resolve, invoke, builtin, hd, hs, hrun, Result.andThen]
  exact h
theorem ref_splice (l : Lt) (s : Sl) (xs : List UInt8) (hl : l.ref.length = 32) (hx : xs.length = 32) : ltVal { l with ref := xs } s = (splice (ltVal l s).toList 30 (refCells xs)).toArray := by
  unfold ltVal ltCells splice
  have h1 : (refCells xs).length = 32 := by simp [refCells, hx]
  have h2 : (refCells l.ref).length = 32 := by simp [refCells, hl]
  rw [h1]
  dsimp only
  rw [List.drop_eq_nil_of_le (by simp [h2]), List.append_nil, List.take_append_of_le_length (by simp)]
  rfl
theorem bytes_some {w : World} {B : Nat} {A : Option Addr} {bs : List UInt8} (h : BytesAt w B A bs) (h0 : 0 < bs.length) : ∃ b off, A = some ⟨b, off, none⟩ ∧ b < B ∧ ∀ j, j < bs.length → w.cell? ⟨b, off + j, none⟩ = some (Extern.Stop.cell (bs[j]?.getD 0)) := by
  rcases h with h | h
  · omega
  · exact h
theorem LIn.take32 {w wm w1 : World} {l : Lt} {s : Sl} {xs R : List UInt8} (h : LIn w wm w1 l s (xs ++ R)) (hn : xs.length = 32) :
    Calls Tryz.prog 59 #[I 32, pt (w.heap.size + 4), pt (w.heap.size + 2)] w1 fun e w2 => ∃ b off c, e = .returned (.slice (some ⟨b, off, none⟩) 32 c) ∧ (∀ j u, (refCells xs)[j]? = some u → w2.cell? ((⟨b, off, none⟩ : Addr).add j) = some u) ∧ LIn w wm w2 l s R :=
  (h.take hn).mono fun e w2 ⟨A, c, h1, _, _, h4, h5⟩ => by
    obtain ⟨b, off, rfl, _, hc⟩ := bytes_some h4 (by omega)
    refine ⟨b, off, c, h1, fun j u hu => ?_, h5⟩
    have hj : j < xs.length := by
      have := (List.getElem?_eq_some_iff.1 hu).1
      simpa [refCells] using this
    rw [Addr.add_mid, hc j hj]
    unfold refCells at hu
    rw [List.getElem?_map, List.getElem?_eq_getElem hj] at hu
    rw [List.getElem?_eq_getElem hj]
    simpa using hu
theorem ref_ones (xs : List UInt8) : ∀ v ∈ refCells xs, v.oneCell' = true := ref_one2 xs
set_option maxRecDepth 10000 in
set_option maxHeartbeats 2000000 in
theorem rref_yes (w wm w1 : World) (l : Lt) (s : Sl) (R xs : List UInt8) (hx : xs.length = 32) (hl : l.ref.length = 32) (h : LIn w wm w1 l s (xs ++ R)) :
    Calls Tryz.prog 38 #[pt (w.heap.size + 3)] w1 fun e w2 => e = .returned (.tuple #[]) ∧ LIn w wm w2 { l with ref := xs } s R := by
  have HD := Lib.hid h.draw
  have hc := h.rdr
  have hf := h.fn
  have hsz := h.sz
  have HX := Lib.hid hx
  have HS : Hid ((refCells xs).length = 32) := Lib.hid (by simp [refCells, hx])
  have HZ : Hid ((ltVal l s).size = 62) := Lib.hid (lt_size _ _ _ _ hl)
  have HN := Lib.hid (ref_splice l s xs hl hx)
  clear h hx hl
  go_enter Tryz.func38, Tryz.ntmps38
  go_wp2_with fail
  go_region_law (first
    | (go_simp; go_at_call 59; refine (HD.out.take32 HX.out).mono ?_; rintro e w5 ⟨b5, o5, c5, rfl, hb5, h5⟩; have H5 := Lib.hid h5; have HB5 := Lib.hid hb5; have hc5 := h5.rdr; have hv5 := h5.fn; have hs5 := h5.sz; clear h5 hb5)
    | (refine step_copy_row (by rfl) _ _ _ _ (by rfl) 5 Tryz.underlying24 (by kernel_rfl) (w.heap.size + 1) 30 32 32 ⟨b5, o5, none⟩ 32 c5 (by rfl) (by rfl) (ltVal l s) 57 H5.out.blk (refCells xs) (by rw [HS.out]; rfl) HB5.out (by rw [HS.out, HZ.out]; decide) (ref_ones xs) (ltVal { l with ref := xs } s) HN.out ?_))
  all_goals
    have H6 : Hid (LIn w wm (w5.setRow (w.heap.size + 1) (ltVal { l with ref := xs } s)) { l with ref := xs } s R) := Lib.hid H5.out.setRow
    go_wp2_with fail
    go_end0
    exact ⟨rfl, H6.out⟩
end Go.Proofs.YtoljoigbepdeiaaGreatDoor

/- The table's reader: numbers that were written, length, offset, text, digest. -/
namespace Go.Proofs.YtoljoigbepdeiaaGreatDoor
open Go Go.RowKit

theorem TPut.trans {w w1 w2 : World} {rb pb : Nat} {t : TypeId} {cs cs2 : Array Value} (h : TPut w rb pb t cs w1) (k : TPut w1 rb pb t cs2 w2) : TPut w rb pb t cs2 w2 :=
  ⟨k.os.trans h.os, k.tape.trans h.tape, k.output.trans h.output, Nat.le_trans h.size k.size, fun b hb h1 h2 => (k.block b (Nat.lt_of_lt_of_le hb h.size) h1 h2).trans (h.block b hb h1 h2), k.tgt⟩
theorem TPut.refl {w : World} {rb pb : Nat} {t : TypeId} {cs : Array Value} (h : w.heap[pb]? = some (.cells cs t (0, 0))) : TPut w rb pb t cs w := ⟨rfl, rfl, rfl, Nat.le_refl _, fun _ _ _ _ => rfl, h⟩
theorem TPut.mkeep {w w1 w2 : World} {rb pb : Nat} {t : TypeId} {cs : Array Value} (h : TPut w rb pb t cs w1) (hk : MKeep rb w1 w2) (hl : pb < w1.heap.size) (hne : pb ≠ rb) : TPut w rb pb t cs w2 :=
  ⟨hk.os.trans h.os, hk.tape.trans h.tape, hk.output.trans h.output, Nat.le_trans h.size hk.size, fun b hb h1 h2 => (hk.block b (Nat.lt_of_lt_of_le hb h.size) h2).trans (h.block b hb h1 h2), (hk.block pb hl hne).trans h.tgt⟩
theorem TPut.grow {w w1 w2 : World} {rb pb : Nat} {t : TypeId} {cs : Array Value} (h : TPut w rb pb t cs w1) (hb : Below w1.heap.size w1 w2) (hl : pb < w1.heap.size) (hne : pb ≠ rb) : TPut w rb pb t cs w2 := h.mkeep (MKeep.of_below hb) hl hne
theorem TPut.put {w w1 : World} {rb pb : Nat} {t : TypeId} {cs : Array Value} (h : TPut w rb pb t cs w1) (o : Nat) (v : Value) : TPut w rb pb t (cs.setIfInBounds o v) (w1.setCell ⟨pb, o, none⟩ v) :=
  ⟨h.os, h.tape, h.output, by simpa [World.setCell] using h.size, fun b hb h1 h2 => (heap_setCell_other w1 _ b v h1).trans (h.block b hb h1 h2), heap_setCell_same w1 pb o _ _ _ h.tgt⟩
theorem TPut.drew {w w1 : World} {rb pb : Nat} {t : TypeId} {cs : Array Value} (h : TPut w rb pb t cs w1) : TPut w rb pb t cs w1.drew := ⟨h.os, h.tape, h.output, h.size, h.block, h.tgt⟩
theorem TPut.of_drew {w w1 : World} {rb pb : Nat} {t : TypeId} {cs : Array Value} (h : TPut w.drew rb pb t cs w1) : TPut w rb pb t cs w1 := ⟨h.os, h.tape, h.output, h.size, h.block, h.tgt⟩
theorem TPut.cell {w w1 : World} {rb pb : Nat} {t : TypeId} {cs : Array Value} (h : TPut w rb pb t cs w1) (i : Nat) : w1.cell? ⟨pb, i, none⟩ = cs[i]? := cell_of_row w1 pb i _ _ _ h.tgt
theorem TPut.froz {w w1 : World} {rb pb : Nat} {t : TypeId} {cs : Array Value} (h : TPut w rb pb t cs w1) (i : Nat) : w1.frozen? ⟨pb, i, none⟩ = false := frozen_of_row w1 pb i _ _ h.tgt
theorem TRd.put {M pb o : Nat} {w : World} {rb : Nat} {rest : List UInt8} (h : TRd M w rb rest) (hp : M ≤ pb) (hne : pb ≠ rb) (v : Value) : TRd M (w.setCell ⟨pb, o, none⟩ v) rb rest :=
  h.of (heap_setCell_other w _ rb v (fun e => hne e.symm)) fun k hk => heap_setCell_other w _ k v (by show k ≠ pb; omega)
def TNumR (M : Nat) (w : World) (rb pb po : Nat) (t : TypeId) (cs : Array Value) (n : Int) (R : List UInt8) (e : Ending) (w' : World) : Prop :=
  e = .returned (.tuple #[]) ∧ TRd M w' rb R ∧ TPut w rb pb t (cs.setIfInBounds po (I n)) w'
theorem trnum_le (M : Nat) (w : World) (rb pb po size : Nat) (t : TypeId) (cs : Array Value) (n v : Int) (R : List UInt8) (hr : TRd M w rb (le n size ++ R)) (h8 : size ≤ 8) (hv : rdN (le n size ++ R) false size = v) (hp : w.heap[pb]? = some (.cells cs t (0, 0))) (hpo : po < cs.size) (hMp : M ≤ pb) (hne : pb ≠ rb) :
    Calls Tryz.prog 196 #[pt rb, .pointer (some ⟨pb, po, none⟩), I size] w (TNumR M w rb pb po t cs v R) :=
  (trnumber_any M w rb pb po size t cs _ hr h8 (by rw [List.length_append, le_length]; omega) hp hpo hMp hne).mono fun e w' ⟨h1, h2, h3⟩ => by
    rw [drop_le] at h2
    rw [hv] at h3
    exact ⟨h1, h2, h3⟩
set_option maxRecDepth 10000 in
theorem hvs2 (x : Int) : wrap64 (hvs 0 (upto (bk (le x 2)) 2)) = x % 65536 := by
  have e : hvs 0 (upto (bk (le x 2)) 2) = ((0 * 256 + ((byteOf (x / 256)).toNat : Int)) * 256 + ((byteOf x).toNat : Int)) := rfl
  rw [e]
  simp only [byteOf_nat]
  unfold wrap64
  omega
theorem rdN_2 (x : Int) (R : List UInt8) : rdN (le x 2 ++ R) false 2 = x % 65536 := by
  unfold rdN unle
  rw [(tk_le' x 2 R).1, le_length, foldR _ 0 0 (by unfold wrap64; omega)]
  exact hvs2 x
def TLenR (M : Nat) (w : World) (rb : Nat) (n : Int) (R : List UInt8) (e : Ending) (w' : World) : Prop := e = .returned (I n) ∧ TRd M w' rb R ∧ MKeep rb w w'
set_option maxRecDepth 10000 in
set_option maxHeartbeats 1000000 in
theorem trlength_le (M : Nat) (w : World) (rb size : Nat) (m n v : Int) (R : List UInt8) (hr : TRd M w rb (le n size ++ R)) (h8 : size ≤ 8) (hv : rdN (le n size ++ R) false size = v) :
    Calls Tryz.prog 195 #[pt rb, I m, I size] w (TLenR M w rb v R) := by
  have hl := hr.lt
  have hlo := hr.lo
  have hb := below_var w (.cells #[I 0] 3)
  have hpl := heap_alloc_last w (.cells #[I 0] 3)
  have HC := Lib.hid (trnum_le M (w.alloc (.cells #[I 0] 3)) rb w.heap.size 0 size 3 #[I 0] n v R (hr.below hb hl) h8 hv hpl (by decide) (by omega) (by omega))
  have HB := Lib.hid hb
  clear hr hb hpl hv
  go_enter Tryz.func195, Tryz.ntmps195
  go_wp2_with fail
  refine HC.out.mono ?_
  rintro e w1 ⟨rfl, hr1, hp1⟩
  have hc1 : w1.cell? ⟨w.heap.size, 0, none⟩ = some (I v) := hp1.cell 0
  have HR1 := Lib.hid hr1
  have HK1 : Hid (MKeep rb w w1) := Lib.hid ⟨hp1.os, hp1.tape, hp1.output, by have := hp1.size; simp at this; omega, fun k hk hkr => (hp1.block k (by simp; omega) (by omega) hkr).trans (HB.out.block k hk)⟩
  clear hr1 hp1 HC
  go_wp2_with fail
  go_ret
  exact ⟨rfl, HR1.out, HK1.out⟩
theorem wrap_i16' (n : Int) : IntKind.i16.wrap n = (n + 32768) % 65536 - 32768 := by
  simp [IntKind.wrap, IntKind.bits, IntKind.signed]; omega
set_option maxRecDepth 10000 in
set_option maxHeartbeats 1000000 in
theorem troffset_le (M : Nat) (w : World) (rb pb po : Nat) (t : TypeId) (cs : Array Value) (n : Int) (R : List UInt8) (hr : TRd M w rb (le n 2 ++ R)) (hn0 : -32768 ≤ n) (hn1 : n ≤ 32767) (hp : w.heap[pb]? = some (.cells cs t (0, 0))) (hpo : po < cs.size) (hMp : M ≤ pb) (hne : pb ≠ rb) :
    Calls Tryz.prog 197 #[pt rb, .pointer (some ⟨pb, po, none⟩)] w (TNumR M w rb pb po t cs n R) := by
  obtain ⟨u, hu⟩ : ∃ u, n % 65536 = u := ⟨_, rfl⟩
  have HC := Lib.hid (trnum_le M w rb pb po 2 t cs n u R hr (by omega) ((rdN_2 n R).trans hu) hp hpo hMp hne)
  have hu0 : 0 ≤ u := by omega
  have hu1 : u < 65536 := by omega
  have hw16 : IntKind.i16.wrap u = n := by
    rw [wrap_i16']
    omega
  clear hr hp
  go_enter Tryz.func197, Tryz.ntmps197
  go_wp2_with fail
  refine HC.out.mono ?_
  rintro e w1 ⟨rfl, hr1, hp1⟩
  have hc1 : w1.cell? ⟨pb, po, none⟩ = some (I u) := (hp1.cell po).trans (by simp [hpo])
  have hf1 := hp1.froz po
  have HR1 := Lib.hid (hr1.put (o := po) hMp hne (I n))
  have HP1 := Lib.hid (hp1.put po (I n))
  clear hr1 hp1 HC hu
  go_wp2_with fail
  go_end0
  exact ⟨rfl, HR1.out, by have h := HP1.out; rwa [Array.setIfInBounds_setIfInBounds] at h⟩
theorem ref_src {w : World} {b o : Nat} {xs : List UInt8} (h : ∀ j, j < 32 → w.cell? ⟨b, o + j, none⟩ = some (Extern.Stop.cell (xs[j]?.getD 0))) (hl : (refCells xs).length = 32) : ∀ j u, (refCells xs)[j]? = some u → w.cell? ((⟨b, o, none⟩ : Addr).add j) = some u := fun j u hu => by
  have hj := (List.getElem?_eq_some_iff.1 hu).1
  rw [Addr.add_mid, h j (by omega)]
  unfold refCells at hu hl hj
  rw [List.length_map] at hl hj
  rw [List.getElem?_map, List.getElem?_eq_getElem (by omega)] at hu
  rw [List.getElem?_eq_getElem (by omega)]
  simpa using hu
def TTxtR (M : Nat) (w : World) (rb pb po : Nat) (t : TypeId) (cs : Array Value) (v : Value) (R : List UInt8) (e : Ending) (w' : World) : Prop :=
  e = .returned (.tuple #[]) ∧ TRd M w' rb R ∧ TPut w rb pb t (cs.setIfInBounds po v) w'
set_option maxRecDepth 10000 in
set_option maxHeartbeats 1000000 in
theorem trtext_le (M : Nat) (w : World) (rb pb po : Nat) (t : TypeId) (cs : Array Value) (s0 s : ByteArray) (R : List UInt8) (hr : TRd M w rb ((le s.size 1 ++ s.data.toList) ++ R)) (hs : s.size < 256) (hp : w.heap[pb]? = some (.cells cs t (0, 0))) (hpo : cs[po]? = some (.string s0)) (hMp : M ≤ pb) (hne : pb ≠ rb) :
    Calls Tryz.prog 198 #[pt rb, .pointer (some ⟨pb, po, none⟩)] w (TTxtR M w rb pb po t cs (.string s) R) := by
  rw [List.append_assoc] at hr
  have hpl : pb < w.heap.size := (Array.getElem?_eq_some_iff.1 hp).1
  have HC := Lib.hid (trlength_le M w rb 1 0 s.size s.size (s.data.toList ++ R) hr (by omega) (rdN_1 _ (by omega) (by omega) _))
  have HP := Lib.hid hp
  have HPO := Lib.hid hpo
  have HL := Lib.hid (show s.data.toList.length = s.size from Array.length_toList)
  clear hr hp hpo
  go_enter Tryz.func198, Tryz.ntmps198
  go_wp2_with fail
  refine HC.out.mono ?_
  rintro e w1 ⟨rfl, hr1, hk1⟩
  have HR1 := Lib.hid hr1
  have HK1 := Lib.hid hk1
  have hs1 := hk1.size
  clear hr1 hk1 HC
  go_wp2_with fail
  refine (ttake_some M w1 rb s.size (s.data.toList ++ R) HR1.out (by rw [List.length_append, HL.out]; omega)).mono ?_
  rintro e w2 ⟨bb, off, c, rfl, hc1, hc2, hbM, hby, hr2, hk2⟩
  have e1 : (s.data.toList ++ R).take s.size = s.data.toList := by rw [← HL.out, List.take_append_of_le_length (Nat.le_refl _), List.take_of_length_le (Nat.le_refl _)]
  have e2 : (s.data.toList ++ R).drop s.size = R := by rw [← HL.out, List.drop_append_of_le_length (Nat.le_refl _), List.drop_of_length_le (Nat.le_refl _)]; rfl
  rw [e1] at hby
  rw [e2] at hr2
  have hcv := rconv_bytes w2 bb off c s hby
  have hp2 : w2.heap[pb]? = some (.cells cs t (0, 0)) := (hk2.block pb (by omega) hne).trans ((HK1.out.block pb hpl hne).trans HP.out)
  have hcp : w2.cell? ⟨pb, po, none⟩ = some (.string s0) := (cell_of_row w2 pb po _ _ _ hp2).trans HPO.out
  have hfp := frozen_of_row w2 pb po _ _ hp2
  have HR2 := Lib.hid (hr2.put (o := po) hMp hne (.string s))
  have HP2 : Hid (TPut w rb pb t (cs.setIfInBounds po (.string s)) (w2.setCell ⟨pb, po, none⟩ (.string s))) := Lib.hid ((((TPut.refl HP.out).mkeep HK1.out hpl hne).mkeep hk2 (by omega) hne).put po (.string s))
  clear hby hr2 hk2 e1 e2 hp2
  go_wp2_with fail
  go_end0
  exact ⟨rfl, HR2.out, HP2.out⟩
def putRow (cs : Array Value) (o : Nat) (vs : List Value) : Array Value := (splice cs.toList o vs).toArray
set_option maxRecDepth 10000 in
set_option maxHeartbeats 2000000 in
theorem trdigest_le (M : Nat) (w : World) (rb pb po : Nat) (t : TypeId) (cs : Array Value) (xs R : List UInt8) (hr : TRd M w rb (xs ++ R)) (h32 : xs.length = 32) (hp : w.heap[pb]? = some (.cells cs t (0, 0))) (hpo : po + 32 ≤ cs.size) (hMp : M ≤ pb) (hne : pb ≠ rb) :
    Calls Tryz.prog 193 #[pt rb, .pointer (some ⟨pb, po, none⟩)] w fun e w' => e = .returned (.tuple #[]) ∧ TRd M w' rb R ∧ TPut w rb pb t (putRow cs po (refCells xs)) w' := by
  have hpl : pb < w.heap.size := (Array.getElem?_eq_some_iff.1 hp).1
  have HC := Lib.hid (ttake_some M w.drew rb 32 (xs ++ R) hr.drew (by rw [List.length_append, h32]; omega))
  have HP := Lib.hid hp
  have HX : Hid ((refCells xs).length = 32) := Lib.hid (by simp [refCells, h32])
  have HE : Hid ((xs ++ R).take 32 = xs ∧ (xs ++ R).drop 32 = R) := Lib.hid ⟨by rw [← h32, List.take_append_of_le_length (Nat.le_refl _), List.take_of_length_le (Nat.le_refl _)], by rw [← h32, List.drop_append_of_le_length (Nat.le_refl _), List.drop_of_length_le (Nat.le_refl _)]; rfl⟩
  clear hr hp h32
  go_enter Tryz.func193, Tryz.ntmps193
  go_wp2_with fail
  go_region_law (first | (go_simp; go_at_call 199; refine HC.out.mono ?_; rintro e w5 ⟨b5, o5, c5, rfl, hl5, hm5, hbM, hb5, hr5, hk5⟩; rw [HE.out.1] at hb5; rw [HE.out.2] at hr5; have HR5 := Lib.hid hr5; have HK5 := Lib.hid hk5; have HB5 : Hid (∀ j u, (refCells xs)[j]? = some u → w5.cell? ((⟨b5, o5, none⟩ : Addr).add j) = some u) := Lib.hid (ref_src hb5 HX.out); have HP5 : Hid (w5.heap[pb]? = some (.cells cs t (0, 0))) := Lib.hid ((hk5.block pb hpl hne).trans HP.out); clear hb5 hr5 hk5) | (refine step_copy_row (by rfl) _ _ _ _ (by rfl) 5 Tryz.underlying24 (by kernel_rfl) pb po 32 32 ⟨b5, o5, none⟩ 32 c5 (by rfl) (by rfl) cs t HP5.out (refCells xs) (by rw [HX.out]; rfl) HB5.out (by rw [HX.out]; exact hpo) (ref_ones xs) (putRow cs po (refCells xs)) rfl ?_))
  all_goals
    have H6 : Hid (TRd M (w5.setRow pb (putRow cs po (refCells xs))) rb R) := Lib.hid (HR5.out.of (setRow_other _ _ _ _ (fun e => hne e.symm)) fun k hk => setRow_other _ _ _ _ (by omega))
    have H7 : Hid (TPut w rb pb t (putRow cs po (refCells xs)) (w5.setRow pb (putRow cs po (refCells xs)))) := Lib.hid ⟨HK5.out.os, HK5.out.tape, HK5.out.output, by simpa [World.setRow] using HK5.out.size, fun k hk h1 h2 => (setRow_other _ _ k _ h1).trans (HK5.out.block k hk h2), setRow_heap _ _ _ _ _ _ HP5.out⟩
    go_wp2_with fail
    go_end0
    exact ⟨rfl, H6.out, H7.out⟩
end Go.Proofs.YtoljoigbepdeiaaGreatDoor

/- number.Gcd, number.Lcm, civil.period, civil.Valid (where a calendar is valid). -/
namespace Go.Proofs.YtoljoigbepdeiaaGreatDoor
open Go Go.RowKit

set_option maxRecDepth 10000 in
theorem magnitude_nat (a : Nat) (ha : a ≤ 1000000) (w : World) : Calls Tryz.prog 159 #[I a] w fun e w' => e = .returned (.int .u64 a) ∧ w' = w := by
  have h0 : ¬ (a : Int) < 0 := by omega
  have hw : IntKind.u64.wrap (a : Int) = a := by rw [IntKind.wrap_u64]; omega
  go_enter Tryz.func159, Tryz.ntmps159
  go_wp2
  go_ret
  exact ⟨rfl, rfl⟩
def natOfU : Value → Nat
  | .int _ n => n.toNat
  | _ => 0
set_option maxRecDepth 10000 in
set_option maxHeartbeats 2000000 in
theorem gcd_nat (a b : Nat) (ha : a ≤ 1000000) (hb : b ≤ 1000000) (w : World) : Calls Tryz.prog 146 #[I a, I b] w fun e w' => e = .returned (I (Nat.gcd a b)) ∧ Below w.heap.size w w' := by
  go_enter Tryz.func146, Tryz.ntmps146
  go_wp2_with fail
  refine (magnitude_nat a ha _).mono ?_
  rintro e w1 ⟨rfl, rfl⟩
  go_wp2_with fail
  refine (magnitude_nat b hb _).mono ?_
  rintro e w2 ⟨rfl, rfl⟩
  go_wp2_with fail
  go_loopw [5, 6] (fun u v wr => ∃ x y : Nat, u = .int .u64 x ∧ v = .int .u64 y ∧ x ≤ 1000000 ∧ y ≤ 1000000 ∧ Nat.gcd x y = Nat.gcd a b ∧ Below w2.heap.size w2 wr) (fun _ v _ => natOfU v)
  case atStart => exact ⟨a, b, rfl, rfl, ha, hb, rfl, Below.refl _ _⟩
  case round =>
    obtain ⟨x, y, rfl, rfl, hx, hy, hg, hbe⟩ := hrel
    have HG := Lib.hid hg
    have HBE := Lib.hid hbe
    clear hg hbe
    by_cases hy0 : y = 0
    · subst hy0
      have hq : ¬ (9223372036854775807 : Int) < (x : Int) := by omega
      have hw : IntKind.i64.wrap (x : Int) = x := by rw [IntKind.wrap_i64]; omega
      go_wp2_with fail
      go_ret
      refine ⟨?_, HBE.out⟩
      have := HG.out
      rw [Nat.gcd_zero_right] at this
      rw [this]; rfl
    · have hy1 : ¬ (y : Int) = 0 := by omega
      have hy2 : ((y : Int) != 0) = true := by simp [hy0]
      have hlt : x % y < y := Nat.mod_lt _ (by omega)
      obtain ⟨z, hz⟩ : ∃ z, x % y = z := ⟨_, rfl⟩
      have hm : (x : Int) % (y : Int) = (z : Int) := by omega
      have hm2 : Int.tmod (x : Int) (y : Int) = (z : Int) := by rw [Int.tmod_eq_emod_of_nonneg (by omega)]; exact hm
      rw [hz] at hlt
      have HZ := Lib.hid hz
      have hw : IntKind.u64.wrap (z : Int) = (z : Int) := by rw [IntKind.wrap_u64]; omega
      clear hz
      go_wp2_with fail
      go_quiet (fail)
      go_wp2_with fail
      go_roundw
      case rel => exact ⟨y, z, rfl, by first | rfl | go_num, hy, by omega, by rw [← HG.out, Nat.gcd_comm x y, Nat.gcd_rec y x, Nat.gcd_comm, HZ.out], below_trans HBE.out (below_drewN' _ _)⟩
      case measure => simp [natOfU]; omega
set_option maxRecDepth 10000 in
set_option maxHeartbeats 2000000 in
theorem lcm_nat (a b : Nat) (ha : 1 ≤ a) (ha2 : a ≤ 400) (hb : 1 ≤ b) (hb2 : b ≤ 400) (w : World) : Calls Tryz.prog 137 #[I a, I b] w fun e w' => e = .returned (.tuple #[I (Nat.lcm a b), I 0]) ∧ Below w.heap.size w w' := by
  have HG := Lib.hid (gcd_nat a b (by omega) (by omega) w)
  have h1 : ¬ (a : Int) < 1 := by omega
  have h2 : ¬ (b : Int) < 1 := by omega
  have hgp : 0 < Nat.gcd a b := Nat.gcd_pos_of_pos_left _ ha
  have hl : a / Nat.gcd a b * b = Nat.lcm a b := by
    have e := Nat.lcm_eq_mul_div a b
    rw [e, Nat.div_mul_right_comm (Nat.gcd_dvd_left a b)]
  obtain ⟨g, hg⟩ : ∃ g, Nat.gcd a b = g := ⟨_, rfl⟩
  rw [hg] at HG hgp hl
  obtain ⟨r, hr⟩ : ∃ r, a / g = r := ⟨_, rfl⟩
  have hr4 : r ≤ 400 := by rw [← hr]; exact Nat.le_trans (Nat.div_le_self _ _) ha2
  have hq : Int.tdiv (a : Int) (g : Int) = (r : Int) := by rw [← hr]; rfl
  have hq' : (a : Int) / (g : Int) = (r : Int) := by rw [← hr]; rfl
  obtain ⟨t, ht⟩ : ∃ t, 1099511627776 / b = t := ⟨_, rfl⟩
  have ht4 : 400 ≤ t := by rw [← ht, Nat.le_div_iff_mul_le (by omega)]; omega
  have hq2 : Int.tdiv 1099511627776 (b : Int) = (t : Int) := by rw [← ht]; rfl
  have hq2' : (1099511627776 : Int) / (b : Int) = (t : Int) := by rw [← ht]; rfl
  have hbig : ¬ (t : Int) < (r : Int) := by omega
  have hwr : IntKind.i64.wrap (r : Int) = r := by rw [IntKind.wrap_i64]; omega
  have ht5 : t ≤ 1099511627776 := by rw [← ht]; exact Nat.div_le_self _ _
  have hwt : IntKind.i64.wrap (t : Int) = t := by rw [IntKind.wrap_i64]; omega
  rw [hr] at hl
  have hp : (r : Int) * (b : Int) = ((Nat.lcm a b : Nat) : Int) := by rw [← hl]; exact (Int.natCast_mul r b).symm
  have hlb : Nat.lcm a b ≤ 160000 := by rw [← hl]; exact Nat.mul_le_mul hr4 hb2
  obtain ⟨m, hm⟩ : ∃ m, Nat.lcm a b = m := ⟨_, rfl⟩
  rw [hm] at hp hlb ⊢
  have hwm : IntKind.i64.wrap (m : Int) = m := by rw [IntKind.wrap_i64]; omega
  have hg0 : ¬ (g : Int) = 0 := by omega
  have hb0 : ¬ (b : Int) = 0 := by omega
  clear hr ht hl hm hg
  go_enter Tryz.func137, Tryz.ntmps137
  go_wp2_with fail
  refine HG.out.mono ?_
  rintro e w1 ⟨rfl, hb1⟩
  have HB1 := Lib.hid hb1
  clear hb1
  go_wp2_with fail
  go_ret2
  exact ⟨rfl, HB1.out⟩
structure Lr where
  every : Int
  rest : Int
  yes : Bool
def Lr.cells (r : Lr) : List Value := [I r.every, I r.rest, .bool r.yes]
def LrsAt (w : World) (B : Nat) (A : Option Addr) (rs : List Lr) : Prop :=
  rs.length = 0 ∨ ∃ b, A = some ⟨b, 0, none⟩ ∧ b < B ∧ ∀ k x, rs[k]? = some x → w.rangeAt b (k * 3) x.cells
theorem LrsAt.keep {w w' : World} {B : Nat} {A : Option Addr} {rs : List Lr} (h : LrsAt w B A rs) (hb : Below B w w') : LrsAt w' B A rs := by
  rcases h with h | ⟨b, h1, h2, h3⟩
  · exact .inl h
  · exact .inr ⟨b, h1, h2, fun k x hx => rangeAt_keep (h3 k x hx) hb h2⟩
theorem LrsAt.more {w : World} {B B' : Nat} {A : Option Addr} {rs : List Lr} (h : LrsAt w B A rs) (hB : B ≤ B') : LrsAt w B' A rs := by
  rcases h with h | ⟨b, h1, h2, h3⟩
  · exact .inl h
  · exact .inr ⟨b, h1, by omega, h3⟩
def PerOK : Nat → List Lr → Prop
  | _, [] => True
  | y, r :: rs => ∃ e : Nat, r.every = e ∧ 1 ≤ e ∧ e ≤ 400 ∧ 0 ≤ r.rest ∧ r.rest < e ∧ 1 ≤ Nat.lcm y e ∧ Nat.lcm y e ≤ 400 ∧ PerOK (Nat.lcm y e) rs
set_option maxRecDepth 10000 in
set_option maxHeartbeats 2000000 in
theorem period_yes (A : Option Addr) (n c : Nat) (rs : List Lr) (w : World) (hA : LrsAt w w.heap.size A rs) (hl : rs.length = n) (hn : n ≤ 1000) (hp : PerOK 1 rs) :
    Calls Tryz.prog 124 #[.slice A n c] w fun e w' => (∃ y, e = .returned (.tuple #[I y, .bool true])) ∧ Below w.heap.size w w' := by
  have HA := Lib.hid hA
  have HL := Lib.hid hl
  have HP := Lib.hid hp
  clear hA hl hp
  go_enter Tryz.func124, Tryz.ntmps124
  go_wp2_with fail
  go_loopw [4, 11] (fun u i wr => ∃ k y : Nat, k ≤ n ∧ i = I k ∧ u = I y ∧ 1 ≤ y ∧ y ≤ 400 ∧ PerOK y (rs.drop k) ∧ Below w.heap.size w wr) (fun _ i _ => n - (intOf i).toNat)
  case atStart => exact ⟨0, 1, Nat.zero_le _, rfl, rfl, by omega, by omega, by simpa using HP.out, Below.refl _ _⟩
  case round =>
    obtain ⟨k, y, hk, rfl, rfl, hy1, hy2, hper, hbe⟩ := hrel
    have HBE := Lib.hid hbe
    by_cases hlt : k < n
    · have i0 : (0 : Int) ≤ (k : Int) := by omega
      have i1 : (k : Int) < (n : Int) := by omega
      have hkl : k < rs.length := by rw [HL.out]; exact hlt
      rw [List.drop_eq_getElem_cons hkl] at hper
      obtain ⟨e, he, h1, h2, h3, h4, h5, h6, h7⟩ := hper
      have hx : rs[k]? = some rs[k] := List.getElem?_eq_getElem hkl
      rcases (HA.out.keep hbe) with h | ⟨b, rfl, hb, hc⟩
      · omega
      have hr := hc k _ hx
      have hbl : b < wr.heap.size := Nat.lt_of_lt_of_le hb hbe.size
      generalize rs[k] = rk at he h3 h4 hr
      obtain ⟨ev, re, ye⟩ := rk
      simp only at he h3 h4
      subst he
      have f0 : wr.cell? ⟨b, k * 3, none⟩ = some (I e) := hr 0 _ rfl
      have f1 : wr.cell? ⟨b, k * 3 + 1, none⟩ = some (I re) := hr 1 _ rfl
      have f2 : wr.cell? ⟨b, k * 3 + 2, none⟩ = some (.bool ye) := hr 2 _ rfl
      have hne : ¬ b = wr.heap.size := by omega
      have q1 : ¬ (e : Int) < 1 := by omega
      have q2 : ¬ (400 : Int) < (e : Int) := by omega
      have q3 : ¬ re < 0 := by omega
      have q4 : ¬ (e : Int) ≤ re := by omega
      have H7 := Lib.hid h7
      have HB2 := Lib.hid (below_var wr (.cells #[I e, I re, .bool ye] 163))
      clear hr hc hx hbe h7
      go_wp2_with fail
      refine (lcm_nat y e hy1 hy2 h1 h2 _).mono ?_
      rintro x w5 ⟨rfl, hb5⟩
      have HB5 := Lib.hid (below_trans HB2.out hb5)
      obtain ⟨m, hm⟩ : ∃ m, Nat.lcm y e = m := ⟨_, rfl⟩
      rw [hm] at h5 h6 H7 ⊢
      have q5 : ¬ (400 : Int) < (m : Int) := by omega
      clear hb5 hm
      go_wp2_with fail
      go_roundw
      case rel => exact ⟨k + 1, m, by omega, by go_num, rfl, h5, h6, H7.out, below_trans HBE.out HB5.out⟩
      case measure => simp [intOf]; omega
    · clear hper hbe
      go_wp2_with fail
      go_ret2
      exact ⟨⟨_, rfl⟩, HBE.out⟩
end Go.Proofs.YtoljoigbepdeiaaGreatDoor

/- civil.Valid (where a calendar is valid). -/
namespace Go.Proofs.YtoljoigbepdeiaaGreatDoor
open Go Go.RowKit

structure Cal where
  epoch : Int
  months : List Int
  leap : Int
  rules : List Lr
structure CalOK (c : Cal) : Prop where
  ep : 0 ≤ c.epoch ∧ c.epoch ≤ 1048576
  mo : 1 ≤ c.months.length ∧ c.months.length ≤ 16
  le : 0 ≤ c.leap ∧ c.leap < c.months.length
  ru : c.rules.length ≤ 16
  all : ∀ m ∈ c.months, 1 ≤ m ∧ m ≤ 40
  per : PerOK 1 c.rules
def calCells (c : Cal) (A : Option Addr) (ca : Nat) (B : Option Addr) (cb : Nat) : Array Value := #[I c.epoch, .slice A c.months.length ca, I c.leap, .slice B c.rules.length cb]
attribute [local go_sem] calCells
set_option maxRecDepth 10000 in
set_option maxHeartbeats 2000000 in
theorem civilValid_yes (c : Cal) (A : Option Addr) (ca : Nat) (B : Option Addr) (cb : Nat) (w : World) (hA : IntsAt w w.heap.size A c.months) (hB : LrsAt w w.heap.size B c.rules) (h : CalOK c) :
    Calls Tryz.prog 103 #[.agg (calCells c A ca B cb)] w (Gives (.bool true) w) := by
  have HB0 := Lib.hid (below_var w (.cells (calCells c A ca B cb) 34))
  have HRW := Lib.hid (Row.new w (calCells c A ca B cb) 34)
  obtain ⟨ep, mo, le, ru⟩ := c
  have HPER := Lib.hid (fun w' hb => period_yes B ru.length cb ru w' ((hB.keep hb).more hb.size) rfl (by have := h.ru; simp only at this; omega) h.per)
  obtain ⟨⟨e1, e2⟩, ⟨m1, m2⟩, ⟨l1, l2⟩, r1, hall, hper⟩ := h
  simp only at e1 e2 m1 m2 l1 l2 r1 hall hA
  obtain ⟨b, off, rfl, hb, hc⟩ : ∃ b off, A = some ⟨b, off, none⟩ ∧ b < w.heap.size ∧ ∀ j, j < mo.length → w.cell? ⟨b, off + j, none⟩ = some (I (mo[j]?.getD 0)) := by
    rcases hA with h | h
    · omega
    · exact h
  have HC := Lib.hid hc
  have HALL := Lib.hid (fun k (hk : k < mo.length) => hall _ (List.getElem_mem hk))
  have q1 : ¬ ep < 0 := by omega
  have q2 : ¬ (1048576 : Int) < ep := by omega
  obtain ⟨n, hn⟩ : ∃ n, mo.length = n := ⟨_, rfl⟩
  obtain ⟨nr, hnr⟩ : ∃ nr, ru.length = nr := ⟨_, rfl⟩
  have q3 : ¬ (n : Int) < 1 := by omega
  have q4 : ¬ (16 : Int) < (n : Int) := by omega
  have q5 : ¬ le < -1 := by omega
  have q6 : ¬ (n : Int) ≤ le := by omega
  have q7 : ¬ (16 : Int) < (nr : Int) := by omega
  have q8 : (le == -1) = false := by simp; omega
  have hne : ¬ b = w.heap.size := by omega
  have HN := Lib.hid hn
  have e0 : (calCells ⟨ep, mo, le, ru⟩ (some ⟨b, off, none⟩) ca B cb) = #[I ep, .slice (some ⟨b, off, none⟩) n ca, I le, .slice B nr cb] := by rw [← hn, ← hnr]; rfl
  rw [e0] at HB0 HRW ⊢
  rw [hnr] at HPER
  clear hc hall hper hB hA e0 hn hnr
  go_enter Tryz.func103, Tryz.ntmps103
  go_wp2_with fail
  go_loopw [52] (fun i wr => ∃ k : Nat, k ≤ n ∧ i = I k ∧ wr = w.alloc (.cells #[I ep, .slice (some ⟨b, off, none⟩) n ca, I le, .slice B nr cb] 34)) (fun i _ => n - (intOf i).toNat)
  case atStart => exact ⟨0, Nat.zero_le _, rfl, rfl⟩
  case round =>
    obtain ⟨k, hk, rfl, rfl⟩ := hrel
    by_cases hlt : k < n
    · have i0 : (0 : Int) ≤ (k : Int) := by omega
      have i1 : (k : Int) < (n : Int) := by omega
      have hkm : k < mo.length := by rw [HN.out]; exact hlt
      have c1 := HC.out k hkm
      have hz := HALL.out k hkm
      rw [List.getElem?_eq_getElem hkm] at c1
      generalize mo[k] = z at c1 hz
      have c2 : w.cell? ⟨b, off + k, none⟩ = some (I z) := c1
      have q9 : ¬ z < 1 := by omega
      have q10 : ¬ (40 : Int) < z := by omega
      clear c1 hz
      go_wp2_with fail
      go_roundw
      case rel => exact ⟨k + 1, by omega, by go_num, by first | trivial | rfl⟩
      case measure => simp [intOf]; omega
    · go_wp2_with fail
      refine (HPER.out _ HB0.out).mono ?_
      rintro x w5 ⟨⟨y, rfl⟩, hb5⟩
      have HB5 := Lib.hid (below_trans HB0.out hb5)
      clear hb5
      go_wp2_with fail
      go_ret
      exact ⟨rfl, HB5.out⟩
end Go.Proofs.YtoljoigbepdeiaaGreatDoor

/- civil.Valid of a calendar without leap years. -/
namespace Go.Proofs.YtoljoigbepdeiaaGreatDoor
open Go Go.RowKit

/-- A calendar without leap years. -/
structure CalFlat (c : Cal) : Prop where
  ep : 0 ≤ c.epoch ∧ c.epoch ≤ 1048576
  mo : 1 ≤ c.months.length ∧ c.months.length ≤ 16
  le : c.leap = -1
  ru : c.rules = []
  all : ∀ m ∈ c.months, 1 ≤ m ∧ m ≤ 40
attribute [local go_sem] calCells
set_option maxRecDepth 10000 in
set_option maxHeartbeats 2000000 in
theorem civilValid_flat (c : Cal) (A : Option Addr) (ca : Nat) (B : Option Addr) (cb : Nat) (w : World) (hA : IntsAt w w.heap.size A c.months) (h : CalFlat c) :
    Calls Tryz.prog 103 #[.agg (calCells c A ca B cb)] w (Gives (.bool true) w) := by
  have HB0 := Lib.hid (below_var w (.cells (calCells c A ca B cb) 34))
  have HRW := Lib.hid (Row.new w (calCells c A ca B cb) 34)
  obtain ⟨ep, mo, le, ru⟩ := c
  obtain ⟨⟨e1, e2⟩, ⟨m1, m2⟩, l1, r1, hall⟩ := h
  simp only at e1 e2 m1 m2 l1 r1 hall hA
  subst l1 r1
  have HPER := Lib.hid (fun (w' : World) (_ : Below w.heap.size w w') => period_yes B 0 cb [] w' (.inl rfl) rfl (by decide) trivial)
  obtain ⟨b, off, rfl, hb, hc⟩ : ∃ b off, A = some ⟨b, off, none⟩ ∧ b < w.heap.size ∧ ∀ j, j < mo.length → w.cell? ⟨b, off + j, none⟩ = some (I (mo[j]?.getD 0)) := by
    rcases hA with h | h
    · omega
    · exact h
  have HC := Lib.hid hc
  have HALL := Lib.hid (fun k (hk : k < mo.length) => hall _ (List.getElem_mem hk))
  have q1 : ¬ ep < 0 := by omega
  have q2 : ¬ (1048576 : Int) < ep := by omega
  obtain ⟨n, hn⟩ : ∃ n, mo.length = n := ⟨_, rfl⟩
  have q3 : ¬ (n : Int) < 1 := by omega
  have q4 : ¬ (16 : Int) < (n : Int) := by omega
  have q6 : ¬ (n : Int) ≤ -1 := by omega
  have hne : ¬ b = w.heap.size := by omega
  have HN := Lib.hid hn
  have e0 : (calCells ⟨ep, mo, -1, []⟩ (some ⟨b, off, none⟩) ca B cb) = #[I ep, .slice (some ⟨b, off, none⟩) n ca, I (-1), .slice B 0 cb] := by rw [← hn]; rfl
  rw [e0] at HB0 HRW ⊢
  clear hc hall hA e0 hn
  go_enter Tryz.func103, Tryz.ntmps103
  go_wp2_with fail
  go_loopw [52] (fun i wr => ∃ k : Nat, k ≤ n ∧ i = I k ∧ wr = w.alloc (.cells #[I ep, .slice (some ⟨b, off, none⟩) n ca, I (-1), .slice B 0 cb] 34)) (fun i _ => n - (intOf i).toNat)
  case atStart => exact ⟨0, Nat.zero_le _, rfl, rfl⟩
  case round =>
    obtain ⟨k, hk, rfl, rfl⟩ := hrel
    by_cases hlt : k < n
    · have i0 : (0 : Int) ≤ (k : Int) := by omega
      have i1 : (k : Int) < (n : Int) := by omega
      have hkm : k < mo.length := by rw [HN.out]; exact hlt
      have c1 := HC.out k hkm
      have hz := HALL.out k hkm
      rw [List.getElem?_eq_getElem hkm] at c1
      generalize mo[k] = z at c1 hz
      have c2 : w.cell? ⟨b, off + k, none⟩ = some (I z) := c1
      have q9 : ¬ z < 1 := by omega
      have q10 : ¬ (40 : Int) < z := by omega
      clear c1 hz
      go_wp2_with fail
      go_roundw
      case rel => exact ⟨k + 1, by omega, by go_num, by first | trivial | rfl⟩
      case measure => simp [intOf]; omega
    · go_wp2_with fail
      refine (HPER.out _ HB0.out).mono ?_
      rintro x w5 ⟨⟨y, rfl⟩, hb5⟩
      have HB5 := Lib.hid (below_trans HB0.out hb5)
      clear hb5
      go_wp2_with fail
      go_ret
      exact ⟨rfl, HB5.out⟩
end Go.Proofs.YtoljoigbepdeiaaGreatDoor

/- Zones and tables as data, and how they lie in memory. -/
namespace Go.Proofs.YtoljoigbepdeiaaGreatDoor
open Go Go.RowKit

structure Tr where
  at_ : Int
  off : Int
structure Yr where
  month : Int
  week : Int
  wday : Int
  minute : Int
  off : Int
structure Zn where
  cal : Cal
  start : Int
  trans : List Tr
  hor : Int
  yearly : List Yr
/-- A zone's slices: months, leap rules, transitions, yearly rules. -/
structure Zs where
  A : Option Addr
  a : Nat
  B : Option Addr
  b : Nat
  C : Option Addr
  c : Nat
  D : Option Addr
  d : Nat
def znCells (z : Zn) (s : Zs) : Array Value := #[I z.cal.epoch, .slice s.A z.cal.months.length s.a, I z.cal.leap, .slice s.B z.cal.rules.length s.b, I z.start, .slice s.C z.trans.length s.c, I z.hor, .slice s.D z.yearly.length s.d]
/-- A zone without transitions and yearly rules. -/
structure ZnFlat (z : Zn) : Prop where
  cal : CalFlat z.cal
  start : -1080 ≤ z.start ∧ z.start ≤ 1080
  trans : z.trans = []
  hor : -2251799813685248 ≤ z.hor ∧ z.hor ≤ 2251799813685248
  yearly : z.yearly = []
set_option maxRecDepth 10000 in
set_option maxHeartbeats 1000000 in
theorem zwithin_any (n l : Int) (w : World) (hl : 0 ≤ l ∧ l ≤ 4503599627370496) : Calls Tryz.prog 108 #[I n, I l] w fun e w' => e = .returned (.bool (decide (-l ≤ n) && decide (n ≤ l))) ∧ w' = w := by
  have hw : IntKind.i64.wrap (-l) = -l := by rw [IntKind.wrap_i64]; omega
  by_cases h1 : -l ≤ n
  · by_cases h2 : n ≤ l
    · have e : (decide (-l ≤ n) && decide (n ≤ l)) = true := by rw [decide_eq_true h1, decide_eq_true h2]; rfl
      rw [e]
      go_enter Tryz.func108, Tryz.ntmps108
      go_wp2
      go_ret
      exact ⟨rfl, rfl⟩
    · have e : (decide (-l ≤ n) && decide (n ≤ l)) = false := by rw [decide_eq_false h2]; simp
      rw [e]
      go_enter Tryz.func108, Tryz.ntmps108
      go_wp2
      go_ret
      exact ⟨rfl, rfl⟩
  · have e : (decide (-l ≤ n) && decide (n ≤ l)) = false := by rw [decide_eq_false h1]; simp
    rw [e]
    go_enter Tryz.func108, Tryz.ntmps108
    go_wp2
    go_ret
    exact ⟨rfl, rfl⟩
theorem zn_size (z : Zn) (s : Zs) : (Tryz.prog.info? 38).map (·.size) = some (znCells z s).size := by kernel_rfl
theorem zn_one (z : Zn) (s : Zs) : (znCells z s).all (·.oneCell') = true := by kernel_rfl
end Go.Proofs.YtoljoigbepdeiaaGreatDoor

/- zone.Valid of a zone without transitions and yearly rules. -/
namespace Go.Proofs.YtoljoigbepdeiaaGreatDoor
open Go Go.RowKit

set_option maxRecDepth 10000 in
set_option maxHeartbeats 1000000 in
theorem tick_flat (z : Zn) (s : Zs) (w : World) (h : ZnFlat z) : Calls Tryz.prog 109 #[.agg (znCells z s)] w fun e w' => (∃ b : Nat, e = .returned (.tuple #[pt b, .bool true])) ∧ Below w.heap.size w w' := by
  have hy : z.yearly.length = 0 := by rw [h.yearly]; rfl
  have e0 : znCells z s = #[I z.cal.epoch, .slice s.A z.cal.months.length s.a, I z.cal.leap, .slice s.B z.cal.rules.length s.b, I z.start, .slice s.C z.trans.length s.c, I z.hor, .slice s.D 0 s.d] := by rw [← hy]; rfl
  rw [e0]
  clear h hy e0
  go_enter Tryz.func109, Tryz.ntmps109
  go_wp2_with fail
  go_ret2
  exact ⟨⟨_, rfl⟩, below_trans (below_var _ _) (below_var _ _)⟩
theorem zwithin_yes (n l : Int) (w : World) (hl : 0 ≤ l ∧ l ≤ 4503599627370496) (h1 : -l ≤ n) (h2 : n ≤ l) : Calls Tryz.prog 108 #[I n, I l] w fun e w' => e = .returned (.bool true) ∧ w' = w := by
  have h := zwithin_any n l w hl
  have e : (decide (-l ≤ n) && decide (n ≤ l)) = true := by rw [decide_eq_true h1, decide_eq_true h2]; rfl
  rw [e] at h
  exact h
theorem results_two {P : Program} {fn : Func} {p q : Tmp} {t1 t2 : TypeId} (h : fn.results = #[.cell p t1, .cell q t2]) (tmps : Array Value) (w : World) (a b : Addr) (u v : Value)
    (hp : tmps.getD p undef = .pointer (some a)) (hu : (loadVar t1 a).run P w = .ok u w) (hq : tmps.getD q undef = .pointer (some b)) (hv : (loadVar t2 b).run P w = .ok v w) :
    (results fn tmps).run P w = .ok (.tuple #[u, v]) w := by
  have hp' : tmps[p]?.getD undef = .pointer (some a) := by simpa using hp
  have hq' : tmps[q]?.getD undef = .pointer (some b) := by simpa using hq
  simp [results, h, hp', hq', asAddr, hu, hv]
theorem load_clock (W : World) (a : Addr) (b : Nat) (h : W.cell? a = some (pt b)) : (loadVar 170 a).run Tryz.prog W = .ok (pt b) W := by
  simp [go_sem, h]
theorem load_boolv (W : World) (a : Addr) (b : Bool) (h : W.cell? a = some (.bool b)) : (loadVar 4 a).run Tryz.prog W = .ok (.bool b) W := by
  simp [go_sem, h]
/-- zone.open's own variables: the zone, the two results. -/
structure ZO (w : World) (cs : Array Value) (W : World) : Prop where
  row : Row W w.heap.size cs
  r1 : W.heap[w.heap.size + 1]? = some (.cells #[.pointer none] 170 (0, 0))
  r2 : W.heap[w.heap.size + 2]? = some (.cells #[.bool false] 4 (0, 0))
  up : Below w.heap.size w W
theorem ZO.below {w W W' : World} {cs : Array Value} (h : ZO w cs W) (hb : Below W.heap.size W W') : ZO w cs W' :=
  ⟨h.row.keep hb, (hb.block _ (Array.getElem?_eq_some_iff.1 h.r1).1).trans h.r1, (hb.block _ (Array.getElem?_eq_some_iff.1 h.r2).1).trans h.r2, below_trans h.up hb⟩
theorem zo_start (w : World) (cs : Array Value) : ZO w cs (((w.alloc (.cells cs 38)).alloc (.cells #[.pointer none] 170)).alloc (.cells #[.bool false] 4)) := by
  have b0 := below_var w (.cells cs 38)
  have r0 := Row.new w cs 38
  obtain ⟨W1, hW1⟩ : ∃ W, w.alloc (.cells cs 38) = W := ⟨_, rfl⟩
  have hs1 : W1.heap.size = w.heap.size + 1 := by rw [← hW1]; simp
  rw [hW1] at b0 r0 ⊢
  have b1 := below_var W1 (.cells #[.pointer none] 170)
  have h1 := heap_alloc_last W1 (.cells #[.pointer none] 170)
  obtain ⟨W2, hW2⟩ : ∃ W, W1.alloc (.cells #[.pointer none] 170) = W := ⟨_, rfl⟩
  have hs2 : W2.heap.size = w.heap.size + 2 := by rw [← hW2]; simp [hs1]
  rw [hW2] at b1 h1 ⊢
  rw [hs1] at h1
  have b2 := below_var W2 (.cells #[.bool false] 4)
  have h2 := heap_alloc_last W2 (.cells #[.bool false] 4)
  rw [hs2] at h2
  exact ⟨(r0.keep b1).keep b2, (b2.block _ (by omega)).trans h1, h2, below_trans (below_trans b0 b1) b2⟩
set_option maxRecDepth 10000 in
set_option maxHeartbeats 2000000 in
theorem zopen_flat (z : Zn) (s : Zs) (w : World) (h : ZnFlat z) (hA : IntsAt w w.heap.size s.A z.cal.months) : Calls Tryz.prog 78 #[.agg (znCells z s)] w fun e w' => (∃ b : Nat, e = .returned (.tuple #[pt b, .bool true])) ∧ Below w.heap.size w w' := by
  have hT : z.trans.length = 0 := by rw [h.trans]; rfl
  have hy : z.yearly.length = 0 := by rw [h.yearly]; rfl
  have hr : z.cal.rules.length = 0 := by rw [h.cal.ru]; rfl
  have e0 : znCells z s = #[I z.cal.epoch, .slice s.A z.cal.months.length s.a, I z.cal.leap, .slice s.B 0 s.b, I z.start, .slice s.C 0 s.c, I z.hor, .slice s.D 0 s.d] := by unfold znCells; rw [hy, hT, hr]
  have HV : Hid (∀ w', Below w.heap.size w w' → Calls Tryz.prog 103 #[.agg #[I z.cal.epoch, .slice s.A z.cal.months.length s.a, I z.cal.leap, .slice s.B 0 s.b]] w' (Gives (.bool true) w')) := Lib.hid fun w' hb => by
    have h1 := civilValid_flat z.cal s.A s.a s.B s.b w' ((hA.keep hb).more hb.size) h.cal
    have e1 : calCells z.cal s.A s.a s.B s.b = #[I z.cal.epoch, .slice s.A z.cal.months.length s.a, I z.cal.leap, .slice s.B 0 s.b] := by unfold calCells; rw [hr]
    rwa [e1] at h1
  have HK : Hid (∀ w', Calls Tryz.prog 109 #[.agg #[I z.cal.epoch, .slice s.A z.cal.months.length s.a, I z.cal.leap, .slice s.B 0 s.b, I z.start, .slice s.C 0 s.c, I z.hor, .slice s.D 0 s.d]] w' fun e w2 => (∃ b : Nat, e = .returned (.tuple #[pt b, .bool true])) ∧ Below w'.heap.size w' w2) := Lib.hid fun w' => by
    have := tick_flat z s w' h
    rwa [e0] at this
  have HW1 : Hid (∀ w, Calls Tryz.prog 108 #[I z.start, I 1080] w fun e w' => e = .returned (.bool true) ∧ w' = w) := Lib.hid fun w => zwithin_yes z.start 1080 w (by omega) h.start.1 h.start.2
  have HW2 : Hid (∀ w, Calls Tryz.prog 108 #[I z.hor, I 2251799813685248] w fun e w' => e = .returned (.bool true) ∧ w' = w) := Lib.hid fun w => zwithin_yes z.hor 2251799813685248 w (by omega) h.hor.1 h.hor.2
  have HZ0 := Lib.hid (zo_start w #[I z.cal.epoch, .slice s.A z.cal.months.length s.a, I z.cal.leap, .slice s.B 0 s.b, I z.start, .slice s.C 0 s.c, I z.hor, .slice s.D 0 s.d])
  rw [e0]
  clear h hy hT hr e0 hA
  go_enter Tryz.func78, Tryz.ntmps78
  go_wp2_with fail
  refine (HV.out _ HZ0.out.up).mono ?_
  rintro e w1 ⟨rfl, hb1⟩
  have HZ1 := Lib.hid (HZ0.out.below hb1)
  have k1 := HZ1.out.row.2
  clear hb1 HZ0 HV
  go_wp2_with fail
  refine (HW1.out _).mono ?_
  rintro e w2 ⟨rfl, rfl⟩
  go_wp2_with fail
  refine (HW2.out _).mono ?_
  rintro e w3 ⟨rfl, rfl⟩
  go_wp2_with fail
  go_loopw [37] (fun i wr => i = I 0 ∧ wr = w3) (fun _ _ => 0)
  case atStart => exact ⟨rfl, rfl⟩
  case round =>
    obtain ⟨rfl, rfl⟩ := hrel
    go_wp2_with fail
    go_loopw [90] (fun i wr2 => i = I 0 ∧ wr2 = wr) (fun _ _ => 0)
    case atStart => exact ⟨rfl, rfl⟩
    case round =>
      obtain ⟨rfl, rfl⟩ := hrel
      go_wp2_with fail
      refine (HK.out _).mono ?_
      rintro e w5 ⟨⟨b, rfl⟩, hb5⟩
      have HZ5 := Lib.hid (HZ1.out.below hb5)
      have k5 := HZ5.out.row.2
      have hlt5 : w.heap.size + 1 + 1 < w5.heap.size := (Array.getElem?_eq_some_iff.1 HZ5.out.r2).1
      have hlt3 : w.heap.size < w5.heap.size := by omega
      have hlt4 : w.heap.size + 1 < w5.heap.size := by omega
      have c1 : w5.cell? ⟨w.heap.size + 1, 0, none⟩ = some (.pointer none) := cell_of_row w5 _ 0 _ _ _ HZ5.out.r1
      have c2 : w5.cell? ⟨w.heap.size + 1 + 1, 0, none⟩ = some (.bool false) := cell_of_row w5 _ 0 _ _ _ HZ5.out.r2
      have f1 : w5.frozen? ⟨w.heap.size + 1, 0, none⟩ = false := frozen_of_row w5 _ 0 _ _ HZ5.out.r1
      have f2 : w5.frozen? ⟨w.heap.size + 1 + 1, 0, none⟩ = false := frozen_of_row w5 _ 0 _ _ HZ5.out.r2
      clear hb5 HZ1 k1 HK
      go_wp2_with fail
      refine bodyPost_ret (v := .tuple #[pt b, .bool true]) (results_two rfl _ _ ⟨w.heap.size + 1, 0, none⟩ ⟨w.heap.size + 1 + 1, 0, none⟩ (pt b) (.bool true) rfl (load_clock _ _ _ ?_) rfl (load_boolv _ _ _ ?_)) rfl ⟨⟨b, rfl⟩, ?_⟩
      · go_simp
      · go_simp
      · exact below_trans ((HZ5.out.up.setCell (p := ⟨w.heap.size + 1, 0, none⟩) (Nat.le_succ _) _).setCell (p := ⟨w.heap.size + 1 + 1, 0, none⟩) (by show w.heap.size ≤ w.heap.size + 1 + 1; omega) _) (below_trans (below_var _ _) (below_var _ _))
set_option maxRecDepth 10000 in
set_option maxHeartbeats 1000000 in
theorem zoneValid_flat (z : Zn) (s : Zs) (w : World) (h : ZnFlat z) (hA : IntsAt w w.heap.size s.A z.cal.months) : Calls Tryz.prog 55 #[.agg (znCells z s)] w (Gives (I 0) w) := by
  have hT : z.trans.length = 0 := by rw [h.trans]; rfl
  have HO : Hid (∀ w', Below w.heap.size w w' → Calls Tryz.prog 78 #[.agg (znCells z s)] w' fun e w2 => (∃ b : Nat, e = .returned (.tuple #[pt b, .bool true])) ∧ Below w'.heap.size w' w2) := Lib.hid fun w' hb => zopen_flat z s w' h ((hA.keep hb).more hb.size)
  have HR0 := Lib.hid (Row.new w (znCells z s) 38)
  have HB0 := Lib.hid (below_var w (.cells (znCells z s) 38))
  have e0 : znCells z s = #[I z.cal.epoch, .slice s.A z.cal.months.length s.a, I z.cal.leap, .slice s.B z.cal.rules.length s.b, I z.start, .slice s.C 0 s.c, I z.hor, .slice s.D z.yearly.length s.d] := by unfold znCells; rw [hT]
  rw [e0] at HO HR0 HB0 ⊢
  clear h hT e0 hA
  go_enter Tryz.func55, Tryz.ntmps55
  go_wp2_with fail
  refine (HO.out _ HB0.out).mono ?_
  rintro e w1 ⟨⟨b, rfl⟩, hb1⟩
  have HB1 := Lib.hid (below_trans HB0.out hb1)
  clear hb1
  go_wp2_with fail
  go_ret
  exact ⟨rfl, HB1.out⟩
end Go.Proofs.YtoljoigbepdeiaaGreatDoor

/- Tables as data, and how they lie in memory; a load of a part of a row under a guard that is met. -/
namespace Go.Proofs.YtoljoigbepdeiaaGreatDoor
open Go Go.RowKit

structure Ze where
  name : ByteArray
  z : Zn
structure ZeV where
  e : Ze
  s : Zs
def ZeV.cells (x : ZeV) : Array Value := #[.string x.e.name, I x.e.z.cal.epoch, .slice x.s.A x.e.z.cal.months.length x.s.a, I x.e.z.cal.leap, .slice x.s.B x.e.z.cal.rules.length x.s.b, I x.e.z.start, .slice x.s.C x.e.z.trans.length x.s.c, I x.e.z.hor, .slice x.s.D x.e.z.yearly.length x.s.d]
structure Tb where
  issuer : Int
  version : Int
  withdraws : Int
  prev : List UInt8
  mac : List UInt8
  zones : List Ze
def tbList (t : Tb) (vz : Value) : List Value := [I t.issuer, I t.version, I t.withdraws, vz] ++ (refCells t.prev ++ refCells t.mac)
def tbVal (t : Tb) (vz : Value) : Array Value := (tbList t vz).toArray
section
variable (t : Tb) (vz : Value)
theorem tb_get0 : (tbVal t vz)[0]? = some (I t.issuer) := rfl
theorem tb_get1 : (tbVal t vz)[1]? = some (I t.version) := rfl
theorem tb_get2 : (tbVal t vz)[2]? = some (I t.withdraws) := rfl
theorem tb_get3 : (tbVal t vz)[3]? = some vz := rfl
theorem tb_size (h : t.prev.length = 32) (h2 : t.mac.length = 32) : (tbVal t vz).size = 68 := by simp [tbVal, tbList, refCells, h, h2]
theorem tb_info (h : t.prev.length = 32) (h2 : t.mac.length = 32) : (Tryz.prog.info? 30).map (·.size) = some (tbVal t vz).size := by rw [tb_size t vz h h2]; kernel_rfl
theorem tb_prev {W : World} {b : Nat} (hr : Row W b (tbVal t vz)) : W.rangeAt b 4 (refCells t.prev) := fun j v hv => by
  rw [hr.2 (4 + j)]
  unfold tbVal tbList
  rw [List.getElem?_toArray, List.getElem?_append_right (by simp)]
  have hj := (List.getElem?_eq_some_iff.1 hv).1
  rw [show 4 + j - [I t.issuer, I t.version, I t.withdraws, vz].length = j by simp, List.getElem?_append_left hj]
  exact hv
theorem tb_mac {W : World} {b : Nat} (hr : Row W b (tbVal t vz)) (hp : t.prev.length = 32) : W.rangeAt b 36 (refCells t.mac) := fun j v hv => by
  rw [hr.2 (36 + j)]
  unfold tbVal tbList
  have hl : (refCells t.prev).length = 32 := by simp [refCells, hp]
  rw [List.getElem?_toArray, List.getElem?_append_right (by simp; omega), List.getElem?_append_right (by simp [hl]; omega)]
  rw [show 36 + j - [I t.issuer, I t.version, I t.withdraws, vz].length - (refCells t.prev).length = j by simp [hl]; omega]
  exact hv
end
/-- The zones in memory older than block B. -/
def ZesAt (w : World) (B : Nat) (A : Option Addr) (zs : List ZeV) : Prop :=
  zs.length = 0 ∨ ∃ b, A = some ⟨b, 0, none⟩ ∧ b < B ∧ ∀ k x, zs[k]? = some x → w.rangeAt b (k * 9) x.cells.toList ∧ IntsAt w B x.s.A x.e.z.cal.months
theorem ZesAt.keep {w w' : World} {B : Nat} {A : Option Addr} {zs : List ZeV} (h : ZesAt w B A zs) (hb : Below B w w') : ZesAt w' B A zs := by
  rcases h with h | ⟨b, h1, h2, h3⟩
  · exact .inl h
  · exact .inr ⟨b, h1, h2, fun k x hx => ⟨rangeAt_keep (h3 k x hx).1 hb h2, (h3 k x hx).2.keep hb⟩⟩
theorem ZesAt.more {w : World} {B B' : Nat} {A : Option Addr} {zs : List ZeV} (h : ZesAt w B A zs) (hB : B ≤ B') : ZesAt w B' A zs := by
  rcases h with h | ⟨b, h1, h2, h3⟩
  · exact .inl h
  · exact .inr ⟨b, h1, by omega, fun k x hx => ⟨(h3 k x hx).1, (h3 k x hx).2.more hB⟩⟩
section
variable {P : Program} {ops : Array Oper} {Q : Exit → Act → World → Prop} {a : Act} {w : World} {rest : List Oper} {o : Oper}
theorem wpList_load_Mid (hw : Region.wanted o (yielded ops a.tmps) = true) (ty : TypeId) (x : Operand) (ho : o.op = .load ty x) (g off : Nat) (hx : a.eval x = .pointer (some ⟨g, off, none⟩)) (cs : List Value) (hr : w.rangeAt g off cs)
    (d : TypeDesc) (hu : P.underlying ty = some d) (hd : d.isRow = true) (hi : (P.info? ty).map (·.size) = some cs.length)
    (h : wpList P ops Q rest (a.put o.dst (.agg cs.toArray)) w) : wpList P ops Q (o :: rest) a w := by
  unfold wpList
  rw [if_pos hw]
  exact .inl (wp_load_mid ty x ho g off hx cs d hr hu hd hi h)
end
/-- A table whose zones are flat, with its head in order. -/
structure TbFlat (t : Tb) : Prop where
  issuer : 0 ≤ t.issuer ∧ t.issuer < 16
  version : 1 ≤ t.version ∧ t.version ≤ 64
  withdraws : 0 ≤ t.withdraws ∧ t.withdraws < t.version
  prev : t.prev.length = 32
  mac : t.mac.length = 32
  first : t.version = 1 → t.prev = zero32
  num : t.zones.length ≤ 128
  flat : ∀ e ∈ t.zones, ZnFlat e.z
  short : ∀ e ∈ t.zones, e.name.size ≤ 32
end Go.Proofs.YtoljoigbepdeiaaGreatDoor

/- The table's writer: number, length, flag, text. -/
namespace Go.Proofs.YtoljoigbepdeiaaGreatDoor
open Go Go.RowKit

/-- The table's writer at block g: the bytes written so far in a row of their own. -/
def TWSt (w : World) (g : Nat) (v : Value) (bs : List UInt8) : Prop :=
  w.heap[g]? = some (.cells #[v] 78 (0, 0)) ∧ w.ownsRow (g + 1) 5 1 v bs.length (bs.map Extern.Stop.cell)
/-- One byte more. -/
theorem twst_step {w w1 : World} {g : Nat} {v v' : Value} {bs : List UInt8} {c : UInt8} {o : Obj} (h : TWSt w g v bs) (hg : g < w.heap.size)
    (hown : w1.ownsRow (g + 1) 5 1 v' (bs.length + 1) (bs.map Extern.Stop.cell ++ [Extern.Stop.cell c])) (hgrow : (w.alloc o).grownBy w1 v.ownBlock)
    (hat : v'.ownBlock = v.ownBlock ∨ v'.ownBlock = some (w.heap.size + 1)) :
    w1.heap[g]? = some (.cells #[v] 78 (0, 0)) ∧ TWSt (w1.setCell ⟨g, 0, none⟩ v') g v' (bs ++ [c]) ∧ WKeep g v w v' (w1.setCell ⟨g, 0, none⟩ v') := by
  have hne : some g ≠ v.ownBlock := own_ge h.2 g (Nat.lt_succ_self g)
  have hg1 : w1.heap[g]? = some (.cells #[v] 78 (0, 0)) := by
    rw [hgrow.block g (by simp; omega) hne, Below.heap_alloc w o g hg]; exact h.1
  refine ⟨hg1, ⟨?_, ?_⟩, ?_⟩
  · rw [heap_setCell_same w1 g 0 _ _ v' hg1]; rfl
  · have := ownsRow_far (u := v') (p := ⟨g, 0, none⟩) hown (own_ge hown g (Nat.lt_succ_self g))
    simpa using this
  · refine ⟨hgrow.os, hgrow.tape, hgrow.output, ?_, fun k hk hkg hkv => ?_, ?_⟩
    · have := hgrow.size; simp [World.setCell] at this ⊢; omega
    · rw [heap_setCell_other w1 _ k v' hkg, hgrow.block k (by simp; omega) hkv, Below.heap_alloc w o k hk]
    · rcases hat with e | e
      · exact .inl e
      · exact .inr ⟨_, e, by omega⟩

def TwPost (w : World) (g : Nat) (v : Value) (bs : List UInt8) (e : Ending) (w' : World) : Prop :=
  e = .returned (.tuple #[]) ∧ ∃ v', TWSt w' g v' bs ∧ WKeep g v w v' w'
def TwRel (w : World) (g : Nat) (v : Value) (bs : List UInt8) (n : Int) (size : Nat) (x i : Value) (wr : World) : Prop :=
  ∃ k : Nat, k ≤ size ∧ i = .int .i64 k ∧ x = .int .i64 (shiftBy n k) ∧ ∃ v', TWSt wr g v' (bs ++ le n k) ∧ WKeep g v w v' wr
set_option maxRecDepth 10000 in
set_option maxHeartbeats 1000000 in
theorem tnumber_any (w : World) (g : Nat) (p : Addr) (v : Value) (bs : List UInt8) (n : Int) (size : Nat) (hn0 : -9223372036854775808 ≤ n) (hn1 : n ≤ 9223372036854775807) (hs : size ≤ 8) (hl : bs.length ≤ 1099511627776) (hg : g < w.heap.size) (hst : TWSt w g v bs) (hp : w.cell? p = some (I n)) :
    Calls Tryz.prog 190 #[pt g, .pointer (some p), I size] w (TwPost w g v (bs ++ le n size)) := by
  obtain ⟨i0, hi, hz0, hz1, hz2⟩ := info_parts info_u8
  have HST := Lib.hid hst
  clear hst
  go_enter Tryz.func190, Tryz.ntmps190
  go_wp2
  go_loopw [6, 11] (fun x i wr => TwRel w g v bs n size x i wr) (fun _ i _ => size - (intOf i).toNat)
  case atStart => exact ⟨0, Nat.zero_le _, rfl, rfl, v, by simpa [le] using HST.out, WKeep.refl _ _ _⟩
  case round =>
    obtain ⟨k, hk, rfl, rfl, v1, hw1, hk1⟩ := hrel
    by_cases hlt : k < size
    · obtain ⟨x, hx⟩ : ∃ x, shiftBy n k = x := ⟨_, rfl⟩
      have hbd := shiftBy_bd n k hn0 hn1
      rw [hx] at hbd ⊢
      have HX := Lib.hid hx
      obtain ⟨B, hB⟩ : ∃ B, bs ++ le n k = B := ⟨_, rfl⟩
      have hlen : B.length ≤ 1099511627784 := by rw [← hB, List.length_append, le_length]; omega
      rw [hB] at hw1
      have HBB := Lib.hid hB
      have hc := cell_of_row wr g 0 _ _ _ hw1.1
      have hgr : g < wr.heap.size := Nat.lt_of_lt_of_le hg hk1.size
      have HW := Lib.hid hw1
      have HK := Lib.hid hk1
      have hown := Lib.hid hw1.2
      clear hx hw1 hk1 hB
      go_wp2_with (at_builtin; refine wpList_append_own_at _ rfl _ _ 24 rfl (g + 1) 5 i0 (.int .u8 0) 1 1 Tryz.underlying24 hi hz0 hz1 hz2 rfl (by decide) _ _ _ rfl (hown.out.alloc _) ⟨wr.heap.size, 0, none⟩ 1 1 [Extern.Stop.cell (byteOf x)] rfl rfl ?c1 ?c2 ?c3 ?c4 ?c5 ?_)
      case c1 =>
        rw [byteOf_cell]
        exact cell_one_new _ _ _
      case c2 => intro u hu; simp at hu; subst hu; rfl
      case c3 => unfold maxLen; omega
      case c4 => omega
      case c5 => simp; omega
      intro v' w1 hown' hgrow _ hat
      obtain ⟨hg1, hst1, hkp1⟩ := twst_step HW.out hgr hown' hgrow hat
      obtain ⟨g', cap', rfl, _⟩ := own_form hown' (Nat.succ_pos _)
      have hc1 := cell_of_row w1 g 0 _ _ _ hg1
      have hf1 := frozen_of_row w1 g 0 _ _ hg1
      have HST1 := Lib.hid hst1
      have HKP1 := Lib.hid hkp1
      clear hown' hgrow hat hg1 hst1 hkp1 hc
      go_wp2
      go_roundw
      case rel => exact ⟨k + 1, by omega, by go_num, by unfold shiftBy; rw [HX.out], _, by rw [le_snoc, ← List.append_assoc, HBB.out, HX.out]; exact HST1.out, HK.out.trans HKP1.out⟩
      case measure => simp [intOf]; omega
    · have hke : k = size := by omega
      have HKE := Lib.hid hke
      have HW := Lib.hid hw1
      have HK := Lib.hid hk1
      clear hke hw1 hk1
      go_wp2
      go_end0
      exact ⟨rfl, v1, by rw [← HKE.out]; exact HW.out, HK.out⟩
end Go.Proofs.YtoljoigbepdeiaaGreatDoor

/- The table's writer: length, offset, digest, text. -/
namespace Go.Proofs.YtoljoigbepdeiaaGreatDoor
open Go Go.RowKit

theorem TWSt.lt {w : World} {g : Nat} {v : Value} {bs : List UInt8} (h : TWSt w g v bs) : g < w.heap.size := (Array.getElem?_eq_some_iff.1 h.1).1
theorem TWSt.grow {w w' : World} {g : Nat} {v : Value} {bs : List UInt8} (h : TWSt w g v bs) (hb : Below w.heap.size w w') : TWSt w' g v bs ∧ WKeep g v w v w' :=
  ⟨⟨(hb.block g h.lt).trans h.1, ownsRow_blocks h.2 fun k _ hk => hb.block k hk⟩, ⟨hb.os, hb.tape, hb.output, hb.size, fun k hk _ _ => hb.block k hk, .inl rfl⟩⟩
/-- A block that is neither the writer nor the row of its bytes is as it was. -/
theorem TWSt.far {w w' : World} {g : Nat} {v v' : Value} {bs : List UInt8} (_h : TWSt w g v bs) (hk : WKeep g v w v' w') (b : Nat) (hb : b < w.heap.size) (hg : b ≠ g) (ho : some b ≠ v.ownBlock) : w'.heap[b]? = w.heap[b]? := hk.block b hb hg ho
theorem TWSt.new_ne {w : World} {g : Nat} {v : Value} {bs : List UInt8} (h : TWSt w g v bs) : w.heap.size ≠ g ∧ some w.heap.size ≠ v.ownBlock :=
  ⟨by have := h.lt; omega, fun e => by have := own_lt h.2 _ e.symm; omega⟩
set_option maxRecDepth 10000 in
set_option maxHeartbeats 1000000 in
theorem tlength_any (w : World) (g : Nat) (v : Value) (bs : List UInt8) (n : Int) (size : Nat) (hn0 : -9223372036854775808 ≤ n) (hn1 : n ≤ 9223372036854775807) (hs : size ≤ 8) (hl : bs.length ≤ 1099511627776) (hst : TWSt w g v bs) :
    Calls Tryz.prog 189 #[pt g, I n, I size] w fun e w' => e = .returned (I n) ∧ ∃ v', TWSt w' g v' (bs ++ le n size) ∧ WKeep g v w v' w' := by
  obtain ⟨h1, h2⟩ := hst.grow (below_var w (.cells #[I n] 3))
  have hne := hst.new_ne
  have HC := Lib.hid (tnumber_any (w.alloc (.cells #[I n] 3)) g ⟨w.heap.size, 0, none⟩ v bs n size hn0 hn1 hs hl h1.lt h1 ((Row.new w #[I n] 3).2 0))
  have HB := Lib.hid (heap_alloc_last w (.cells #[I n] 3))
  have H1 := Lib.hid h1
  have H2 := Lib.hid h2
  have HNE := Lib.hid hne
  clear h1 h2 hst hne
  go_enter Tryz.func189, Tryz.ntmps189
  go_wp2_with fail
  refine HC.out.mono ?_
  rintro e w1 ⟨rfl, v1, hs1, hk1⟩
  have k1 : w1.cell? ⟨w.heap.size, 0, none⟩ = some (I n) := cell_of_row w1 _ 0 _ _ _ ((H1.out.far hk1 w.heap.size (by simp) HNE.out.1 HNE.out.2).trans HB.out)
  have HS := Lib.hid hs1
  have HK := Lib.hid (H2.out.trans hk1)
  clear hs1 hk1 HC
  go_wp2_with fail
  go_ret
  exact ⟨rfl, v1, HS.out, HK.out⟩
/-- Many bytes more, appended in one piece. -/
theorem twst_app {w W w1 : World} {g m : Nat} {v v' : Value} {bs xs : List UInt8} (h : TWSt w g v bs) (hW : W.heap = w.heap) (h1 : W.os = w.os) (h2 : W.tape = w.tape) (h3 : W.output = w.output) (hm : m = bs.length + xs.length)
    (hown : w1.ownsRow (g + 1) 5 1 v' m (bs.map Extern.Stop.cell ++ xs.map Extern.Stop.cell)) (hgrow : W.grownBy w1 v.ownBlock) (hat : v'.ownBlock = v.ownBlock ∨ v'.ownBlock = some w.heap.size) :
    w1.heap[g]? = some (.cells #[v] 78 (0, 0)) ∧ TWSt (w1.setCell ⟨g, 0, none⟩ v') g v' (bs ++ xs) ∧ WKeep g v w v' (w1.setCell ⟨g, 0, none⟩ v') := by
  subst hm
  have hg := h.lt
  have hne : some g ≠ v.ownBlock := own_ge h.2 g (Nat.lt_succ_self g)
  have hg1 : w1.heap[g]? = some (.cells #[v] 78 (0, 0)) := by
    rw [hgrow.block g (by rw [hW]; exact hg) hne, hW]; exact h.1
  refine ⟨hg1, ⟨?_, ?_⟩, ?_⟩
  · rw [heap_setCell_same w1 g 0 _ _ _ hg1]; rfl
  · have := ownsRow_far (u := v') (p := ⟨g, 0, none⟩) hown (own_ge hown g (Nat.lt_succ_self g))
    simpa using this
  · refine ⟨hgrow.os.trans h1, hgrow.tape.trans h2, hgrow.output.trans h3, ?_, fun k hk hkg hkv => ?_, ?_⟩
    · have := hgrow.size; rw [hW] at this; simp [World.setCell]; omega
    · rw [heap_setCell_other w1 _ k _ hkg, hgrow.block k (by rw [hW]; exact hk) hkv, hW]
    · exact hat.elim .inl fun e => .inr ⟨_, e, Nat.le_refl _⟩
theorem toffset_any (w : World) (g : Nat) (p : Addr) (v : Value) (bs : List UInt8) (n : Int) (hn0 : -9223372036854775808 ≤ n) (hn1 : n ≤ 9223372036854775807) (hl : bs.length ≤ 1099511627776) (hst : TWSt w g v bs) (hp : w.cell? p = some (I n)) :
    Calls Tryz.prog 191 #[pt g, .pointer (some p)] w (TwPost w g v (bs ++ le n 2)) := by
  have HC := Lib.hid (tnumber_any w g p v bs n 2 hn0 hn1 (by omega) hl hst.lt hst hp)
  clear hst hp
  go_enter Tryz.func191, Tryz.ntmps191
  go_wp2_with fail
  refine HC.out.mono ?_
  rintro e w1 ⟨rfl, h⟩
  have H := Lib.hid h
  clear h HC
  go_wp2_with fail
  go_end0
  exact ⟨rfl, H.out⟩
set_option maxRecDepth 10000 in
set_option maxHeartbeats 1000000 in
theorem tdigest_any (w : World) (g db off : Nat) (v : Value) (bs ds : List UInt8) (hl : bs.length ≤ 1000000000000) (hd : w.rangeAt db off (refCells ds)) (h32 : ds.length = 32) (hst : TWSt w g v bs) :
    Calls Tryz.prog 187 #[pt g, .pointer (some ⟨db, off, none⟩)] w (TwPost w g v (bs ++ ds)) := by
  have hc0 : w.cell? ⟨g, 0, none⟩ = some v := cell_of_row w g 0 _ _ _ hst.1
  have hgl : g < w.heap.size := hst.lt
  have HI := Lib.hid hst
  obtain ⟨i0, hi, hz0, hz1, hz2⟩ := info_parts info_u8
  have hnews : ∀ j u, (refCells ds)[j]? = some u → w.drew.cell? ((⟨db, off, none⟩ : Addr).add j) = some u := fun j u hu => by
    rw [Addr.add_mid]
    exact hd j u hu
  have hmx : bs.length + 32 ≤ maxLen := by unfold maxLen; omega
  have hby : (bs.length + 32) * 1 ≤ 140737488355328 := by omega
  clear hst hd
  go_enter Tryz.func187, Tryz.ntmps187
  go_wp2_with fail
  go_region_law ((refine step_append_lies _ (by rfl) _ _ _ (by rfl) (g + 1) 5 i0 _ 1 1 Tryz.underlying24 hi hz0 hz1 hz2 rfl (by omega) v bs.length (bs.map Extern.Stop.cell) (by rfl) (HI.out.2.drew) ⟨db, off, none⟩ 32 32 (refCells ds) (by rfl) (by simp [refCells, h32]) hnews (ref_one2 ds) (by omega) hmx hby (Nat.succ_le_of_lt hgl) w.heap.size rfl ?_; intro gg cap w1 hown1 hgrow hat hlt; have hS := twst_app (w := w) (W := w.drew) (xs := ds) (m := bs.length + 32) HI.out rfl rfl rfl rfl (by rw [h32]) hown1 hgrow (hat.elim (fun e => .inl e.symm) (fun e => .inr (by rw [← e]; rfl))); have hc2 : w1.cell? ⟨g, 0, none⟩ = some v := cell_of_row w1 g 0 _ _ _ hS.1; have hf2 := frozen_of_row w1 g 0 _ _ hS.1; have HSS := Lib.hid hS; clear hS hown1 hgrow hat hlt))
  all_goals
    go_wp2
    go_end0
    exact ⟨rfl, _, HSS.out.2.1, HSS.out.2.2⟩
set_option maxRecDepth 10000 in
set_option maxHeartbeats 1000000 in
theorem ttext_any (w : World) (g : Nat) (p : Addr) (v : Value) (bs : List UInt8) (s : ByteArray) (hs : s.size ≤ 1000000) (hl : bs.length ≤ 1000000000) (hst : TWSt w g v bs) (hp : w.cell? p = some (.string s)) (hpg : p.block ≠ g) (hpv : some p.block ≠ v.ownBlock) (hpl : p.block < w.heap.size) :
    Calls Tryz.prog 192 #[pt g, .pointer (some p)] w (TwPost w g v (bs ++ (le s.size 1 ++ s.data.toList))) := by
  have HC := Lib.hid (tlength_any w g v bs s.size 1 (by omega) (by omega) (by omega) (by omega) hst)
  have HST := Lib.hid hst
  have HPK := Lib.hid (show p.block ≠ g ∧ some p.block ≠ v.ownBlock from ⟨hpg, hpv⟩)
  clear hst hpg hpv
  go_enter Tryz.func192, Tryz.ntmps192
  go_wp2_with fail
  refine HC.out.mono ?_
  rintro e w1 ⟨rfl, v1, hw1, hk1⟩
  have hlen : (bs ++ le (s.size : Int) 1).length ≤ 1000000008 := by rw [List.length_append, le_length]; omega
  have hpos : 0 < (bs ++ le (s.size : Int) 1).length := by rw [List.length_append, le_length]; omega
  obtain ⟨B, hB⟩ : ∃ B, bs ++ le (s.size : Int) 1 = B := ⟨_, rfl⟩
  rw [hB] at hw1 hlen hpos
  have hp1 : w1.cell? p = some (.string s) := (World.cell?_of_block (hk1.block p.block hpl HPK.out.1 HPK.out.2)).trans hp
  have HB := Lib.hid hB
  have HW := Lib.hid hw1
  have HK := Lib.hid hk1
  have hc1 := cell_of_row w1 g 0 _ _ _ hw1.1
  have hgl : g < w1.heap.size := hw1.lt
  clear hB hw1 hk1 HC hp
  go_wp2_with fail
  go_region_law ((refine step_app_str (by rfl) _ _ (by rfl) (g + 1) v1 B.length (B.map Extern.Stop.cell) (by rfl) (HW.out.2.drew) s (by rfl) (by omega) (Nat.succ_le_of_lt hgl) (by omega) ?_; intro gg cap w2 hown2 hgrow hat; have hS := twst_app (w := w1) (W := w1.drew) (xs := s.data.toList) (m := B.length + s.size) HW.out rfl rfl rfl rfl (by rw [Array.length_toList]; rfl) hown2 hgrow hat; have hc2 : w2.cell? ⟨g, 0, none⟩ = some v1 := cell_of_row w2 g 0 _ _ _ hS.1; have hf2 := frozen_of_row w2 g 0 _ _ hS.1; have HSS := Lib.hid hS; clear hS hown2 hgrow hat))
  all_goals
    go_wp2
    go_end0
    exact ⟨rfl, _, by rw [← List.append_assoc, HB.out]; exact HSS.out.2.1, HK.out.trans HSS.out.2.2⟩
end Go.Proofs.YtoljoigbepdeiaaGreatDoor

/- The table's two ports: which method an interface call finds (406: the seat's number of types and the model's depth). -/
namespace Go.Proofs.YtoljoigbepdeiaaGreatDoor
open Go Go.RowKit

theorem m_w_number (n : Nat) (a : Addr) (w : World) : (method (n + 1) 76 (.pointer (some a)) "kalends/table.number").run Tryz.prog w = .ok (190, .pointer (some a)) w := by kernel_rfl
theorem n_w_number (n : Nat) (a : Addr) (w : World) : (nilAhead (n + 1) 76 (.pointer (some a)) "kalends/table.number").run Tryz.prog w = .ok (some false) w := by kernel_rfl
theorem m_r_number (n : Nat) (a : Addr) (w : World) : (method (n + 1) 140 (.pointer (some a)) "kalends/table.number").run Tryz.prog w = .ok (196, .pointer (some a)) w := by kernel_rfl
theorem n_r_number (n : Nat) (a : Addr) (w : World) : (nilAhead (n + 1) 140 (.pointer (some a)) "kalends/table.number").run Tryz.prog w = .ok (some false) w := by kernel_rfl
theorem m_w_offset (n : Nat) (a : Addr) (w : World) : (method (n + 1) 76 (.pointer (some a)) "kalends/table.offset").run Tryz.prog w = .ok (191, .pointer (some a)) w := by kernel_rfl
theorem n_w_offset (n : Nat) (a : Addr) (w : World) : (nilAhead (n + 1) 76 (.pointer (some a)) "kalends/table.offset").run Tryz.prog w = .ok (some false) w := by kernel_rfl
theorem m_r_offset (n : Nat) (a : Addr) (w : World) : (method (n + 1) 140 (.pointer (some a)) "kalends/table.offset").run Tryz.prog w = .ok (197, .pointer (some a)) w := by kernel_rfl
theorem n_r_offset (n : Nat) (a : Addr) (w : World) : (nilAhead (n + 1) 140 (.pointer (some a)) "kalends/table.offset").run Tryz.prog w = .ok (some false) w := by kernel_rfl
theorem m_w_text (n : Nat) (a : Addr) (w : World) : (method (n + 1) 76 (.pointer (some a)) "kalends/table.text").run Tryz.prog w = .ok (192, .pointer (some a)) w := by kernel_rfl
theorem n_w_text (n : Nat) (a : Addr) (w : World) : (nilAhead (n + 1) 76 (.pointer (some a)) "kalends/table.text").run Tryz.prog w = .ok (some false) w := by kernel_rfl
theorem m_r_text (n : Nat) (a : Addr) (w : World) : (method (n + 1) 140 (.pointer (some a)) "kalends/table.text").run Tryz.prog w = .ok (198, .pointer (some a)) w := by kernel_rfl
theorem n_r_text (n : Nat) (a : Addr) (w : World) : (nilAhead (n + 1) 140 (.pointer (some a)) "kalends/table.text").run Tryz.prog w = .ok (some false) w := by kernel_rfl
theorem m_w_digest (n : Nat) (a : Addr) (w : World) : (method (n + 1) 76 (.pointer (some a)) "kalends/table.digest").run Tryz.prog w = .ok (187, .pointer (some a)) w := by kernel_rfl
theorem n_w_digest (n : Nat) (a : Addr) (w : World) : (nilAhead (n + 1) 76 (.pointer (some a)) "kalends/table.digest").run Tryz.prog w = .ok (some false) w := by kernel_rfl
theorem m_r_digest (n : Nat) (a : Addr) (w : World) : (method (n + 1) 140 (.pointer (some a)) "kalends/table.digest").run Tryz.prog w = .ok (193, .pointer (some a)) w := by kernel_rfl
theorem n_r_digest (n : Nat) (a : Addr) (w : World) : (nilAhead (n + 1) 140 (.pointer (some a)) "kalends/table.digest").run Tryz.prog w = .ok (some false) w := by kernel_rfl
theorem m_w_length (n : Nat) (a : Addr) (w : World) : (method (n + 1) 76 (.pointer (some a)) "kalends/table.length").run Tryz.prog w = .ok (189, .pointer (some a)) w := by kernel_rfl
theorem n_w_length (n : Nat) (a : Addr) (w : World) : (nilAhead (n + 1) 76 (.pointer (some a)) "kalends/table.length").run Tryz.prog w = .ok (some false) w := by kernel_rfl
theorem m_r_length (n : Nat) (a : Addr) (w : World) : (method (n + 1) 140 (.pointer (some a)) "kalends/table.length").run Tryz.prog w = .ok (195, .pointer (some a)) w := by kernel_rfl
theorem n_r_length (n : Nat) (a : Addr) (w : World) : (nilAhead (n + 1) 140 (.pointer (some a)) "kalends/table.length").run Tryz.prog w = .ok (some false) w := by kernel_rfl
theorem m_w_flag (n : Nat) (a : Addr) (w : World) : (method (n + 1) 76 (.pointer (some a)) "kalends/table.flag").run Tryz.prog w = .ok (188, .pointer (some a)) w := by kernel_rfl
theorem n_w_flag (n : Nat) (a : Addr) (w : World) : (nilAhead (n + 1) 76 (.pointer (some a)) "kalends/table.flag").run Tryz.prog w = .ok (some false) w := by kernel_rfl
theorem m_r_flag (n : Nat) (a : Addr) (w : World) : (method (n + 1) 140 (.pointer (some a)) "kalends/table.flag").run Tryz.prog w = .ok (194, .pointer (some a)) w := by kernel_rfl
theorem n_r_flag (n : Nat) (a : Addr) (w : World) : (nilAhead (n + 1) 140 (.pointer (some a)) "kalends/table.flag").run Tryz.prog w = .ok (some false) w := by kernel_rfl
/-- A cell that is stored again as it was. -/
theorem setCell_same {w : World} {b o : Nat} {v : Value} (h : w.cell? ⟨b, o, none⟩ = some v) : w.setCell ⟨b, o, none⟩ v = w := by
  have hh : (w.setCell ⟨b, o, none⟩ v).heap = w.heap := by
    apply Array.ext_getElem?
    intro k
    by_cases hk : k = b
    · subst hk
      unfold World.cell? at h
      simp only [World.setCell, Array.getElem?_modify]
      cases hb : w.heap[k]? with
      | none => simp
      | some x =>
        cases x with
        | cells c e f =>
          rw [hb] at h
          simp at h ⊢
          exact (by
            apply Array.ext_getElem?
            intro i
            rw [Array.getElem?_setIfInBounds]
            split
            · rename_i e; subst e
              split
              · exact h.symm
              · rename_i e2; rw [Array.getElem?_eq_none (by omega)] at h; cases h
            · rfl)
        | _ => simp
    · exact heap_setCell_other w _ k v hk
  exact (show w.setCell ⟨b, o, none⟩ v = { w with heap := (w.setCell ⟨b, o, none⟩ v).heap } from rfl).trans (by rw [hh])
end Go.Proofs.YtoljoigbepdeiaaGreatDoor
