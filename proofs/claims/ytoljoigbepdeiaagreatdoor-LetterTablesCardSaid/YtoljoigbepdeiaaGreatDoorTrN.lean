/- The table's reader: number. -/
import Derived.Test.YtoljoigbepdeiaaGreatDoorTrA
import Derived.Test.YtoljoigbepdeiaaGreatDoorRsP
import Derived.BigQuiet
import Derived.Deep.AppendLies
import Derived.Deep.CutBlock
import Derived.Deep.DeepCutAuto
import Derived.Deep.DrawnRows
import Derived.Deep.MidRow
import Derived.Deep.QuietTactic
import Derived.Deep.RegionHeld3
import Derived.Deep.RegionLaw
import Derived.Deep.WholeRow
import Derived.Great.BuildSlice
import Derived.Laws.BytesString
import Derived.Laws.CopyOwn
import Derived.Laws.EntriesVeiled
import Derived.Laws.MakeOwn
import Derived.Laws.ResultCell
import Derived.Laws.Rows
import Derived.Laws.Tables
import Derived.Lib.Hide
import Derived.LoopIn
import Derived.LoopNIn
import Derived.Maps.AppendAt
import Derived.Outline
import Derived.OwnWalkIn
import Derived.RangeFuncBound
import Derived.RangeFuncBox
import Derived.RangeFuncCalls
import Derived.RangeFuncLeaves
import Derived.RangeFuncNested
import Derived.Shelf.Abstract
import Derived.Shelf.Bytes.SlSmallAll
import Derived.Shelf.RegionOpen
import Derived.StillTailTactics
import Derived.Stop.BytesEq
import Derived.TacticsInMore
import Derived.WalkKit
import Derived.WalkLawsBesides
import Derived.WalkSpells
import Derived.Lib.ByteType
namespace Go.Proofs.YtoljoigbepdeiaaGreatDoor
open Go Go.RowKit Go.Shelf
attribute [local go_sem] Oper.semAt_some

/-- All blocks but pb are as they were; pb holds the cells cs. -/
structure TgtAt (w : World) (pb : Nat) (t : TypeId) (cs : Array Value) (W : World) : Prop where
  os : W.os = w.os
  tape : W.tape = w.tape
  output : W.output = w.output
  size : w.heap.size ≤ W.heap.size
  block : ∀ k, k < w.heap.size → k ≠ pb → W.heap[k]? = w.heap[k]?
  tgt : W.heap[pb]? = some (.cells cs t (0, 0))
  lt : pb < w.heap.size
theorem TgtAt.grow {w W W' : World} {pb : Nat} {t : TypeId} {cs : Array Value} (h : TgtAt w pb t cs W) (hb : Below W.heap.size W W') : TgtAt w pb t cs W' :=
  ⟨hb.os.trans h.os, hb.tape.trans h.tape, hb.output.trans h.output, Nat.le_trans h.size hb.size, fun k hk hp => (hb.block k (Nat.lt_of_lt_of_le hk h.size)).trans (h.block k hk hp), (hb.block pb (Nat.lt_of_lt_of_le h.lt h.size)).trans h.tgt, h.lt⟩
theorem TgtAt.put {w W : World} {pb : Nat} {t : TypeId} {cs : Array Value} (h : TgtAt w pb t cs W) (o : Nat) (v : Value) : TgtAt w pb t (cs.setIfInBounds o v) (W.setCell ⟨pb, o, none⟩ v) :=
  ⟨h.os, h.tape, h.output, by simpa [World.setCell] using h.size, fun k hk hp => (heap_setCell_other W _ k v hp).trans (h.block k hk hp), heap_setCell_same W pb o _ _ _ h.tgt, h.lt⟩
theorem TgtAt.drew {w W : World} {pb : Nat} {t : TypeId} {cs : Array Value} (h : TgtAt w pb t cs W) : TgtAt w pb t cs W.drew := ⟨h.os, h.tape, h.output, h.size, h.block, h.tgt, h.lt⟩
theorem TgtAt.cell {w W : World} {pb : Nat} {t : TypeId} {cs : Array Value} (h : TgtAt w pb t cs W) (i : Nat) : W.cell? ⟨pb, i, none⟩ = cs[i]? := cell_of_row W pb i _ _ _ h.tgt
theorem TgtAt.froz {w W : World} {pb : Nat} {t : TypeId} {cs : Array Value} (h : TgtAt w pb t cs W) (i : Nat) : W.frozen? ⟨pb, i, none⟩ = false := frozen_of_row W pb i _ _ h.tgt
theorem tgt_own {β : Type} {w : World} {pb B : Nat} {t : TypeId} (f : β → Array Value) (hB : w.heap.size ≤ B) : OwnFrom B (fun s W => TgtAt w pb t (f s) W) :=
  fun s W W' row hs hg hr => ⟨hg.os.trans hs.os, hg.tape.trans hs.tape, hg.output.trans hs.output, Nat.le_trans hs.size hg.size,
    fun k hk hp => (hg.block k (Nat.lt_of_lt_of_le hk hs.size) (fun e => by have := (hr k e.symm).1; omega)).trans (hs.block k hk hp),
    (hg.block pb (Nat.lt_of_lt_of_le hs.lt hs.size) (fun e => by have := (hr pb e.symm).1; have := hs.lt; omega)).trans hs.tgt, hs.lt⟩
/-- The reader and one block have changed. -/
structure TPut (w : World) (rb pb : Nat) (t : TypeId) (cs : Array Value) (w' : World) : Prop where
  os : w'.os = w.os
  tape : w'.tape = w.tape
  output : w'.output = w.output
  size : w.heap.size ≤ w'.heap.size
  block : ∀ k, k < w.heap.size → k ≠ pb → k ≠ rb → w'.heap[k]? = w.heap[k]?
  tgt : w'.heap[pb]? = some (.cells cs t (0, 0))
theorem trn_body {w w2 W : World} {M pb po B : Nat} {t : TypeId} {cs : Array Value} {pre : List (Nat × UInt8)} {xi : Nat} {xc : UInt8} {v u : Int} (hMp : M ≤ pb) (hpb : pb < w.heap.size) (hw2 : w.heap.size < w2.heap.size)
    (hbx : Boxed W w.heap.size 87 (.pointer (some ⟨pb, po, none⟩))) (hB : TgtAt w2 pb t (cs.setIfInBounds po (I (unle pre))) W) (hu : unle pre = u) (hv : v = rstep u xc) :
    KeepsFrom B W (W.setCell ⟨pb, po, none⟩ (I v)).drew ∧ BK M w2.heap.size W (W.setCell ⟨pb, po, none⟩ (I v)).drew ∧ Boxed (W.setCell ⟨pb, po, none⟩ (I v)).drew w.heap.size 87 (.pointer (some ⟨pb, po, none⟩)) ∧ TgtAt w2 pb t (cs.setIfInBounds po (I (unle (pre ++ [(xi, xc)])))) (W.setCell ⟨pb, po, none⟩ (I v)).drew := by
  have hk : KeepsOthers W (W.setCell ⟨pb, po, none⟩ (I v)) := KeepsOthers.setCell _ _ _
  have hk2 : KeepsOthers W (W.setCell ⟨pb, po, none⟩ (I v)).drew := ⟨hk.size, hk.same⟩
  refine ⟨hk2.from _, ⟨((Below.refl M W).setCell (p := ⟨pb, po, none⟩) hMp _).drew, ?_⟩, ?_, ?_⟩
  · exact World.cell?_of_block (a := ⟨w2.heap.size, 0, none⟩) (heap_setCell_other W _ _ _ (by show w2.heap.size ≠ pb; omega))
  · exact (heap_setCell_other W _ _ _ (by show w.heap.size ≠ pb; omega)).trans hbx
  · have h := hB.put po (I v)
    rw [Array.setIfInBounds_setIfInBounds] at h
    rw [unle_snoc, hu, ← hv]
    exact h.drew
def TNum (M : Nat) (w : World) (rb pb po : Nat) (t : TypeId) (cs : Array Value) (rest : List UInt8) (size : Nat) (e : Ending) (w' : World) : Prop :=
  e = .returned (.tuple #[]) ∧ TRd M w' rb (rest.drop size) ∧ TPut w rb pb t (cs.setIfInBounds po (I (rdN rest false size))) w'
set_option maxRecDepth 100000 in
set_option maxHeartbeats 2000000 in
theorem trnumber_any (M : Nat) (w : World) (rb pb po size : Nat) (t : TypeId) (cs : Array Value) (rest : List UInt8) (hr : TRd M w rb rest) (h8 : size ≤ 8) (hn : size ≤ rest.length) (hp : w.heap[pb]? = some (.cells cs t (0, 0))) (hpo : po < cs.size) (hMp : M ≤ pb) (hne : pb ≠ rb) :
    Calls Tryz.prog 196 #[pt rb, .pointer (some ⟨pb, po, none⟩), I size] w (TNum M w rb pb po t cs rest size) := by
  refine (callsIn_wide (n := 3)).1 ?_
  have hro : Fence.wide.round = none := rfl
  have h1 : 1 ≤ 3 := by omega
  have hlt := hr.lt
  have hpl : pb < w.heap.size := (Array.getElem?_eq_some_iff.1 hp).1
  have hMl := hr.lo
  have hc0 : w.cell? ⟨pb, po, none⟩ = some cs[po] := by rw [cell_of_row w pb po _ _ _ hp]; exact Array.getElem?_eq_getElem hpo
  have hf0 : w.frozen? ⟨pb, po, none⟩ = false := frozen_of_row w pb po _ _ hp
  obtain ⟨WS, hWS⟩ : ∃ W, w.setCell ⟨pb, po, none⟩ (I 0) = W := ⟨_, rfl⟩
  have hsS : WS.heap.size = w.heap.size := by rw [← hWS]; simp [World.setCell]
  have hTS : TgtAt w pb t (cs.setIfInBounds po (I 0)) WS := by
    rw [← hWS]
    exact ⟨rfl, rfl, rfl, by simp [World.setCell], fun k _ hk2 => heap_setCell_other _ _ k _ hk2, heap_setCell_same _ pb po _ _ _ hp, hpl⟩
  obtain ⟨W1, hW1⟩ : ∃ W, WS.alloc (.cells #[.pointer (some ⟨pb, po, none⟩)] 87) = W := ⟨_, rfl⟩
  have hs1 : W1.heap.size = w.heap.size + 1 := by rw [← hW1]; simp [hsS]
  have hT1 : TgtAt w pb t (cs.setIfInBounds po (I 0)) W1 := by rw [← hW1]; exact hTS.grow (below_var WS _)
  have hbox1 : Boxed W1 w.heap.size 87 (.pointer (some ⟨pb, po, none⟩)) := by
    rw [← hW1, ← hsS]
    exact Boxed.new WS 87 (.pointer (some ⟨pb, po, none⟩))
  rw [← hWS] at hW1
  have hr1 : TRd M W1 rb rest := hr.of (hT1.block rb hlt (fun e => hne e.symm)) fun k hk => hT1.block k (by omega) (by omega)
  have HT0 := ttake_some M W1 rb size rest hr1 hn
  obtain ⟨bs, hbs⟩ : ∃ bs, rest.take size = bs := ⟨_, rfl⟩
  have hbl : bs.length = size := by rw [← hbs, List.length_take]; omega
  unfold GotT at HT0
  rw [hbs] at HT0
  have hrd : rdN rest false size = unle (upto (bk bs) bs.length) := by
    have e1 : tkB rest false size = false := by unfold tkB; simp; omega
    unfold rdN tk
    rw [e1]
    simp only [Bool.false_eq_true, if_false, hbs]
  have HL := Lib.hid hbl
  have HRD := Lib.hid hrd
  have HT := Lib.hid HT0
  have HT1 := Lib.hid hT1
  have HBOX := Lib.hid hbox1
  have HW1 := Lib.hid hW1
  have HP := Lib.hid hp
  clear hr hr1 HT0 hbs hbl hrd hT1 hbox1 hW1 hWS hsS hTS hp
  refine callsIn_of_wp_marks Tryz.func196 rfl trivial ?_ hro
  simp only [Tryz.ntmps196, List.size_toArray, List.length_cons, List.length_nil, Nat.reduceAdd, Nat.reduceSub, Array.replicate_succ, Array.replicate_zero, List.push_toArray, List.append_toArray, List.nil_append, List.cons_append]
  gi_wp2_with first
    | (refine ⟨trivial, ?_⟩; gi_at_call 199; rw [HW1.out]; refine (callsIn_wide.2 HT.out).mono ?_; rintro e w2 ⟨bb, off, c, rfl, hcl, hcc, hbM, hby, hrs, hk⟩; have HBY := Lib.hid hby; have HRS := Lib.hid hrs; have HK := Lib.hid hk; clear hby hrs hk)
    | (refine ⟨trivial, ?_⟩; gi_at_call 61; refine (back_in Fence.wide 2 trivial hro _ _ _ _).mono ?_; rintro e w' ⟨rfl, rfl⟩)
  have hsk := HK.out.size
  have hT2 : TgtAt w2 pb t (cs.setIfInBounds po (I 0)) w2 := ⟨rfl, rfl, rfl, Nat.le_refl _, fun _ _ _ => rfl, (HK.out.block pb (by omega) hne).trans HT1.out.tgt, by omega⟩
  have hbox2 : Boxed w2 w.heap.size 87 (.pointer (some ⟨pb, po, none⟩)) := (HK.out.block w.heap.size (by omega) (by omega)).trans HBOX.out
  have hB1 : Below w.heap.size w2 (w2.alloc (.cells #[.slice (some ⟨bb, off, none⟩) size c] 24)) := ((Below.refl _ w2).alloc (Nat.le_refl _) _).mono (by omega)
  have hby1 : BytesAt (w2.alloc (.cells #[.slice (some ⟨bb, off, none⟩) size c] 24)) M (some ⟨bb, off, none⟩) bs := .inr ⟨bb, off, rfl, hbM, fun j hj => (hB1.cell (p := ⟨bb, off + j, none⟩) (by show bb < w.heap.size; omega)).trans (HBY.out j (by have := HL.out; omega))⟩
  have bN := Boxed.new w2 24 (.slice (some ⟨bb, off, none⟩) size c)
  have hcl2 : (w2.alloc (.cells #[.slice (some ⟨bb, off, none⟩) size c] 24)).cell? ⟨w2.heap.size, 0, none⟩ = some (.slice (some ⟨bb, off, none⟩) size c) := bN.cell
  have hst := back_stops Fence.wide (3 - 1) trivial hro (by omega) w2.heap.size M (some ⟨bb, off, none⟩) c bs (by have := HL.out; omega) (w2.alloc (.cells #[.slice (some ⟨bb, off, none⟩) size c] 24)) (by simp) (by simp; omega) (by rw [HL.out]; exact hcl2) hby1
  have hI0 : TgtAt w2 pb t (cs.setIfInBounds po (I 0)) (w2.alloc (.cells #[.slice (some ⟨bb, off, none⟩) size c] 24)) := hT2.grow (below_var w2 _)
  refine wpIn_rangeFunc_ownG hro h1 (gf := 86) (lb := #[.pointer (some ⟨w2.heap.size, 0, none⟩)]) rfl trivial (enters_of Tryz.func86 (by kernel_rfl) rfl)
    hst (fun h k => h.trans k) (bk_b (by simp; omega) (by simp)) (Below.refl _ _) (fun _ => rfl)
    (fun pre W => Boxed W w.heap.size 87 (.pointer (some ⟨pb, po, none⟩)) ∧ TgtAt w2 pb t (cs.setIfInBounds po (I (unle pre))) W)
    (fun _ _ _ => False)
    (OwnFrom.and (Own.from (boxed_own _ _ _) _) (tgt_own _ (by simp)))
    (fun _ _ _ _ _ hs _ _ => hs)
    ⟨hbox2.alloc _, hI0⟩
    (fun x => { tmps := #[pt rb, .pointer (some ⟨pb, po, none⟩), I size, undef, .pointer (some ⟨w.heap.size, 0, none⟩), undef, undef, Extern.Stop.cell x.2, .pointer (some ⟨pb, po, none⟩), .pointer (some ⟨pb, po, none⟩), pt rb, I size, .slice (some ⟨bb, off, none⟩) size c, .func (.func 86) #[] #[.pointer (some ⟨w2.heap.size, 0, none⟩)], .int .i64 (x.1 : Int), Extern.Stop.cell x.2, undef, undef, undef, undef, undef, undef, undef, undef, undef], defers := [] }) ?assign ?body ?done ?stop
  case assign =>
    intro l x W K hK
    gi_wp2
    exact hK
  case body =>
    rintro l pre ⟨xi, xc⟩ W ⟨hbx, hB⟩ _
    have hc := hbx.cell
    have hx1 : (xc.toNat : Int) < 256 := by have := xc.toNat_lt; omega
    have hx2 : (0 : Int) ≤ xc.toNat := by omega
    simp only [Extern.Stop.cell]
    have hcp : W.cell? ⟨pb, po, none⟩ = some (I (unle pre)) := (hB.cell po).trans (by simp [hpo])
    have hfp := hB.froz po
    have HBX := Lib.hid hbx
    have HBB := Lib.hid hB
    have hwl : w.heap.size < w2.heap.size := by omega
    obtain ⟨u, hu⟩ : ∃ u, unle pre = u := ⟨_, rfl⟩
    rw [hu] at hcp
    have HU := Lib.hid hu
    have HV : Hid (bits BinOp.or IntKind.i64 (IntKind.i64.wrap (u * 256)) xc.toNat = rstep u xc) := Lib.hid (by unfold rstep; rw [show IntKind.i64.wrap (u * 256) = wrap64 (u * 256) from by rw [IntKind.wrap_i64]; unfold wrap64; omega])
    have hxw : IntKind.i64.wrap (xc.toNat : Int) = (xc.toNat : Int) := by rw [IntKind.wrap_i64]; omega
    clear hbx hB hT2 hbox2 hB1 hby1 bN hcl2 hst hI0 hc0 hf0 hu HBY HRS HT HT1 HBOX HW1 HP HRD HL
    gi_wp2
    gi_region
    all_goals exact trn_body hMp hpl hwl HBX.out HBB.out HU.out HV.out
  case done =>
    rintro D ys W hD rfl ⟨hbx, hB⟩ hK
    have hc := hbx.cell
    gi_wp2
    refine ⟨by simp, .inl ⟨_, _, rfl, run_takeDeferred hK, ?_⟩⟩
    refine ⟨.tuple #[], by simp [results, Tryz.results196], ?_⟩
    have hD2 : w2.heap.size + 1 ≤ D := by simpa using hD
    have hpo : ∀ k, k < w2.heap.size → (W.putObj D (.deferred none)).heap[k]? = W.heap[k]? := fun k hk => World.putObj_heap_other (by omega)
    refine ⟨rfl, HRS.out.of ((hpo rb (by omega)).trans (hB.block rb (by omega) (fun e => hne e.symm))) (fun k hk => (hpo k (by omega)).trans (hB.block k (by omega) (by omega))), ?_⟩
    rw [HRD.out]
    have hT1 := HT1.out
    refine ⟨hB.os.trans (HK.out.os.trans hT1.os), hB.tape.trans (HK.out.tape.trans hT1.tape), hB.output.trans (HK.out.output.trans hT1.output), ?_, fun k hk h2 h3 => ?_, ?_⟩
    · have h1 := hB.size
      simp only [World.putObj, Array.size_setIfInBounds]
      omega
    · exact (hpo k (by omega)).trans ((hB.block k (by omega) h2).trans ((HK.out.block k (by omega) h3).trans (hT1.block k hk h2)))
    · refine (hpo pb (by omega)).trans ?_
      exact hB.tgt
  case stop =>
    rintro D c pre W _ _ h _
    exact h.elim
end Go.Proofs.YtoljoigbepdeiaaGreatDoor
