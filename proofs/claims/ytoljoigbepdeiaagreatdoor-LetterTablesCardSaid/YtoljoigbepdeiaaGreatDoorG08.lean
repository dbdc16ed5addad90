/- The texts DgK, DgB2, DgK2, DgM, TrT, in this order. -/
import Derived.Test.YtoljoigbepdeiaaGreatDoorG07
import Derived.BigQuiet
import Derived.Deep.AppendLies
import Derived.Deep.CutBlock
import Derived.Deep.DeepCutAuto
import Derived.Deep.DrawnRows
import Derived.Deep.MidRow
import Derived.Deep.QuietTactic
import Derived.Deep.RegionHeld3
import Derived.Deep.RegionLaw
import Derived.Deep.WholeRow
import Derived.Defers
import Derived.Great.BuildSlice
import Derived.Laws.AppendOwnNone
import Derived.Laws.BitsAllLaws
import Derived.Laws.BytesArg
import Derived.Laws.BytesString
import Derived.Laws.CopyOwn
import Derived.Laws.Cover3
import Derived.Laws.EntriesVeiled
import Derived.Laws.MakeOwn
import Derived.Laws.ResultCell
import Derived.Laws.Rows
import Derived.Laws.Tables
import Derived.Lib.AppendStr
import Derived.Lib.ByteType
import Derived.Lib.Hide
import Derived.LoopIn
import Derived.LoopNIn
import Derived.MapKept
import Derived.Maps.AppendAt
import Derived.Outline
import Derived.OwnWalkIn
import Derived.RangeFuncBound
import Derived.RangeFuncBox
import Derived.RangeFuncCalls
import Derived.RangeFuncLeaves
import Derived.RangeFuncNested
import Derived.Recover
import Derived.Shelf.Abstract
import Derived.Shelf.Bytes.SlSmallAll
import Derived.Shelf.RegionOpen
import Derived.StillTailTactics
import Derived.Stop.BytesEq
import Derived.TacticsInMore
import Derived.WalkKit
import Derived.WalkLawsBesides
import Derived.WalkSpells
import Derived.Test.YtoljoigbepdeiaaGreatDoorG03
import Derived.Test.YtoljoigbepdeiaaGreatDoorG06
/- kalends/digest.hash of one part. -/
namespace Go.Proofs.YtoljoigbepdeiaaGreatDoor
open Go Go.RowKit Go.Shelf
attribute [local go_sem] Oper.semAt_some

/-- The state under way. -/
structure HashS (w : World) (KR : List Int) (l : List (List UInt8)) (W : World) : Prop where
  res : AV w.heap.size 23 (cellsB z32) W
  st : AV (w.heap.size + 1) 147 (cellsU (foldS KR shaIV l)) W
  lo : Below w.heap.size w W
theorem HashS.grow {w W W' : World} {KR : List Int} {l : List (List UInt8)} (h : HashS w KR l W) (hb : Below (w.heap.size + 3) W W') : HashS w KR l W' :=
  ⟨⟨(hb.block _ (by omega)).trans h.res.var⟩, ⟨(hb.block _ (by omega)).trans h.st.var⟩, h.lo.trans (hb.mono (by omega))⟩
theorem hash_start {w w3 : World} {KR : List Int} {B : Obj} {v : Value} {t : TypeId} (hB : ∃ cs, B = .cells cs 147 (0, 0)) (h : w3 = (((w.alloc (.cells (cellsB z32) 23)).alloc B).setRow (w.heap.size + 1) (cellsU shaIV)).alloc (.cells #[v] t)) :
    HashS w KR [] w3 ∧ w3.heap.size = w.heap.size + 3 ∧ w3.cell? ⟨w.heap.size + 2, 0, none⟩ = some v := by
  obtain ⟨cs, rfl⟩ := hB
  obtain ⟨W2, hW2⟩ : ∃ W, ((w.alloc (.cells (cellsB z32) 23)).alloc (.cells cs 147 (0, 0))).setRow (w.heap.size + 1) (cellsU shaIV) = W := ⟨_, rfl⟩
  have hs2 : W2.heap.size = w.heap.size + 2 := by rw [← hW2]; simp
  have h0 : W2.heap[w.heap.size]? = some (.cells (cellsB z32) 23 (0, 0)) := by rw [← hW2, setRow_other _ _ _ _ (by omega)]; exact heap_alloc2_old w _ _
  have h1 : W2.heap[w.heap.size + 1]? = some (.cells (cellsU shaIV) 147 (0, 0)) := by rw [← hW2]; exact setRow_heap _ _ _ _ _ _ (heap_alloc2_new w _ _)
  have hb : Below w.heap.size w W2 := by rw [← hW2]; exact below_setRow' (((Below.refl _ w).alloc (Nat.le_refl _) _).alloc (by simp) _) (Nat.le_succ _) _
  rw [hW2] at h
  subst h
  have hb2 := below_var W2 (.cells #[v] t)
  refine ⟨⟨⟨(hb2.block _ (by omega)).trans h0⟩, ⟨(hb2.block _ (by omega)).trans h1⟩, hb.trans (hb2.mono (by omega))⟩, by simp; omega, ?_⟩
  rw [← hs2]
  exact cell_of_row _ _ 0 _ _ _ (heap_alloc_last W2 _)
def slEl (x : El) : Value := .slice (some ⟨x.b, x.off, none⟩) 64 x.cap
theorem ElAt.put {x : El} {A : World} {l : Nat} {o o' : Obj} (h : ElAt x A) (ho : A.heap[l]? = some o) (hc : o.isCells = false) : ElAt x (A.putObj l o') := by
  have hne : x.b ≠ l := fun e => by
    have h1 := h.at_ 0 (by omega)
    subst e
    cases o with
    | cells cs t fr => cases hc
    | _ => simp [World.cell?, ho] at h1
  exact ⟨by simp [World.putObj]; exact h.lt, h.len, fun j hj => (World.cell?_of_block (a := ⟨x.b, x.off + j, none⟩) (World.putObj_heap_other hne)).trans (h.at_ j hj)⟩
set_option maxRecDepth 100000 in
set_option maxHeartbeats 2000000 in
theorem hash_any (KR : List Int) (hK : KR.length = 64) (w : World) (hG : RowU w 0 (cellsU KR)) (bs : List UInt8) (hb0 : 0 < bs.length) (hlen : bs.length ≤ 1000000000) (pb ab off c : Nat) (hp : w.cell? ⟨pb, 0, none⟩ = some (.slice (some ⟨ab, off, none⟩) bs.length c)) (hlp : pb < w.heap.size) (hla : ab < w.heap.size)
    (hby : ∀ j, j < bs.length → w.cell? ⟨ab, off + j, none⟩ = some (Extern.Stop.cell (bs[j]?.getD 0))) :
    Calls Tryz.prog 42 #[.slice (some ⟨pb, 0, none⟩) 1 1] w fun e w' => e = .returned (.agg (cellsB (digF KR bs))) ∧ Below w.heap.size w w' := by
  refine (callsIn_wide (n := 3)).1 ?_
  have hro : Fence.wide.round = none := rfl
  have h1 : 1 ≤ 3 := by omega
  have HK := Lib.hid hK
  have HG := Lib.hid hG
  have HBY := Lib.hid hby
  have HP := Lib.hid hp
  clear hK hG hby hp
  refine callsIn_of_wp_marks Tryz.func42 rfl trivial ?_ hro
  simp only [Tryz.ntmps42, List.size_toArray, List.length_cons, List.length_nil, Nat.reduceAdd, Nat.reduceSub, Array.replicate_succ, Array.replicate_zero, List.push_toArray, List.append_toArray, List.nil_append, List.cons_append]
  gi_wp2_with (first
    | (refine wpListIn_alloc_nm rfl _ rfl (cellsB z32) zero32_info ?_)
    | (refine wpListIn_alloc_nm rfl _ rfl (cellsU (List.replicate 8 0)) zero8_info ?_; refine wpListIn_store_nm rfl 147 _ _ rfl (w.alloc (.cells (cellsB z32) 23)).heap.size (cellsU shaIV) rfl rfl 147 (cellsU (List.replicate 8 0)) (heap_alloc_last _ _) (by kernel_rfl) rfl (cellsU_one _) ?_)
    | (refine ⟨trivial, ?_⟩; gi_at_call 65; refine (blocks_any _ _ _ _).mono ?_; rintro e w3 ⟨rfl, hw3⟩; obtain ⟨hs3, hz3, hbx3⟩ := hash_start (KR := KR) ⟨_, rfl⟩ hw3; have HS3 := Lib.hid hs3; have HX3 := Lib.hid hbx3; have HZ3 := Lib.hid hz3; clear hw3 hs3 hbx3 hz3))
  have hseq : ∀ W, Below w3.heap.size w3 W → SeqTells Fence.wide (3 - 1) Tryz.prog 96 #[.pointer (some ⟨w.heap.size + 1 + 1, 0, none⟩)] encEl ElAt (fun xs => xs.map (·.bs) = upto (chunk (padB bs)) ((padB bs).length / 64)) W := fun W hW => by
    have hz := HZ3.out
    have hsz := hW.size
    have hlo := HS3.out.lo
    exact blocks_tells Fence.wide 2 trivial rfl (by omega) bs hb0 hlen W (w.heap.size + 1 + 1) pb ab off c ((hW.cell (p := ⟨w.heap.size + 2, 0, none⟩) (by show w.heap.size + 2 < w3.heap.size; omega)).trans HX3.out)
      (((hW.mono (by omega)).cell (p := ⟨pb, 0, none⟩) hlp).trans ((hlo.cell (p := ⟨pb, 0, none⟩) hlp).trans HP.out)) (by omega) (by omega) (by omega) (fun j hj => ((hW.mono (by omega)).cell (p := ⟨ab, off + j, none⟩) hla).trans ((hlo.cell (p := ⟨ab, off + j, none⟩) hla).trans (HBY.out j hj)))
  have HSEQ := Lib.hid hseq
  clear hseq
  refine wpIn_range_tells hro h1 (gf := 96) (lb := #[.pointer (some ⟨w.heap.size + 1 + 1, 0, none⟩)]) rfl trivial (enters_of Tryz.func96 (by kernel_rfl) rfl) HSEQ.out (fun _ => rfl)
    (fun (xs : List El) W => HashS w KR (xs.map (fun x : El => x.bs)) W) (fun xs A B h hb => h.grow (hb.mono (by rw [HZ3.out]; exact Nat.le_refl _))) HS3.out
    (fun x => { tmps := #[.slice (some ⟨pb, 0, none⟩) 1 1, undef, .pointer (some ⟨w.heap.size, 0, none⟩), .pointer (some ⟨w.heap.size + 1, 0, none⟩), slEl x, undef, undef, .agg (cellsU shaIV), .slice (some ⟨pb, 0, none⟩) 1 1, .func (.func 96) #[] #[.pointer (some ⟨w.heap.size + 1 + 1, 0, none⟩)], slEl x, undef, undef, undef, undef, undef, undef, undef, undef, undef, undef, undef, undef, undef, undef, undef, undef, undef, undef, undef], defers := [] })
    (fun x A l o o' h1 h2 h3 => h1.put h2 h3) ?assign ?body ?done
  case assign =>
    intro l x W K hK
    unfold encEl
    gi_wp2
    exact hK
  case body =>
    intro l pre x W hI hsz hx
    have hGW : RowU W 0 (cellsU KR) := ⟨Nat.lt_of_lt_of_le HG.out.1 hI.lo.size, fun i => (hI.lo.cell (p := ⟨0, i, none⟩) HG.out.1).trans (HG.out.2 i)⟩
    have HC : Hid (Calls Tryz.prog 66 #[.pointer (some ⟨w.heap.size + 1, 0, none⟩), slEl x] W fun e w' => e = .returned (.tuple #[]) ∧ AV (w.heap.size + 1) 147 (cellsU (addF KR (foldS KR shaIV (pre.map (fun x : El => x.bs))) x.bs)) w' ∧ SKeep (w.heap.size + 1) W w') :=
      Lib.hid (add_any KR HK.out W hGW (w.heap.size + 1) x.b x.off x.cap (foldS KR shaIV (pre.map (fun x : El => x.bs))) x.bs (foldS_length _ _ _ rfl) hI.st hx.len hx.lt hx.at_)
    have HI := Lib.hid hI
    clear hGW hI hx
    gi_wp2_with (refine ⟨trivial, ?_⟩; gi_at_call 66; refine (CallsIn.inRound l (callsIn_wide.2 HC.out)).mono ?_; rintro e W2 ⟨rfl, hav, hkp⟩)
    have hl := HI.out.lo
    have hz3 := HZ3.out
    refine ⟨⟨⟨(hkp.block _ (by have := hl.size; omega) (by omega)).trans HI.out.res.var⟩, ?_, ⟨hkp.os.trans hl.os, hkp.tape.trans hl.tape, hkp.output.trans hl.output, Nat.le_trans hl.size hkp.size, fun k hk => (hkp.block k (by have := hl.size; omega) (by omega)).trans (hl.block k hk)⟩⟩, ⟨hkp.size, fun k h1 h2 => hkp.block k h2 (by omega)⟩⟩
    rw [foldS_snoc]
    exact hav
  case done =>
    intro D xs W hD hS hI hD0
    rw [hS] at hI
    obtain ⟨st, hst⟩ : ∃ st, foldS KR shaIV (upto (chunk (padB bs)) ((padB bs).length / 64)) = st := ⟨_, rfl⟩
    have hsl : st.length = 8 := by rw [← hst]; exact foldS_length _ _ _ rfl
    have hI2 : AV (w.heap.size + 1) 147 (cellsU st) W := by rw [← hst]; exact hI.st
    have HI := Lib.hid hI
    have HI2 := Lib.hid hI2
    have HD0 := Lib.hid hD0
    have HST := Lib.hid hst
    have HSL := Lib.hid hsl
    clear hI hI2 hD0 hst hsl hS
    have HA0 := Lib.hid (AV.new W (cellsB (outTo st 0)) 23)
    have HB0 := Lib.hid (below_var W (.cells (cellsB (outTo st 0)) 23))
    have hstl := HI2.out.lt
    have hdl : D < W.heap.size := (Array.getElem?_eq_some_iff.1 HD0.out).1
    gi_wp2_with (refine wpListIn_alloc_nm rfl _ rfl (cellsB z32) zero32_info ?_)
    gi_loopw [13] (fun i wx => ∃ k : Nat, k ≤ 32 ∧ i = .int .i64 (k : Int) ∧ AV W.heap.size 23 (cellsB (outTo st k)) wx ∧ Below W.heap.size W wx) (fun i _ => 32 - (intOf i).toNat)
    case atStart => exact ⟨0, Nat.zero_le _, rfl, HA0.out, HB0.out⟩
    case round =>
      obtain ⟨k, hk, rfl, hd, hb⟩ := hrel
      have HDV := Lib.hid hd
      have HBL := Lib.hid hb
      have HOL := Lib.hid (outTo_length st k)
      clear hd hb HA0 HB0
      by_cases hlt : k < 32
      · have i1 : (k : Int) < 32 := by omega
        obtain ⟨q4, hq4⟩ : ∃ q : Nat, k / 4 = q := ⟨_, rfl⟩
        obtain ⟨r4, hr4⟩ : ∃ q : Nat, k % 4 = q := ⟨_, rfl⟩
        obtain ⟨s4, hs4⟩ : ∃ q : Nat, 24 - 8 * r4 = q := ⟨_, rfl⟩
        obtain ⟨v, hv⟩ : ∃ v, st[q4]?.getD 0 = v := ⟨_, rfl⟩
        have cs : wr.cell? ⟨w.heap.size + 1, q4, none⟩ = some (.int .u32 v) := ((HBL.out.cell (p := ⟨w.heap.size + 1, q4, none⟩) hstl).trans (HI2.out.cell q4)).trans (by rw [cellsU_get _ _ (by rw [HSL.out]; omega), hv])
        have cd : wr.cell? ⟨W.heap.size, k, none⟩ = some (Extern.Stop.cell ((outTo st k)[k]?.getD 0)) := (HDV.out.cell k).trans (cellsB_get _ _ (by rw [HOL.out]; exact hlt))
        have cf := HDV.out.froz k
        obtain ⟨y, hy⟩ : ∃ y, v / 2 ^ s4 = y := ⟨_, rfl⟩
        have g4 : (k : Int) / 4 = (q4 : Int) := by omega
        have g5 : (k : Int) % 4 = (r4 : Int) := by omega
        have g6 : 24 - 8 * (r4 : Int) = (s4 : Int) := by omega
        have b4 : (q4 : Int) < 8 := by omega
        have b5 : (r4 : Int) < 4 := by omega
        have b6 : (s4 : Int) ≤ 24 := by omega
        have hw8 : IntKind.u8.wrap y = y % 256 := by rw [IntKind.wrap_u8]
        have HN : Hid (AV W.heap.size 23 (cellsB (outTo st (k + 1))) (wr.setCell ⟨W.heap.size, k, none⟩ (.int .u8 (y % 256)))) := Lib.hid (by
          have h := HDV.out.put k (Extern.Stop.cell (byteOf y))
          rw [cellsB_set, byteOf_cell] at h
          have e : outTo st (k + 1) = (outTo st k).set k (byteOf y) := by
            show (outTo st k).set k (byteOf ((st[k / 4]?.getD 0) / 2 ^ (24 - 8 * (k % 4)))) = _
            rw [hq4, hr4, hs4, hv, hy]
          rw [e]
          exact h)
        clear hq4 hr4 hs4 hv
        gi_wp2_with fail
        go_roundw
        case rel => exact ⟨k + 1, by omega, by go_num, HN.out, HBL.out.setCell (p := ⟨W.heap.size, k, none⟩) (Nat.le_refl _) _⟩
        case measure => simp [intOf]; omega
      · have HKE : Hid (k = 32) := Lib.hid (by omega)
        have i1 : ¬ (k : Int) < 32 := by omega
        have i2 : ((k : Int) < 32) = False := by simp; omega
        have HRW : Hid (RowU wr W.heap.size (cellsB (outTo st k))) := Lib.hid ⟨HDV.out.lt, HDV.out.cell⟩
        have HSZ : Hid ((Tryz.prog.info? 23).map (·.size) = some (cellsB (outTo st k)).size) := Lib.hid (by rw [cellsB_size, HOL.out]; kernel_rfl)
        have HSO : Hid ((cellsB z32).size = (cellsB (outTo st k)).size) := Lib.hid (by rw [cellsB_size, cellsB_size, HOL.out]; rfl)
        have HRS : Hid (wr.heap[w.heap.size]? = some (.cells (cellsB z32) 23 (0, 0))) := Lib.hid ((HBL.out.block _ (by omega)).trans HI.out.res.var)
        have HDD : Hid ((wr.setRow w.heap.size (cellsB (outTo st k))).heap[D]? = some (.deferred (some []))) := Lib.hid ((setRow_other _ _ _ _ (by have := HZ3.out; omega)).trans ((HBL.out.block _ hdl).trans HD0.out))
        clear hlt
        gi_wp2_with (first
          | (refine wpListIn_load_nm rfl _ _ rfl W.heap.size rfl (cellsB (outTo st k)) HRW.out _ Tryz.underlying23 rfl HSZ.out ?_; refine wpListIn_store_nm rfl _ _ _ rfl w.heap.size (cellsB (outTo st k)) rfl rfl 23 (cellsB z32) HRS.out HSZ.out HSO.out (cellsB_one _) ?_))
        have hz3 := HZ3.out
        have hlo := HI.out.lo
        refine ⟨by simp, .inl ⟨_, _, rfl, run_takeDeferred HDD.out, ?_⟩⟩
        refine ⟨_, results_cell_row rfl _ _ w.heap.size _ (cellsB (outTo st k)) (0, 0) _ rfl ((World.putObj_heap_other (by omega)).trans (setRow_heap _ _ _ _ _ _ HRS.out)) Tryz.underlying23 rfl HSZ.out, ?_⟩
        refine ⟨?_, (below_setRow' (hlo.trans (HBL.out.mono hlo.size)) (Nat.le_refl _) _).trans (below_put (by omega))⟩
        rw [HKE.out, ← HST.out]
        rfl
end Go.Proofs.YtoljoigbepdeiaaGreatDoor

/- kalends/digest.blocks of two parts: its contract as an iterator over the blocks of the padded bytes. -/
namespace Go.Proofs.YtoljoigbepdeiaaGreatDoor
open Go Go.RowKit Go.Shelf
attribute [local go_sem] Oper.semAt_some

theorem MsgS.cat {B n : Nat} {W0 wr w1 : World} {b1 b2 bs : List UInt8} {v v' : Value} (h : MsgS B W0 b1 v wr) (hcat : b1 ++ b2 = bs) (hB : B ≤ W0.heap.size) (hn : n = bs.length) (hown : w1.ownsRow B 5 1 v' n (b1.map Extern.Stop.cell ++ b2.map Extern.Stop.cell)) (hg : wr.grownBy w1 v.ownBlock) : MsgS B W0 bs v' w1 := by
  subst hn hcat
  have hs := h.lo.size
  have hz := hg.size
  rw [← List.map_append] at hown
  exact ⟨hown, ⟨hg.os.trans h.lo.os, hg.tape.trans h.lo.tape, hg.output.trans h.lo.output, by omega, fun k hk => by
    rw [hg.block k (by omega) (own_ge h.own k hk)]
    exact h.lo.block k hk⟩⟩
set_option maxRecDepth 100000 in
set_option maxHeartbeats 1000000 in
theorem blocks2_tells (F : Fence) (n : Nat) (h7 : F.fn 96) (hro : F.round = none) (hn : 1 ≤ n) (b1 b2 bs : List UInt8) (hcat : b1 ++ b2 = bs) (hb1 : 0 < b1.length) (hb2 : 0 < b2.length) (hlen : bs.length ≤ 1000000000) (W : World) (box pb a1 f1 c1 a2 f2 c2 : Nat) (hbox : W.cell? ⟨box, 0, none⟩ = some (.slice (some ⟨pb, 0, none⟩) 2 2)) (hp : W.cell? ⟨pb, 0, none⟩ = some (.slice (some ⟨a1, f1, none⟩) b1.length c1)) (hp2 : W.cell? ⟨pb, 1, none⟩ = some (.slice (some ⟨a2, f2, none⟩) b2.length c2))
    (hlb : box < W.heap.size) (hlp : pb < W.heap.size) (hla1 : a1 < W.heap.size) (hby1 : ∀ j, j < b1.length → W.cell? ⟨a1, f1 + j, none⟩ = some (Extern.Stop.cell (b1[j]?.getD 0))) (hla2 : a2 < W.heap.size) (hby2 : ∀ j, j < b2.length → W.cell? ⟨a2, f2 + j, none⟩ = some (Extern.Stop.cell (b2[j]?.getD 0))) :
    SeqTells F n Tryz.prog 96 #[.pointer (some ⟨box, 0, none⟩)] encEl ElAt (fun xs => xs.map (·.bs) = upto (chunk (padB bs)) ((padB bs).length / 64)) W := by
  intro l J hl hJ hY h0
  have HJ := Lib.hid hJ
  have HY := Lib.hid hY
  have HA1 := Lib.hid hby1
  have HA2 := Lib.hid hby2
  obtain ⟨N, hN⟩ : ∃ N, bs.length = N := ⟨_, rfl⟩
  obtain ⟨N1, hN1⟩ : ∃ N, b1.length = N := ⟨_, rfl⟩
  obtain ⟨N2, hN2⟩ : ∃ N, b2.length = N := ⟨_, rfl⟩
  have hNN : N1 + N2 = N := by rw [← hN, ← hN1, ← hN2, ← hcat, List.length_append]
  rw [hN] at hlen
  rw [hN1] at hp hb1
  rw [hN2] at hp2 hb2
  have HN := Lib.hid hN
  have HN1 := Lib.hid hN1
  have HN2 := Lib.hid hN2
  have HNN := Lib.hid hNN
  have HCAT := Lib.hid hcat
  have HP2 := Lib.hid hp2
  have q1 : N1 ≤ 1000000000 := by omega
  have q2 : N2 ≤ 1000000000 := by omega
  have hb0 : 0 < N := by omega
  clear hJ hY hby1 hby2 hN hN1 hN2 hNN hcat hp2
  refine callsIn_of_wp Tryz.func96 rfl h7 ?_ hro
  simp only [Tryz.ntmps96, List.size_toArray, List.length_cons, List.length_nil, Nat.reduceAdd, Nat.reduceSub, Array.replicate_succ, Array.replicate_zero, List.push_toArray, List.append_toArray, List.nil_append, List.cons_append]
  obtain ⟨i0, hi, hq0, hq1, hq2⟩ := info_parts info_u8
  gi_wp2
  gi_loopw [3, 10] (fun m i wr => (i = .int .i64 0 ∧ m = .slice none 0 0 ∧ wr = W) ∨ (∃ g cap, i = .int .i64 1 ∧ m = .slice (some ⟨g, 0, none⟩) N1 cap ∧ MsgS W.heap.size W b1 m wr) ∨ (∃ g cap, i = .int .i64 2 ∧ m = .slice (some ⟨g, 0, none⟩) N cap ∧ MsgS W.heap.size W bs m wr)) (fun _ i _ => (2 - intOf i).toNat)
  case atStart => exact .inl ⟨rfl, rfl, rfl⟩
  case round =>
    rcases hrel with h | h | h
    · obtain ⟨rfl, rfl, rfl⟩ := h
      have hne : ∀ j u, (b1.map Extern.Stop.cell)[j]? = some u → wr.cell? ((⟨a1, f1, none⟩ : Addr).add j) = some u := fun j u hu => by
        have hj : j < b1.length := by have := (List.getElem?_eq_some_iff.1 hu).1; simpa using this
        rw [Addr.add_mid, HA1.out j hj]
        rw [List.getElem?_map, List.getElem?_eq_getElem hj] at hu
        rw [List.getElem?_eq_getElem hj]
        simpa using hu
      have HNE := Lib.hid hne
      clear hne
      gi_wp2_with (gi_at_builtin; refine wpListIn_append_own _ rfl _ _ 24 rfl wr.heap.size 5 i0 (.int .u8 0) 1 1 Tryz.underlying24 hi hq0 hq1 hq2 rfl (by omega) _ _ _ rfl (World.ownsRow_nil _ _ _ _) ⟨a1, f1, none⟩ N1 c1 (b1.map Extern.Stop.cell) rfl (by rw [List.length_map, HN1.out, Nat.mul_one]) HNE.out (ref_one2 b1) (by unfold maxLen; omega) (by omega) (Nat.le_refl _) ?_; intro v1 w1 hown1 hg1 _; rw [Nat.zero_add, List.nil_append] at hown1; obtain ⟨gg, cap, rfl, _⟩ := own_form hown1 hb1; have HO1 := Lib.hid hown1; have HG1 := Lib.hid hg1; clear hown1 hg1)
      go_roundw
      case rel => exact .inr (.inl ⟨gg, cap, by go_num, rfl, ⟨by rw [HN1.out]; exact HO1.out, ⟨HG1.out.os, HG1.out.tape, HG1.out.output, HG1.out.size, fun k hk => HG1.out.block k hk (fun e => nomatch e)⟩⟩⟩)
      case measure => simp [intOf]
    · obtain ⟨g, cap, rfl, rfl, hm⟩ := h
      have HM := Lib.hid hm
      have HO : Hid (wr.ownsRow W.heap.size 5 1 (.slice (some ⟨g, 0, none⟩) N1 cap) N1 (b1.map Extern.Stop.cell)) := Lib.hid (by have h := hm.own; rw [HN1.out] at h; exact h)
      have hge := hm.lo.size
      have p2 : wr.cell? ⟨pb, 1, none⟩ = some (.slice (some ⟨a2, f2, none⟩) N2 c2) := (hm.lo.cell (p := ⟨pb, 1, none⟩) hlp).trans HP2.out
      have hne : ∀ j u, (b2.map Extern.Stop.cell)[j]? = some u → wr.cell? ((⟨a2, f2, none⟩ : Addr).add j) = some u := fun j u hu => by
        have hj : j < b2.length := by have := (List.getElem?_eq_some_iff.1 hu).1; simpa using this
        rw [Addr.add_mid, (hm.lo.cell (p := ⟨a2, f2 + j, none⟩) hla2), HA2.out j hj]
        rw [List.getElem?_map, List.getElem?_eq_getElem hj] at hu
        rw [List.getElem?_eq_getElem hj]
        simpa using hu
      have HNE := Lib.hid hne
      clear hne hm
      gi_wp2_with (gi_at_builtin; refine wpListIn_append_own _ rfl _ _ 24 rfl W.heap.size 5 i0 (.int .u8 0) 1 1 Tryz.underlying24 hi hq0 hq1 hq2 rfl (by omega) (.slice (some ⟨g, 0, none⟩) N1 cap) N1 (b1.map Extern.Stop.cell) rfl HO.out ⟨a2, f2, none⟩ N2 c2 (b2.map Extern.Stop.cell) rfl (by rw [List.length_map, HN2.out, Nat.mul_one]) HNE.out (ref_one2 b2) (by have := HNN.out; unfold maxLen; omega) (by have := HNN.out; omega) (by omega) ?_; intro v1 w1 hown1 hg1 _; have hm1 : MsgS W.heap.size W bs v1 w1 := HM.out.cat HCAT.out (Nat.le_refl _) (by rw [HN.out]; exact HNN.out) hown1 hg1; rw [HNN.out] at hown1; obtain ⟨gg, cap1, rfl, _⟩ := own_form hown1 hb0; have HM1 := Lib.hid hm1; clear hown1 hg1 hm1)
      go_roundw
      case rel => exact .inr (.inr ⟨gg, cap1, by go_num, rfl, HM1.out⟩)
      case measure => simp [intOf]
    · obtain ⟨g, cap, rfl, rfl, hm⟩ := h
      have HM := Lib.hid hm
      have HO : Hid (wr.ownsRow W.heap.size 5 1 (.slice (some ⟨g, 0, none⟩) N cap) N (bs.map Extern.Stop.cell)) := Lib.hid (by have h := hm.own; rw [HN.out] at h; exact h)
      have hge := hm.lo.size
      have HL1 : Hid (N + 1 = (bs ++ [(128 : UInt8)]).length) := Lib.hid (by rw [List.length_append, HN.out]; rfl)
      have HL2 : Hid (bs.map Extern.Stop.cell ++ [Extern.Stop.cell 128] = (bs ++ [(128 : UInt8)]).map Extern.Stop.cell) := Lib.hid (by simp)
      clear hm
      gi_wp2_with (gi_at_builtin; refine wpListIn_append_own _ rfl _ _ 24 rfl W.heap.size 5 i0 (.int .u8 0) 1 1 Tryz.underlying24 hi hq0 hq1 hq2 rfl (by omega) (.slice (some ⟨g, 0, none⟩) N cap) N (bs.map Extern.Stop.cell) rfl (HO.out.alloc _) ⟨wr.heap.size, 0, none⟩ 1 1 [Extern.Stop.cell 128] rfl rfl (byte_new 128 _ rfl) (byte_ones 128) (by unfold maxLen; omega) (by omega) (by first | (simp; done) | (simp; omega)) ?_; intro v1 w1 hown1 hg1 _; have hm1 : MsgS W.heap.size W (bs ++ [(128 : UInt8)]) v1 w1 := HM.out.app (Nat.le_refl _) HL1.out HL2.out hown1 hg1; obtain ⟨gg, cap1, rfl, _⟩ := own_form hown1 (Nat.succ_pos _); have HM1 := Lib.hid hm1; clear hown1 hg1 hm1)
      gi_loopw [3] (fun m wx => ∃ z g cap q, z ≤ zpad N ∧ q = N + 1 + z ∧ m = .slice (some ⟨g, 0, none⟩) q cap ∧ MsgS W.heap.size W (padTo bs z) m wx) (fun m _ => (N + 1 + zpad N) - (match m with | .slice _ q _ => q | _ => 0))
      case atStart => exact ⟨0, gg, cap1, N + 1, Nat.zero_le _, rfl, rfl, by have h := HM1.out; simpa [padTo] using h⟩
      case round =>
        obtain ⟨z, g, cap, q, hz, hq, rfl, hm⟩ := hrel
        have HM2 := Lib.hid hm
        have HQ := Lib.hid hq
        have hqb : q ≤ 1000000200 := by have : zpad N ≤ 63 := zpad_le N; omega
        have hge2 := hm.lo.size
        have hlq : (padTo bs z).length = q := by rw [padTo_length, HN.out, hq]
        have HO2 : Hid (wr.ownsRow W.heap.size 5 1 (.slice (some ⟨g, 0, none⟩) q cap) q ((padTo bs z).map Extern.Stop.cell)) := Lib.hid (by have h := hm.own; rw [hlq] at h; exact h)
        clear hm HM1 HM HO HL1 HL2
        by_cases hlt : z < zpad N
        · have h56 : ((q : Int) % 64 != 56) = true := by rw [neq_dec]; exact decide_eq_true (by rw [hq]; exact zpad_ne hlt)
          have HL1 : Hid (q + 1 = (padTo bs z ++ [(0 : UInt8)]).length) := Lib.hid (by rw [List.length_append, hlq]; rfl)
          have HL2 : Hid ((padTo bs z).map Extern.Stop.cell ++ [Extern.Stop.cell 0] = (padTo bs z ++ [(0 : UInt8)]).map Extern.Stop.cell) := Lib.hid (by simp)
          clear hq hlq
          gi_wp2_with (gi_at_builtin; refine wpListIn_append_own _ rfl _ _ 24 rfl W.heap.size 5 i0 (.int .u8 0) 1 1 Tryz.underlying24 hi hq0 hq1 hq2 rfl (by omega) (.slice (some ⟨g, 0, none⟩) q cap) q ((padTo bs z).map Extern.Stop.cell) rfl (HO2.out.alloc _) ⟨wr.heap.size, 0, none⟩ 1 1 [Extern.Stop.cell 0] rfl rfl (byte_new 0 _ rfl) (byte_ones 0) (by unfold maxLen; omega) (by omega) (by first | (simp; done) | (simp; omega)) ?_; intro v2 w2 hown2 hg2 _; have hm2 : MsgS W.heap.size W (padTo bs z ++ [(0 : UInt8)]) v2 w2 := HM2.out.app (Nat.le_refl _) HL1.out HL2.out hown2 hg2; obtain ⟨g2, cap2, rfl, _⟩ := own_form hown2 (Nat.succ_pos _); have HM3 := Lib.hid hm2; clear hown2 hg2 hm2)
          go_roundw
          case rel => exact ⟨z + 1, g2, cap2, q + 1, hlt, by have := HQ.out; omega, rfl, by rw [padTo_succ]; exact HM3.out⟩
          case measure => have := HQ.out; show N + 1 + zpad N - (q + 1) < N + 1 + zpad N - q; omega
        · have hze : z = zpad N := by omega
          have h56 : ((q : Int) % 64 != 56) = false := by rw [neq_dec]; exact decide_eq_false (by rw [hq, hze]; have := zpad_eq N; omega)
          have HZE := Lib.hid hze
          clear hq hze hlq hlt hz
          obtain ⟨pm, hpm⟩ : ∃ pm, padTo bs (zpad N) = pm := ⟨_, rfl⟩
          have HPM := Lib.hid hpm
          have HPL : Hid (pm.length = q) := Lib.hid (by rw [← hpm, padTo_length, HN.out]; have := HQ.out; have := HZE.out; omega)
          have HM4 : Hid (MsgS W.heap.size W pm (.slice (some ⟨g, 0, none⟩) q cap) wr) := Lib.hid (by have h := HM2.out; rw [HZE.out, hpm] at h; exact h)
          clear hpm HM2 HO2
          gi_wp2_with fail
          gi_loopw [3, 7] (fun m i wx => ∃ j g cap r, j ≤ 8 ∧ r = q + j ∧ i = .int .i64 (56 - 8 * (j : Int)) ∧ m = .slice (some ⟨g, 0, none⟩) r cap ∧ MsgS W.heap.size W (pm ++ upto (fun j => byteOf ((8 * (N : Int)) / 2 ^ (56 - 8 * j))) j) m wx) (fun _ i _ => (intOf i + 8).toNat)
          case atStart => exact ⟨0, g, cap, q, Nat.zero_le _, rfl, by go_num, rfl, by have h := HM4.out; simpa [upto] using h⟩
          case round =>
            obtain ⟨j, g, cap, r, hj, hr, rfl, rfl, hm⟩ := hrel
            have HM5 := Lib.hid hm
            have HR := Lib.hid hr
            have hge3 := hm.lo.size
            have hrb : r ≤ 1000000300 := by omega
            obtain ⟨ms, hms⟩ : ∃ ms, pm ++ upto (fun j => byteOf ((8 * (N : Int)) / 2 ^ (56 - 8 * j))) j = ms := ⟨_, rfl⟩
            have hml : ms.length = r := by rw [← hms, List.length_append, HPL.out, upto_length, hr]
            rw [hms] at HM5 hm
            have HMS := Lib.hid hms
            have HO5 : Hid (wr.ownsRow W.heap.size 5 1 (.slice (some ⟨g, 0, none⟩) r cap) r (ms.map Extern.Stop.cell)) := Lib.hid (by have h := hm.own; rw [hml] at h; exact h)
            clear hm hr hms HM4
            by_cases hlt : j < 8
            · obtain ⟨s, hs⟩ : ∃ s : Nat, 56 - 8 * j = s := ⟨_, rfl⟩
              have hs2 : 56 - 8 * (j : Int) = (s : Int) := by omega
              have hs0 : (0 : Int) ≤ (s : Int) := by omega
              have hs1 : (s : Int) ≤ 56 := by omega
              obtain ⟨y, hy⟩ : ∃ y : Int, (8 * (N : Int)) / 2 ^ s = y := ⟨_, rfl⟩
              have HL1 : Hid (r + 1 = (ms ++ [byteOf y]).length) := Lib.hid (by rw [List.length_append, hml]; rfl)
              have HL2 : Hid (ms.map Extern.Stop.cell ++ [Extern.Stop.cell (byteOf y)] = (ms ++ [byteOf y]).map Extern.Stop.cell) := Lib.hid (by simp)
              have HYY := Lib.hid hy
              have HSS := Lib.hid hs
              have HS2 := Lib.hid hs2
              have hby8 : IntKind.u8.wrap y = y % 256 := by rw [IntKind.wrap_u8]
              rw [hs2]
              clear hml hs hs2
              gi_wp2_with (gi_at_builtin; refine wpListIn_append_own _ rfl _ _ 24 rfl W.heap.size 5 i0 (.int .u8 0) 1 1 Tryz.underlying24 hi hq0 hq1 hq2 rfl (by omega) (.slice (some ⟨g, 0, none⟩) r cap) r (ms.map Extern.Stop.cell) rfl (HO5.out.alloc _) ⟨wr.heap.size, 0, none⟩ 1 1 [Extern.Stop.cell (byteOf y)] rfl rfl (byte_new (byteOf y) _ (byteOf_cell y).symm) (byte_ones _) (by unfold maxLen; omega) (by omega) (by first | (simp; done) | (simp; omega)) ?_; intro v2 w2 hown2 hg2 _; have hm2 : MsgS W.heap.size W (ms ++ [byteOf y]) v2 w2 := HM5.out.app (Nat.le_refl _) HL1.out HL2.out hown2 hg2; obtain ⟨g2, cap2, rfl, _⟩ := own_form hown2 (Nat.succ_pos _); have HM6 := Lib.hid hm2; clear hown2 hg2 hm2)
              go_roundw
              case rel => exact ⟨j + 1, g2, cap2, r + 1, hlt, by have := HR.out; omega, by have := HS2.out; congr 1; omega, rfl, by rw [upto_succ, ← List.append_assoc, HMS.out, HSS.out, HYY.out]; exact HM6.out⟩
              case measure => have := HS2.out; simp [intOf]; omega
            · have hj8 : j = 8 := by omega
              have hs2 : 56 - 8 * (j : Int) = -8 := by omega
              have hms2 : ms = padB bs := by
                rw [← HMS.out, hj8, ← HPM.out]
                unfold padB sizeB
                rw [HN.out]
              have hT : r = q + 8 := by have := HR.out; omega
              obtain ⟨k, hk⟩ : ∃ k, r = 64 * k := ⟨r / 64, by have h1 := zpad_eq N; have h2 := HQ.out; have h3 := HZE.out; omega⟩
              have HTT := Lib.hid hk
              have HMM := Lib.hid hms2
              have HML := Lib.hid hml
              have HC0 : Hid (∀ i, i < r → wr.cell? ⟨g, i, none⟩ = some (Extern.Stop.cell (ms[i]?.getD 0))) := Lib.hid fun i hi => by
                have h := HO5.out.cells (g := g) rfl i (Extern.Stop.cell (ms[i]?.getD 0)) (by rw [List.getElem?_map, List.getElem?_eq_getElem (by omega)]; rfl)
                rw [addr_add] at h
                exact h
              have hcap : r ≤ cap ∧ cap ≤ 9223372036854775807 := by
                rcases HO5.out.2 with ⟨h1, _⟩ | ⟨g', cap', cur, h1, _, _, h2, h3, _⟩
                · cases h1
                · injection h1 with _ _ h1; subst h1; exact ⟨h2, by unfold maxLen at h3; omega⟩
              have hgl := own_lt HO5.out g rfl
              have hgw : W.heap.size ≤ g := by
                rcases HO5.out.2 with ⟨h1, _⟩ | ⟨g', cap', cur, h1, h2, _⟩
                · cases h1
                · injection h1 with h1 _ _; injection h1 with h1; injection h1 with h1; omega
              have HJ0 : Hid (J [] wr) := Lib.hid (HJ.out _ _ _ h0 HM5.out.lo)
              rw [hs2]
              clear hs2 hj8 hms2 hT hml
              gi_wp2_with fail
              gi_loopw [3] (fun m wx => ∃ i a q cc o xs, i ≤ k ∧ q = 64 * (k - i) ∧ o = 64 * i ∧ m = .slice a q cc ∧ xs.map (·.bs) = upto (chunk ms) i ∧ J xs wx ∧ BlkS W g r ms wx ∧ (i < k → a = some ⟨g, o, none⟩ ∧ q ≤ cc ∧ cc ≤ 9223372036854775807)) (fun m _ => match m with | .slice _ q _ => q | _ => 0)
              case atStart => exact ⟨0, some ⟨g, 0, none⟩, r, cap, 0, [], Nat.zero_le _, by rw [hk]; rfl, rfl, rfl, rfl, HJ0.out, ⟨hgl, hgw, hge3, HC0.out⟩, fun _ => ⟨rfl, hcap.1, hcap.2⟩⟩
              case round =>
                obtain ⟨i, a, q, cc, o, xs, hi, hq, ho, rfl, hxs, hjx, hbk, hlast⟩ := hrel
                have HBK := Lib.hid hbk
                have HXS := Lib.hid hxs
                have HJX := Lib.hid hjx
                clear hbk hxs hjx
                by_cases hlt : i < k
                · obtain ⟨rfl, hqc, hcm⟩ := hlast hlt
                  have hq64 : 64 ≤ q := by omega
                  have hxe : ElAt ⟨g, o, cc, chunk ms i⟩ wr := HBK.out.el i o cc (chunk ms i) ho (by have := HTT.out; omega) rfl HML.out
                  obtain ⟨fn, tmps, assign, body, hy, hR⟩ := HY.out xs ⟨g, o, cc, chunk ms i⟩ wr HJX.out HBK.out.ge hxe
                  dsimp only [encEl] at hy
                  have hq0 : (0 : Int) < (q : Int) := by omega
                  have HQ6 := Lib.hid hq
                  have HO6 := Lib.hid ho
                  clear hq ho hlast hxe
                  gi_wp2_with fail
                  refine hR.mono ?_
                  rintro e W3 ⟨rfl, hJ3, hk3⟩
                  have HJ3 := Lib.hid hJ3
                  have HB3 := Lib.hid (HBK.out.keep hk3)
                  have HX3 : Hid ((xs ++ [(⟨g, o, cc, chunk ms i⟩ : El)]).map (·.bs) = upto (chunk ms) (i + 1)) := Lib.hid (by rw [List.map_append, HXS.out, upto_succ]; rfl)
                  clear hJ3 hk3 hy hR HJX HBK
                  by_cases hcc : cc = 64
                  · have HCC := Lib.hid hcc
                    have hqe : q = 64 := by omega
                    have hke : i + 1 = k := by have := HQ6.out; omega
                    have HKE := Lib.hid hke
                    subst hcc
                    subst hqe
                    clear hke
                    gi_wp2_with fail
                    go_roundw
                    case rel => exact ⟨i + 1, _, 0, _, 64 * (i + 1), _, by omega, by have := HKE.out; omega, rfl, rfl, HX3.out, HJ3.out, HB3.out, fun h => by have := HKE.out; omega⟩
                    case measure => simp
                  · have hc64 : 64 < cc := by omega
                    gi_wp2_with fail
                    go_roundw
                    case rel => exact ⟨i + 1, _, q - 64, cc - 64, o + 64, _, hlt, by have := HQ6.out; omega, by have := HO6.out; omega, rfl, HX3.out, HJ3.out, HB3.out, fun _ => ⟨rfl, by omega, by omega⟩⟩
                    case measure => simp; omega
                · have hie : i = k := by omega
                  have hq0 : q = 0 := by omega
                  have HIE := Lib.hid hie
                  subst hq0
                  clear hie hlast
                  gi_wp2_with fail
                  go_end0
                  refine ⟨⟨_, rfl⟩, xs, ?_, HJX.out⟩
                  rw [HXS.out, HIE.out, ← HMM.out, HML.out, HTT.out, Nat.mul_div_cancel_left _ (by decide)]
end Go.Proofs.YtoljoigbepdeiaaGreatDoor

/- kalends/digest.hash of two parts. -/
namespace Go.Proofs.YtoljoigbepdeiaaGreatDoor
open Go Go.RowKit Go.Shelf
attribute [local go_sem] Oper.semAt_some

set_option maxRecDepth 100000 in
set_option maxHeartbeats 2000000 in
theorem hash2_any (KR : List Int) (hK : KR.length = 64) (w : World) (hG : RowU w 0 (cellsU KR)) (b1 b2 bs : List UInt8) (hcat : b1 ++ b2 = bs) (hb1 : 0 < b1.length) (hb2 : 0 < b2.length) (hlen : bs.length ≤ 1000000000) (pb a1 f1 c1 a2 f2 c2 : Nat) (hp : w.cell? ⟨pb, 0, none⟩ = some (.slice (some ⟨a1, f1, none⟩) b1.length c1)) (hp2 : w.cell? ⟨pb, 1, none⟩ = some (.slice (some ⟨a2, f2, none⟩) b2.length c2)) (hlp : pb < w.heap.size) (hla1 : a1 < w.heap.size) (hla2 : a2 < w.heap.size)
    (hby1 : ∀ j, j < b1.length → w.cell? ⟨a1, f1 + j, none⟩ = some (Extern.Stop.cell (b1[j]?.getD 0))) (hby2 : ∀ j, j < b2.length → w.cell? ⟨a2, f2 + j, none⟩ = some (Extern.Stop.cell (b2[j]?.getD 0))) :
    Calls Tryz.prog 42 #[.slice (some ⟨pb, 0, none⟩) 2 2] w fun e w' => e = .returned (.agg (cellsB (digF KR bs))) ∧ Below w.heap.size w w' := by
  refine (callsIn_wide (n := 3)).1 ?_
  have hro : Fence.wide.round = none := rfl
  have h1 : 1 ≤ 3 := by omega
  have HK := Lib.hid hK
  have HG := Lib.hid hG
  have HBY1 := Lib.hid hby1
  have HBY2 := Lib.hid hby2
  have HP := Lib.hid hp
  have HP2 := Lib.hid hp2
  clear hK hG hby1 hby2 hp hp2
  refine callsIn_of_wp_marks Tryz.func42 rfl trivial ?_ hro
  simp only [Tryz.ntmps42, List.size_toArray, List.length_cons, List.length_nil, Nat.reduceAdd, Nat.reduceSub, Array.replicate_succ, Array.replicate_zero, List.push_toArray, List.append_toArray, List.nil_append, List.cons_append]
  gi_wp2_with (first
    | (refine wpListIn_alloc_nm rfl _ rfl (cellsB z32) zero32_info ?_)
    | (refine wpListIn_alloc_nm rfl _ rfl (cellsU (List.replicate 8 0)) zero8_info ?_; refine wpListIn_store_nm rfl 147 _ _ rfl (w.alloc (.cells (cellsB z32) 23)).heap.size (cellsU shaIV) rfl rfl 147 (cellsU (List.replicate 8 0)) (heap_alloc_last _ _) (by kernel_rfl) rfl (cellsU_one _) ?_)
    | (refine ⟨trivial, ?_⟩; gi_at_call 65; refine (blocks_any _ _ _ _).mono ?_; rintro e w3 ⟨rfl, hw3⟩; obtain ⟨hs3, hz3, hbx3⟩ := hash_start (KR := KR) ⟨_, rfl⟩ hw3; have HS3 := Lib.hid hs3; have HX3 := Lib.hid hbx3; have HZ3 := Lib.hid hz3; clear hw3 hs3 hbx3 hz3))
  have hseq : ∀ W, Below w3.heap.size w3 W → SeqTells Fence.wide (3 - 1) Tryz.prog 96 #[.pointer (some ⟨w.heap.size + 1 + 1, 0, none⟩)] encEl ElAt (fun xs => xs.map (·.bs) = upto (chunk (padB bs)) ((padB bs).length / 64)) W := fun W hW => by
    have hz := HZ3.out
    have hsz := hW.size
    have hlo := HS3.out.lo
    have kc : ∀ (p : Addr), p.block < w.heap.size → W.cell? p = w.cell? p := fun p hp => ((hW.mono (by omega)).cell (p := p) hp).trans (hlo.cell (p := p) hp)
    exact blocks2_tells Fence.wide 2 trivial rfl (by omega) b1 b2 bs hcat hb1 hb2 hlen W (w.heap.size + 1 + 1) pb a1 f1 c1 a2 f2 c2 ((hW.cell (p := ⟨w.heap.size + 2, 0, none⟩) (by show w.heap.size + 2 < w3.heap.size; omega)).trans HX3.out)
      ((kc ⟨pb, 0, none⟩ hlp).trans HP.out) ((kc ⟨pb, 1, none⟩ hlp).trans HP2.out) (by omega) (by omega) (by omega) (fun j hj => (kc ⟨a1, f1 + j, none⟩ hla1).trans (HBY1.out j hj)) (by omega) (fun j hj => (kc ⟨a2, f2 + j, none⟩ hla2).trans (HBY2.out j hj))
  have HSEQ := Lib.hid hseq
  clear hseq
  refine wpIn_range_tells hro h1 (gf := 96) (lb := #[.pointer (some ⟨w.heap.size + 1 + 1, 0, none⟩)]) rfl trivial (enters_of Tryz.func96 (by kernel_rfl) rfl) HSEQ.out (fun _ => rfl)
    (fun (xs : List El) W => HashS w KR (xs.map (fun x : El => x.bs)) W) (fun xs A B h hb => h.grow (hb.mono (by rw [HZ3.out]; exact Nat.le_refl _))) HS3.out
    (fun x => { tmps := #[.slice (some ⟨pb, 0, none⟩) 2 2, undef, .pointer (some ⟨w.heap.size, 0, none⟩), .pointer (some ⟨w.heap.size + 1, 0, none⟩), slEl x, undef, undef, .agg (cellsU shaIV), .slice (some ⟨pb, 0, none⟩) 2 2, .func (.func 96) #[] #[.pointer (some ⟨w.heap.size + 1 + 1, 0, none⟩)], slEl x, undef, undef, undef, undef, undef, undef, undef, undef, undef, undef, undef, undef, undef, undef, undef, undef, undef, undef, undef], defers := [] })
    (fun x A l o o' h1 h2 h3 => h1.put h2 h3) ?assign ?body ?done
  case assign =>
    intro l x W K hK
    unfold encEl
    gi_wp2
    exact hK
  case body =>
    intro l pre x W hI hsz hx
    have hGW : RowU W 0 (cellsU KR) := ⟨Nat.lt_of_lt_of_le HG.out.1 hI.lo.size, fun i => (hI.lo.cell (p := ⟨0, i, none⟩) HG.out.1).trans (HG.out.2 i)⟩
    have HC : Hid (Calls Tryz.prog 66 #[.pointer (some ⟨w.heap.size + 1, 0, none⟩), slEl x] W fun e w' => e = .returned (.tuple #[]) ∧ AV (w.heap.size + 1) 147 (cellsU (addF KR (foldS KR shaIV (pre.map (fun x : El => x.bs))) x.bs)) w' ∧ SKeep (w.heap.size + 1) W w') :=
      Lib.hid (add_any KR HK.out W hGW (w.heap.size + 1) x.b x.off x.cap (foldS KR shaIV (pre.map (fun x : El => x.bs))) x.bs (foldS_length _ _ _ rfl) hI.st hx.len hx.lt hx.at_)
    have HI := Lib.hid hI
    clear hGW hI hx
    gi_wp2_with (refine ⟨trivial, ?_⟩; gi_at_call 66; refine (CallsIn.inRound l (callsIn_wide.2 HC.out)).mono ?_; rintro e W2 ⟨rfl, hav, hkp⟩)
    have hl := HI.out.lo
    have hz3 := HZ3.out
    refine ⟨⟨⟨(hkp.block _ (by have := hl.size; omega) (by omega)).trans HI.out.res.var⟩, ?_, ⟨hkp.os.trans hl.os, hkp.tape.trans hl.tape, hkp.output.trans hl.output, Nat.le_trans hl.size hkp.size, fun k hk => (hkp.block k (by have := hl.size; omega) (by omega)).trans (hl.block k hk)⟩⟩, ⟨hkp.size, fun k h1 h2 => hkp.block k h2 (by omega)⟩⟩
    rw [foldS_snoc]
    exact hav
  case done =>
    intro D xs W hD hS hI hD0
    rw [hS] at hI
    obtain ⟨st, hst⟩ : ∃ st, foldS KR shaIV (upto (chunk (padB bs)) ((padB bs).length / 64)) = st := ⟨_, rfl⟩
    have hsl : st.length = 8 := by rw [← hst]; exact foldS_length _ _ _ rfl
    have hI2 : AV (w.heap.size + 1) 147 (cellsU st) W := by rw [← hst]; exact hI.st
    have HI := Lib.hid hI
    have HI2 := Lib.hid hI2
    have HD0 := Lib.hid hD0
    have HST := Lib.hid hst
    have HSL := Lib.hid hsl
    clear hI hI2 hD0 hst hsl hS
    have HA0 := Lib.hid (AV.new W (cellsB (outTo st 0)) 23)
    have HB0 := Lib.hid (below_var W (.cells (cellsB (outTo st 0)) 23))
    have hstl := HI2.out.lt
    have hdl : D < W.heap.size := (Array.getElem?_eq_some_iff.1 HD0.out).1
    gi_wp2_with (refine wpListIn_alloc_nm rfl _ rfl (cellsB z32) zero32_info ?_)
    gi_loopw [13] (fun i wx => ∃ k : Nat, k ≤ 32 ∧ i = .int .i64 (k : Int) ∧ AV W.heap.size 23 (cellsB (outTo st k)) wx ∧ Below W.heap.size W wx) (fun i _ => 32 - (intOf i).toNat)
    case atStart => exact ⟨0, Nat.zero_le _, rfl, HA0.out, HB0.out⟩
    case round =>
      obtain ⟨k, hk, rfl, hd, hb⟩ := hrel
      have HDV := Lib.hid hd
      have HBL := Lib.hid hb
      have HOL := Lib.hid (outTo_length st k)
      clear hd hb HA0 HB0
      by_cases hlt : k < 32
      · have i1 : (k : Int) < 32 := by omega
        obtain ⟨q4, hq4⟩ : ∃ q : Nat, k / 4 = q := ⟨_, rfl⟩
        obtain ⟨r4, hr4⟩ : ∃ q : Nat, k % 4 = q := ⟨_, rfl⟩
        obtain ⟨s4, hs4⟩ : ∃ q : Nat, 24 - 8 * r4 = q := ⟨_, rfl⟩
        obtain ⟨v, hv⟩ : ∃ v, st[q4]?.getD 0 = v := ⟨_, rfl⟩
        have cs : wr.cell? ⟨w.heap.size + 1, q4, none⟩ = some (.int .u32 v) := ((HBL.out.cell (p := ⟨w.heap.size + 1, q4, none⟩) hstl).trans (HI2.out.cell q4)).trans (by rw [cellsU_get _ _ (by rw [HSL.out]; omega), hv])
        have cd : wr.cell? ⟨W.heap.size, k, none⟩ = some (Extern.Stop.cell ((outTo st k)[k]?.getD 0)) := (HDV.out.cell k).trans (cellsB_get _ _ (by rw [HOL.out]; exact hlt))
        have cf := HDV.out.froz k
        obtain ⟨y, hy⟩ : ∃ y, v / 2 ^ s4 = y := ⟨_, rfl⟩
        have g4 : (k : Int) / 4 = (q4 : Int) := by omega
        have g5 : (k : Int) % 4 = (r4 : Int) := by omega
        have g6 : 24 - 8 * (r4 : Int) = (s4 : Int) := by omega
        have b4 : (q4 : Int) < 8 := by omega
        have b5 : (r4 : Int) < 4 := by omega
        have b6 : (s4 : Int) ≤ 24 := by omega
        have hw8 : IntKind.u8.wrap y = y % 256 := by rw [IntKind.wrap_u8]
        have HN : Hid (AV W.heap.size 23 (cellsB (outTo st (k + 1))) (wr.setCell ⟨W.heap.size, k, none⟩ (.int .u8 (y % 256)))) := Lib.hid (by
          have h := HDV.out.put k (Extern.Stop.cell (byteOf y))
          rw [cellsB_set, byteOf_cell] at h
          have e : outTo st (k + 1) = (outTo st k).set k (byteOf y) := by
            show (outTo st k).set k (byteOf ((st[k / 4]?.getD 0) / 2 ^ (24 - 8 * (k % 4)))) = _
            rw [hq4, hr4, hs4, hv, hy]
          rw [e]
          exact h)
        clear hq4 hr4 hs4 hv
        gi_wp2_with fail
        go_roundw
        case rel => exact ⟨k + 1, by omega, by go_num, HN.out, HBL.out.setCell (p := ⟨W.heap.size, k, none⟩) (Nat.le_refl _) _⟩
        case measure => simp [intOf]; omega
      · have HKE : Hid (k = 32) := Lib.hid (by omega)
        have i1 : ¬ (k : Int) < 32 := by omega
        have i2 : ((k : Int) < 32) = False := by simp; omega
        have HRW : Hid (RowU wr W.heap.size (cellsB (outTo st k))) := Lib.hid ⟨HDV.out.lt, HDV.out.cell⟩
        have HSZ : Hid ((Tryz.prog.info? 23).map (·.size) = some (cellsB (outTo st k)).size) := Lib.hid (by rw [cellsB_size, HOL.out]; kernel_rfl)
        have HSO : Hid ((cellsB z32).size = (cellsB (outTo st k)).size) := Lib.hid (by rw [cellsB_size, cellsB_size, HOL.out]; rfl)
        have HRS : Hid (wr.heap[w.heap.size]? = some (.cells (cellsB z32) 23 (0, 0))) := Lib.hid ((HBL.out.block _ (by omega)).trans HI.out.res.var)
        have HDD : Hid ((wr.setRow w.heap.size (cellsB (outTo st k))).heap[D]? = some (.deferred (some []))) := Lib.hid ((setRow_other _ _ _ _ (by have := HZ3.out; omega)).trans ((HBL.out.block _ hdl).trans HD0.out))
        clear hlt
        gi_wp2_with (first
          | (refine wpListIn_load_nm rfl _ _ rfl W.heap.size rfl (cellsB (outTo st k)) HRW.out _ Tryz.underlying23 rfl HSZ.out ?_; refine wpListIn_store_nm rfl _ _ _ rfl w.heap.size (cellsB (outTo st k)) rfl rfl 23 (cellsB z32) HRS.out HSZ.out HSO.out (cellsB_one _) ?_))
        have hz3 := HZ3.out
        have hlo := HI.out.lo
        refine ⟨by simp, .inl ⟨_, _, rfl, run_takeDeferred HDD.out, ?_⟩⟩
        refine ⟨_, results_cell_row rfl _ _ w.heap.size _ (cellsB (outTo st k)) (0, 0) _ rfl ((World.putObj_heap_other (by omega)).trans (setRow_heap _ _ _ _ _ _ HRS.out)) Tryz.underlying23 rfl HSZ.out, ?_⟩
        refine ⟨?_, (below_setRow' (hlo.trans (HBL.out.mono hlo.size)) (Nat.le_refl _) _).trans (below_put (by omega))⟩
        rw [HKE.out, ← HST.out]
        rfl
end Go.Proofs.YtoljoigbepdeiaaGreatDoor

/- kalends/digest.Keyed. -/
namespace Go.Proofs.YtoljoigbepdeiaaGreatDoor
open Go Go.RowKit

/-- One byte under a mask. -/
def xb (m : Int) (x : UInt8) : UInt8 := byteOf (bits BinOp.xor IntKind.u8 x.toNat m)
def xorTo (m : Int) (bs : List UInt8) : Nat → List UInt8
  | 0 => bs
  | k + 1 => (xorTo m bs k).set k (xb m (bs[k]?.getD 0))
theorem xorTo_length (m : Int) (bs : List UInt8) (k : Nat) : (xorTo m bs k).length = bs.length := by
  induction k with
  | zero => rfl
  | succ k ih => simp [xorTo, ih]
theorem xorTo_get (m : Int) (bs : List UInt8) (k : Nat) : ∀ j, k ≤ j → (xorTo m bs k)[j]? = bs[j]? := by
  induction k with
  | zero => exact fun _ _ => rfl
  | succ k ih =>
    intro j hj
    show ((xorTo m bs k).set k _)[j]? = _
    rw [List.getElem?_set_ne (by omega), ih j (by omega)]
def pad64 (key : List UInt8) : List UInt8 := key ++ List.replicate 32 0
def macF (KR : List Int) (key bs : List UInt8) : List UInt8 := digF KR (xorTo 92 (pad64 key) 64 ++ digF KR (xorTo 54 (pad64 key) 64 ++ bs))
theorem macF_length (KR : List Int) (key bs : List UInt8) : (macF KR key bs).length = 32 := digF_length _ _
theorem u8_xor (x : UInt8) (m : Int) : 0 ≤ bits BinOp.xor IntKind.u8 x.toNat m ∧ bits BinOp.xor IntKind.u8 x.toNat m < 256 := by
  unfold bits
  simp only [IntKind.wrap, IntKind.bits, IntKind.signed]
  constructor
  · exact Int.emod_nonneg _ (by decide)
  · exact Int.emod_lt_of_pos _ (by decide)
theorem xb_cell (m : Int) (x : UInt8) : Extern.Stop.cell (xb m x) = .int .u8 (bits BinOp.xor IntKind.u8 x.toNat m) := by
  obtain ⟨h1, h2⟩ := u8_xor x m
  unfold xb
  rw [byteOf_cell]
  congr 1
  omega
theorem zero64b_info : (Tryz.prog.info? 99).map (fun i => (i.zero, i.size)) = some (some (.agg (cellsB (List.replicate 64 0))), (cellsB (List.replicate 64 0)).size) := by kernel_rfl
/-- digest.Keyed under way: the key, the result, the two blocks. -/
structure KyS (w : World) (key xs ys : List UInt8) (W : World) : Prop where
  kv : AV w.heap.size 23 (cellsB key) W
  res : AV (w.heap.size + 1) 23 (cellsB z32) W
  a : AV (w.heap.size + 2) 99 (cellsB xs) W
  b : AV (w.heap.size + 3) 99 (cellsB ys) W
  lo : Below w.heap.size w W
theorem KyS.below {w W W' : World} {key xs ys : List UInt8} (h : KyS w key xs ys W) (hb : Below W.heap.size W W') : KyS w key xs ys W' := ⟨h.kv.below hb, h.res.below hb, h.a.below hb, h.b.below hb, below_trans h.lo hb⟩
theorem KyS.lt {w W : World} {key xs ys : List UInt8} (h : KyS w key xs ys W) : w.heap.size + 3 < W.heap.size := h.b.lt
theorem AV.rowOther {b c : Nat} {t : TypeId} {cs ds : Array Value} {W : World} (h : AV b t cs W) (hn : b ≠ c) : AV b t cs (W.setRow c ds) := ⟨(setRow_other _ _ b _ hn).trans h.var⟩
theorem AV.rowSame {b : Nat} {t : TypeId} {cs ds : Array Value} {W : World} (h : AV b t cs W) : AV b t ds (W.setRow b ds) := ⟨setRow_heap _ _ _ _ _ _ h.var⟩
theorem KyS.setA {w W : World} {key xs ys : List UInt8} (h : KyS w key xs ys W) (zs : List UInt8) : KyS w key zs ys (W.setRow (w.heap.size + 2) (cellsB zs)) :=
  ⟨h.kv.rowOther (by omega), h.res.rowOther (by omega), h.a.rowSame, h.b.rowOther (by omega), below_setRow' h.lo (by omega) _⟩
theorem KyS.setB {w W : World} {key xs ys : List UInt8} (h : KyS w key xs ys W) (zs : List UInt8) : KyS w key xs zs (W.setRow (w.heap.size + 3) (cellsB zs)) :=
  ⟨h.kv.rowOther (by omega), h.res.rowOther (by omega), h.a.rowOther (by omega), h.b.rowSame, below_setRow' h.lo (by omega) _⟩
theorem KyS.drew {w W : World} {key xs ys : List UInt8} (h : KyS w key xs ys W) : KyS w key xs ys W.drew := ⟨h.kv.drew, h.res.drew, h.a.drew, h.b.drew, h.lo.drew⟩
theorem KyS.putA {w W : World} {key xs ys : List UInt8} (h : KyS w key xs ys W) (o : Nat) (x : UInt8) : KyS w key (xs.set o x) ys (W.setCell ⟨w.heap.size + 2, o, none⟩ (Extern.Stop.cell x)) :=
  ⟨h.kv.far (by omega) _ _, h.res.far (by omega) _ _, by have := h.a.put o (Extern.Stop.cell x); rwa [cellsB_set] at this, h.b.far (by omega) _ _, h.lo.setCell (p := ⟨w.heap.size + 2, o, none⟩) (by show w.heap.size ≤ w.heap.size + 2; omega) _⟩
theorem KyS.putB {w W : World} {key xs ys : List UInt8} (h : KyS w key xs ys W) (o : Nat) (x : UInt8) : KyS w key xs (ys.set o x) (W.setCell ⟨w.heap.size + 3, o, none⟩ (Extern.Stop.cell x)) :=
  ⟨h.kv.far (by omega) _ _, h.res.far (by omega) _ _, h.a.far (by omega) _ _, by have := h.b.put o (Extern.Stop.cell x); rwa [cellsB_set] at this, h.lo.setCell (p := ⟨w.heap.size + 3, o, none⟩) (by show w.heap.size ≤ w.heap.size + 3; omega) _⟩
theorem kys_start (w : World) (key : List UInt8) : KyS w key (List.replicate 64 0) (List.replicate 64 0) ((((w.alloc (.cells (cellsB key) 23)).alloc (.cells (cellsB z32) 23)).alloc (.cells (cellsB (List.replicate 64 0)) 99)).alloc (.cells (cellsB (List.replicate 64 0)) 99)) := by
  obtain ⟨W1, h1⟩ : ∃ W, w.alloc (.cells (cellsB key) 23) = W := ⟨_, rfl⟩
  have a1 := AV.new w (cellsB key) 23
  have b1 := below_var w (.cells (cellsB key) 23)
  have s1 : W1.heap.size = w.heap.size + 1 := by rw [← h1]; simp
  rw [h1] at a1 b1 ⊢
  obtain ⟨W2, h2⟩ : ∃ W, W1.alloc (.cells (cellsB z32) 23) = W := ⟨_, rfl⟩
  have a2 := AV.new W1 (cellsB z32) 23
  have b2 := below_var W1 (.cells (cellsB z32) 23)
  have s2 : W2.heap.size = w.heap.size + 2 := by rw [← h2]; simp [s1]
  rw [h2] at a2 b2 ⊢
  rw [s1] at a2
  obtain ⟨W3, h3⟩ : ∃ W, W2.alloc (.cells (cellsB (List.replicate 64 0)) 99) = W := ⟨_, rfl⟩
  have a3 := AV.new W2 (cellsB (List.replicate 64 0)) 99
  have b3 := below_var W2 (.cells (cellsB (List.replicate 64 0)) 99)
  have s3 : W3.heap.size = w.heap.size + 3 := by rw [← h3]; simp [s2]
  rw [h3] at a3 b3 ⊢
  rw [s2] at a3
  have a4 := AV.new W3 (cellsB (List.replicate 64 0)) 99
  have b4 := below_var W3 (.cells (cellsB (List.replicate 64 0)) 99)
  rw [s3] at a4
  exact ⟨((a1.below b2).below b3).below b4, (a2.below b3).below b4, a3.below b4, a4, below_trans (below_trans (below_trans b1 b2) b3) b4⟩
theorem pad_splice (key : List UInt8) (h : key.length = 32) : cellsB (pad64 key) = (splice (cellsB (List.replicate 64 0)).toList 0 (refCells key)).toArray := by
  unfold splice cellsB pad64
  simp [refCells, h]
set_option maxRecDepth 10000 in
set_option maxHeartbeats 2000000 in
theorem keyed_some (KR : List Int) (hK : KR.length = 64) (w : World) (hG : RowU w 0 (cellsU KR)) (key bs : List UInt8) (hk : key.length = 32) (hb0 : 0 < bs.length) (hlen : bs.length ≤ 900000000) (ab off c : Nat) (hla : ab < w.heap.size) (hby : ∀ j, j < bs.length → w.cell? ⟨ab, off + j, none⟩ = some (Extern.Stop.cell (bs[j]?.getD 0))) :
    Calls Tryz.prog 14 #[.agg (cellsB key), .slice (some ⟨ab, off, none⟩) bs.length c] w (Gives (.agg (cellsB (macF KR key bs))) w) := by
  have HS0 := Lib.hid (kys_start w key)
  have HK := Lib.hid hK
  have HG := Lib.hid hG
  have HKL := Lib.hid hk
  have HBY := Lib.hid hby
  obtain ⟨N, hN⟩ : ∃ N, bs.length = N := ⟨_, rfl⟩
  rw [hN] at hb0 hlen ⊢
  have HN := Lib.hid hN
  clear hK hG hk hby hN
  go_enter Tryz.func14, Tryz.ntmps14
  go_wp2_with (first
    | (refine wpList_alloc_nm rfl _ rfl (cellsB z32) zero32_info ?_)
    | (refine wpList_alloc_nm rfl _ rfl (cellsB (List.replicate 64 0)) zero64b_info ?_))
  simp only [World.size_alloc, Nat.add_assoc, Nat.reduceAdd]
  generalize (((w.alloc (.cells (cellsB key) 23)).alloc (.cells (cellsB z32) 23)).alloc (.cells (cellsB (List.replicate 64 0)) 99)).alloc (.cells (cellsB (List.replicate 64 0)) 99) = W0 at HS0 ⊢
  have hl0 := HS0.out.lt
  have HC1 : Hid (∀ j u, (refCells key)[j]? = some u → W0.drew.cell? ((⟨w.heap.size, 0, none⟩ : Addr).add j) = some u) := Lib.hid fun j u hu => by
    rw [addr_add]
    exact (HS0.out.kv.cell j).trans (by simpa [cellsB] using hu)
  have HC2 : Hid ((refCells key).length = 32) := Lib.hid (by simp [refCells, HKL.out])
  have HC3 : Hid ((cellsB (List.replicate 64 0)).size = 64) := Lib.hid (by rw [cellsB_size]; rfl)
  have HC4 := Lib.hid (pad_splice key HKL.out)
  go_region_law (refine step_copy_row (by rfl) _ _ _ _ (by rfl) 5 Tryz.underlying24 (by kernel_rfl) (w.heap.size + 2) 0 64 64 ⟨w.heap.size, 0, none⟩ 32 32 (by rfl) (by rfl) (cellsB (List.replicate 64 0)) 99 HS0.out.a.drew.var (refCells key) (by rw [HC2.out]; rfl) HC1.out (by rw [HC2.out, HC3.out]; decide) (ref_ones key) (cellsB (pad64 key)) HC4.out ?_)
  have HS1 := Lib.hid (HS0.out.drew.setA (pad64 key))
  generalize W0.drew.setRow (w.heap.size + 2) (cellsB (pad64 key)) = W1 at HS1 ⊢
  have hl1 := HS1.out.lt
  have HPL : Hid ((pad64 key).length = 64) := Lib.hid (by simp [pad64, HKL.out])
  have HS64 : Hid (∀ zs : List UInt8, zs.length = 64 → (Tryz.prog.info? 99).map (·.size) = some (cellsB zs).size) := Lib.hid fun zs hz => by rw [cellsB_size, hz]; kernel_rfl
  have HRA : Hid (RowU W1 (w.heap.size + 2) (cellsB (pad64 key))) := Lib.hid ⟨by omega, HS1.out.a.cell⟩
  have HSO : Hid ((cellsB (List.replicate 64 0)).size = (cellsB (pad64 key)).size) := Lib.hid (by rw [cellsB_size, cellsB_size, HPL.out]; rfl)
  have HS2 := Lib.hid (HS1.out.setB (pad64 key))
  clear HC1 HC2 HC3 HC4 hl0
  go_wp2_with (first
    | (with_reducible refine g_load 99 ?_; refine wpList_load_nm rfl _ _ rfl (w.heap.size + 2) rfl (cellsB (pad64 key)) HRA.out _ Tryz.underlying99 rfl (HS64.out _ HPL.out) ?_)
    | (with_reducible refine g_store 99 ?_; refine wpList_store_row rfl _ _ _ rfl (w.heap.size + 3) (cellsB (pad64 key)) rfl rfl 99 (cellsB (List.replicate 64 0)) HS1.out.b.var (HS64.out _ HPL.out) HSO.out (cellsB_one _) ?_))
  go_loopw [13] (fun i wr => ∃ k : Nat, k ≤ 64 ∧ i = .int .i64 (k : Int) ∧ KyS w key (xorTo 54 (pad64 key) k) (xorTo 92 (pad64 key) k) wr) (fun i _ => 64 - (intOf i).toNat)
  case atStart => exact ⟨0, Nat.zero_le _, rfl, HS2.out⟩
  case round =>
    obtain ⟨k, hk, rfl, hs⟩ := hrel
    have HS := Lib.hid hs
    have hl := hs.lt
    clear hs HS1 HS2 hl1 HRA HSO
    by_cases hlt : k < 64
    · have i0 : (0 : Int) ≤ (k : Int) := by omega
      have i1 : (k : Int) < 64 := by omega
      obtain ⟨x, hx⟩ : ∃ x, (pad64 key)[k]?.getD 0 = x := ⟨_, rfl⟩
      have hxa : (xorTo 54 (pad64 key) k)[k]?.getD 0 = x := by rw [xorTo_get _ _ _ _ (Nat.le_refl _), hx]
      have hxb : (xorTo 92 (pad64 key) k)[k]?.getD 0 = x := by rw [xorTo_get _ _ _ _ (Nat.le_refl _), hx]
      have ca : wr.cell? ⟨w.heap.size + 2, k, none⟩ = some (Extern.Stop.cell x) := (HS.out.a.cell k).trans (by rw [cellsB_get _ _ (by rw [xorTo_length, HPL.out]; exact hlt), hxa])
      have cb : wr.cell? ⟨w.heap.size + 3, k, none⟩ = some (Extern.Stop.cell x) := (HS.out.b.cell k).trans (by rw [cellsB_get _ _ (by rw [xorTo_length, HPL.out]; exact hlt), hxb])
      have fa := HS.out.a.froz k
      have fb := HS.out.b.froz k
      have HN3 : Hid (KyS w key (xorTo 54 (pad64 key) (k + 1)) (xorTo 92 (pad64 key) (k + 1)) ((wr.setCell ⟨w.heap.size + 2, k, none⟩ (Extern.Stop.cell (xb 54 x))).setCell ⟨w.heap.size + 3, k, none⟩ (Extern.Stop.cell (xb 92 x)))) := Lib.hid (by
        have h := (HS.out.putA k (xb 54 x)).putB k (xb 92 x)
        have e1 : xorTo 54 (pad64 key) (k + 1) = (xorTo 54 (pad64 key) k).set k (xb 54 x) := by show (xorTo 54 (pad64 key) k).set k (xb 54 ((pad64 key)[k]?.getD 0)) = _; rw [hx]
        have e2 : xorTo 92 (pad64 key) (k + 1) = (xorTo 92 (pad64 key) k).set k (xb 92 x) := by show (xorTo 92 (pad64 key) k).set k (xb 92 ((pad64 key)[k]?.getD 0)) = _; rw [hx]
        rw [e1, e2]
        exact h)
      rw [xb_cell 54 x, xb_cell 92 x] at HN3
      simp only [Extern.Stop.cell] at ca cb
      clear hx hxa hxb
      go_wp2_with fail
      go_roundw
      case rel => exact ⟨k + 1, by omega, by go_num, HN3.out⟩
      case measure => simp [intOf]; omega
    · have hk64 : k = 64 := by omega
      have i1 : ¬ (k : Int) < 64 := by omega
      obtain ⟨A, hA⟩ : ∃ A, xorTo 54 (pad64 key) 64 = A := ⟨_, rfl⟩
      obtain ⟨B, hB⟩ : ∃ B, xorTo 92 (pad64 key) 64 = B := ⟨_, rfl⟩
      have hAl : A.length = 64 := by rw [← hA, xorTo_length, HPL.out]
      have hBl : B.length = 64 := by rw [← hB, xorTo_length, HPL.out]
      have hS := HS.out
      rw [hk64, hA, hB] at hS
      have HSS := Lib.hid hS
      have HAB : Hid (macF KR key bs = digF KR (B ++ digF KR (A ++ bs))) := Lib.hid (by unfold macF; rw [hA, hB])
      have hlo := hS.lo
      obtain ⟨W2, hW2⟩ : ∃ W, wr.alloc (.cells #[.slice (some ⟨w.heap.size + 2, 0, none⟩) 64 64, .slice (some ⟨ab, off, none⟩) N c] 24) = W := ⟨_, rfl⟩
      have hb2 : Below wr.heap.size wr W2 := by rw [← hW2]; exact below_var wr _
      have hr2 : W2.heap[wr.heap.size]? = some (.cells #[.slice (some ⟨w.heap.size + 2, 0, none⟩) 64 64, .slice (some ⟨ab, off, none⟩) N c] 24 (0, 0)) := by rw [← hW2]; exact heap_alloc_last wr _
      have hsz2 : W2.heap.size = wr.heap.size + 1 := by rw [← hW2]; simp
      have hlow2 : Below w.heap.size w W2 := below_trans hlo hb2
      have hG2 : RowU W2 0 (cellsU KR) := ⟨Nat.lt_of_lt_of_le HG.out.1 hlow2.size, fun i => (hlow2.cell (p := ⟨0, i, none⟩) HG.out.1).trans (HG.out.2 i)⟩
      have HC : Hid (Calls Tryz.prog 42 #[.slice (some ⟨wr.heap.size, 0, none⟩) 2 2] W2 fun e w' => e = .returned (.agg (cellsB (digF KR (A ++ bs)))) ∧ Below W2.heap.size W2 w') :=
        Lib.hid (hash2_any KR HK.out W2 hG2 A bs (A ++ bs) rfl (by omega) (by rw [HN.out]; exact hb0) (by rw [List.length_append, hAl, HN.out]; omega) wr.heap.size (w.heap.size + 2) 0 64 ab off c
          ((cell_of_row W2 _ 0 _ _ _ hr2).trans (by rw [hAl]; rfl)) ((cell_of_row W2 _ 1 _ _ _ hr2).trans (by rw [HN.out]; rfl)) (by omega) (by omega) (by omega)
          (fun j hj => (hb2.cell (p := ⟨w.heap.size + 2, 0 + j, none⟩) (by show w.heap.size + 2 < wr.heap.size; omega)).trans ((hS.a.cell (0 + j)).trans (by rw [Nat.zero_add, cellsB_get _ _ hj])))
          (fun j hj => (hlow2.cell (p := ⟨ab, off + j, none⟩) hla).trans (HBY.out j hj)))
      have HS2 := Lib.hid (hS.below hb2)
      have HW2 := Lib.hid hW2
      have HAL := Lib.hid hAl
      have HBL := Lib.hid hBl
      have HSZ2 := Lib.hid hsz2
      clear hb2 hr2 hsz2 hlow2 hG2 hS hlo hW2 hA hB hAl hBl hk64 hlt
      go_wp2_with fail
      rw [HW2.out]
      refine HC.out.mono ?_
      rintro e W3 ⟨rfl, hb3⟩
      have HS3 := Lib.hid (HS2.out.below hb3)
      obtain ⟨D1, hD1⟩ : ∃ D, digF KR (A ++ bs) = D := ⟨_, rfl⟩
      have hDl : D1.length = 32 := by rw [← hD1]; exact digF_length _ _
      rw [hD1]
      have HD1 := Lib.hid hD1
      have HDL := Lib.hid hDl
      have HSZD : Hid (∀ zs : List UInt8, zs.length = 32 → (Tryz.prog.info? 23).map (·.size) = some (cellsB zs).size) := Lib.hid fun zs hz => by rw [cellsB_size, hz]; kernel_rfl
      have HSOD : Hid (∀ zs : List UInt8, zs.length = 32 → (cellsB z32).size = (cellsB zs).size) := Lib.hid fun zs hz => by rw [cellsB_size, cellsB_size, hz]; rfl
      have HA3 := Lib.hid (heap_alloc_last W3 (.cells (cellsB z32) 23))
      have HB3a := Lib.hid (below_var W3 (.cells (cellsB z32) 23))
      have hl3 := HS3.out.lt
      clear hb3 hD1 hDl HC HW2
      go_wp2_with (first
        | (refine wpList_alloc_nm rfl _ rfl (cellsB z32) zero32_info ?_)
        | (with_reducible refine g_store 23 ?_; refine wpList_store_row rfl _ _ _ rfl W3.heap.size (cellsB D1) rfl rfl 23 (cellsB z32) HA3.out (HSZD.out _ HDL.out) (HSOD.out _ HDL.out) (cellsB_one _) ?_))
      have hS4 : KyS w key A B ((W3.alloc (.cells (cellsB z32) 23)).setRow W3.heap.size (cellsB D1)) := by
        have h := HS3.out.below HB3a.out
        exact ⟨h.kv.rowOther (by omega), h.res.rowOther (by omega), h.a.rowOther (by omega), h.b.rowOther (by omega), below_setRow' h.lo (by omega) _⟩
      have hd4 : AV W3.heap.size 23 (cellsB D1) ((W3.alloc (.cells (cellsB z32) 23)).setRow W3.heap.size (cellsB D1)) := ⟨setRow_heap _ _ _ _ _ _ HA3.out⟩
      have hz4 : ((W3.alloc (.cells (cellsB z32) 23)).setRow W3.heap.size (cellsB D1)).heap.size = W3.heap.size + 1 := by simp [World.setRow]
      generalize (W3.alloc (.cells (cellsB z32) 23)).setRow W3.heap.size (cellsB D1) = W4 at hS4 hd4 hz4 ⊢
      obtain ⟨W5, hW5⟩ : ∃ W, (W4.alloc (.cells #[.slice (some ⟨w.heap.size + 3, 0, none⟩) 64 64, .slice (some ⟨W3.heap.size, 0, none⟩) 32 32] 24)).drew = W := ⟨_, rfl⟩
      have hb5 : Below W4.heap.size W4 W5 := by rw [← hW5]; exact (below_var W4 _).drew
      have hr5 : W5.heap[W4.heap.size]? = some (.cells #[.slice (some ⟨w.heap.size + 3, 0, none⟩) 64 64, .slice (some ⟨W3.heap.size, 0, none⟩) 32 32] 24 (0, 0)) := by rw [← hW5]; exact heap_alloc_last W4 _
      have hsz5 : W5.heap.size = W4.heap.size + 1 := by rw [← hW5]; simp
      have hS5 := hS4.below hb5
      have hd5 := hd4.below hb5
      have hG5 : RowU W5 0 (cellsU KR) := ⟨Nat.lt_of_lt_of_le HG.out.1 hS5.lo.size, fun i => (hS5.lo.cell (p := ⟨0, i, none⟩) HG.out.1).trans (HG.out.2 i)⟩
      have HC5 : Hid (Calls Tryz.prog 42 #[.slice (some ⟨W4.heap.size, 0, none⟩) 2 2] W5 fun e w' => e = .returned (.agg (cellsB (digF KR (B ++ D1)))) ∧ Below W5.heap.size W5 w') :=
        Lib.hid (hash2_any KR HK.out W5 hG5 B D1 (B ++ D1) rfl (by rw [HBL.out]; decide) (by rw [HDL.out]; decide) (by rw [List.length_append, HBL.out, HDL.out]; decide) W4.heap.size (w.heap.size + 3) 0 64 W3.heap.size 0 32
          ((cell_of_row W5 _ 0 _ _ _ hr5).trans (by rw [HBL.out]; rfl)) ((cell_of_row W5 _ 1 _ _ _ hr5).trans (by rw [HDL.out]; rfl)) (by omega) (by omega) (by omega)
          (fun j hj => (hS5.b.cell (0 + j)).trans (by rw [Nat.zero_add, cellsB_get _ _ hj]))
          (fun j hj => (hd5.cell (0 + j)).trans (by rw [Nat.zero_add, cellsB_get _ _ hj])))
      have HS5 := Lib.hid hS5
      have HW5 := Lib.hid hW5
      clear hb5 hr5 hsz5 hG5 hS5 hd5 hW5 hS4 hd4 HA3 HB3a hz4
      go_still_tail 2, (by kernel_rfl)
      go_wp2_with fail
      rw [HW5.out]
      refine HC5.out.mono ?_
      rintro e W6 ⟨rfl, hb6⟩
      have HS6 := Lib.hid (HS5.out.below hb6)
      have hE : digF KR (B ++ D1) = macF KR key bs := by rw [HAB.out, HD1.out]
      rw [hE]
      have HML := Lib.hid (macF_length KR key bs)
      clear hb6 hE
      go_wp2_with (with_reducible refine g_store 23 ?_; refine wpList_store_row rfl _ _ _ rfl (w.heap.size + 1) (cellsB (macF KR key bs)) rfl rfl 23 (cellsB z32) HS6.out.res.var (HSZD.out _ HML.out) (HSOD.out _ HML.out) (cellsB_one _) ?_)
      refine bodyPost_ret (v := .agg (cellsB (macF KR key bs))) (results_cell_row rfl _ _ (w.heap.size + 1) _ (cellsB (macF KR key bs)) (0, 0) _ rfl (setRow_heap _ _ _ _ _ _ HS6.out.res.var) Tryz.underlying23 rfl (HSZD.out _ HML.out)) rfl ?_
      exact ⟨rfl, below_setRow' HS6.out.lo (Nat.le_succ _) _⟩
end Go.Proofs.YtoljoigbepdeiaaGreatDoor

/- table.Seal at tables with flat zones. -/
namespace Go.Proofs.YtoljoigbepdeiaaGreatDoor
open Go Go.RowKit

def putB (cs : Array Value) (o : Nat) : List Value → Array Value
  | [] => cs
  | v :: r => putB (cs.setIfInBounds o v) (o + 1) r
theorem putB_tail : ∀ (vs pre old : List Value), old.length = vs.length → putB (pre ++ old).toArray pre.length vs = (pre ++ vs).toArray
  | [], pre, old, h => by
    have : old = [] := List.eq_nil_of_length_eq_zero h
    simp [putB, this]
  | v :: r, pre, old, h => by
    obtain ⟨x, old', rfl⟩ : ∃ x old', old = x :: old' := by
      cases old with
      | nil => simp at h
      | cons x o => exact ⟨x, o, rfl⟩
    have h2 := putB_tail r (pre ++ [v]) old' (by simpa using h)
    have e : (pre ++ x :: old').toArray.setIfInBounds pre.length v = ((pre ++ [v]) ++ old').toArray := by simp
    unfold putB
    rw [e]
    simpa using h2
theorem setCells_blkB : ∀ (vs : List Value) (w : World) (b o : Nat) (cs : Array Value) (t : TypeId), w.heap[b]? = some (.cells cs t (0, 0)) → (w.setCells b o vs).heap[b]? = some (.cells (putB cs o vs) t (0, 0))
  | [], _, _, _, _, _, h => h
  | v :: r, w, b, o, _, t, h => setCells_blkB r _ b (o + 1) _ t (heap_setCell_same w b o _ _ v h)
theorem setCells_otherB : ∀ (vs : List Value) (w : World) (b o k : Nat), k ≠ b → (w.setCells b o vs).heap[k]? = w.heap[k]?
  | [], _, _, _, _, _ => rfl
  | v :: r, w, b, o, k, h => (setCells_otherB r _ b (o + 1) k h).trans (heap_setCell_other w _ k v h)
theorem setCells_sizeB : ∀ (vs : List Value) (w : World) (b o : Nat), (w.setCells b o vs).heap.size = w.heap.size
  | [], _, _, _ => rfl
  | v :: r, w, b, o => (setCells_sizeB r _ b (o + 1)).trans (by simp [World.setCell])
theorem below_setCellsB {B b : Nat} {w0 : World} (h : B ≤ b) : ∀ (vs : List Value) (w : World) (o : Nat), Below B w0 w → Below B w0 (w.setCells b o vs)
  | [], _, _, hb => hb
  | v :: r, _, o, hb => below_setCellsB h r _ (o + 1) (hb.setCell (p := ⟨b, o, none⟩) h v)
theorem tb_pre (t : Tb) (v : Value) : tbList t v = ([I t.issuer, I t.version, I t.withdraws, v] ++ refCells t.prev) ++ refCells t.mac := by simp [tbList]
theorem tb_macPut (t : Tb) (v : Value) (m : List UInt8) (hp : t.prev.length = 32) (h1 : t.mac.length = 32) (h2 : m.length = 32) : putB (tbVal t v) 36 (refCells m) = tbVal { t with mac := m } v := by
  have h := putB_tail (refCells m) ([I t.issuer, I t.version, I t.withdraws, v] ++ refCells t.prev) (refCells t.mac) (by simp [refCells, h1, h2])
  have hl : ([I t.issuer, I t.version, I t.withdraws, v] ++ refCells t.prev).length = 36 := by simp [refCells, hp]
  rw [hl] at h
  unfold tbVal
  rw [tb_pre, tb_pre]
  exact h
theorem tb_mac_set (t : Tb) (v : Value) (i : Nat) (x : UInt8) (hp : t.prev.length = 32) : (tbVal t v).setIfInBounds (36 + i) (Extern.Stop.cell x) = tbVal { t with mac := t.mac.set i x } v := by
  unfold tbVal
  rw [tb_pre, tb_pre]
  have hl : ([I t.issuer, I t.version, I t.withdraws, v] ++ refCells t.prev).length = 36 := by simp [refCells, hp]
  rw [List.setIfInBounds_toArray, List.set_append_right _ _ (by omega), hl]
  congr 2
  simp [refCells, List.map_set]
theorem RowU.via {w w' : World} {b B : Nat} {cs : Array Value} (h : RowU w b cs) (hb : Below B w w') (hB : b < B) : RowU w' b cs :=
  ⟨Nat.lt_of_lt_of_le h.1 hb.size, fun i => (hb.cell (p := ⟨b, i, none⟩) hB).trans (h.2 i)⟩
theorem dig_info (m : List UInt8) (h : m.length = 32) : (Tryz.prog.info? 23).map (·.size) = some (cellsB m).size := by rw [cellsB_size, h]; kernel_rfl
theorem ownB_lt {lo : Nat} {w : World} {g n c : Nat} {bs : List UInt8} (h : w.ownsRow lo 5 1 (.slice (some ⟨g, 0, none⟩) n c) n (bs.map Extern.Stop.cell)) : g < w.heap.size ∧ lo ≤ g := by
  obtain ⟨_, ⟨h1, _⟩ | ⟨g', cap, cur, hv, hg, hb, h1, h2, h3, h4⟩⟩ := h
  · cases h1
  injection hv with hv _ hc
  injection hv with hv
  injection hv with hv
  subst hv
  exact ⟨(Array.getElem?_eq_some_iff.1 hb).1, hg⟩
/-- What table.Seal gives. -/
def SealR (w : World) (t : Tb) (mac : List UInt8) (n : Nat) (e : Ending) (w' : World) : Prop :=
  ∃ A c ys, e = .returned (.tuple #[.agg (tbVal { t with mac := mac } (.slice A n c)), I 0]) ∧ ZsOwn w.heap.size w' (.slice A n c) ys ∧ ys.map (·.e) = t.zones ∧ Below w.heap.size w w'
set_option maxRecDepth 10000 in
set_option maxHeartbeats 600000 in
theorem seal_flat (KR : List Int) (hK : KR.length = 64) (w : World) (hG : RowU w 0 (cellsU KR)) (hw0 : 0 < w.heap.size) (key : List UInt8) (hk : key.length = 32) (t : Tb) (A : Option Addr) (n c lo : Nat) (zs : List ZeV) (h : TbFlat t) (hzz : t.zones = zs.map (·.e)) (hn : zs.length = n) (hO : ZsOwn lo w (.slice A n c) zs) (hup : NamesUp zs) :
    Calls Tryz.prog 5 #[.agg (cellsB key), .agg (tbVal t (.slice A n c))] w (SealR w t (macF KR key (tbBytes t)) n) := by
  have HF := Lib.hid h
  have HSZ : Hid (∀ v, (Tryz.prog.info? 30).map (·.size) = some (tbVal t v).size) := Lib.hid fun v => tb_info t v h.prev h.mac
  have HSO : Hid (∀ u v, (tbVal t u).size = (tbVal t v).size) := Lib.hid fun u v => by rw [tb_size _ _ h.prev h.mac, tb_size _ _ h.prev h.mac]
  have HZZ := Lib.hid hzz
  have HN := Lib.hid hn
  have HUP := Lib.hid hup
  have HK := Lib.hid hK
  have HKY := Lib.hid hk
  obtain ⟨W, hW⟩ : ∃ W, ((w.alloc (.cells (cellsB key) 23)).alloc (.cells (tbVal t (.slice A n c)) 30)).alloc (.cells (tbVal zTb (.slice none 0 0)) 30) = W := ⟨_, rfl⟩
  have hB : Below w.heap.size w W := by rw [← hW]; exact (((Below.refl _ w).alloc (Nat.le_refl _) _).alloc (by simp) _).alloc (by simp; omega) _
  have hs : W.heap.size = w.heap.size + 3 := by rw [← hW]; simp
  have hb0 : W.heap[w.heap.size]? = some (.cells (cellsB key) 23 (0, 0)) := by rw [← hW]; exact (Below.heap_alloc _ _ _ (by simp; omega)).trans (heap_alloc2_old w _ _)
  have hb1 : W.heap[w.heap.size + 1]? = some (.cells (tbVal t (.slice A n c)) 30 (0, 0)) := by rw [← hW]; exact (Below.heap_alloc _ _ _ (by simp)).trans (heap_alloc2_new w _ _)
  have hb2 : W.heap[w.heap.size + 2]? = some (.cells (tbVal zTb (.slice none 0 0)) 30 (0, 0)) := by
    rw [← hW]
    have := heap_alloc_last ((w.alloc (.cells (cellsB key) 23)).alloc (.cells (tbVal t (.slice A n c)) 30)) (.cells (tbVal zTb (.slice none 0 0)) 30)
    simpa using this
  have HB := Lib.hid hB
  have HS := Lib.hid hs
  have H0 := Lib.hid hb0
  have H1 := Lib.hid hb1
  have H2 := Lib.hid hb2
  have HR1 := Lib.hid (Row.of_blk hb1)
  have HO := Lib.hid (hO.below hB)
  have HG := Lib.hid (hG)
  clear h hzz hn hO hup hK hk hb0 hb1 hb2 hB hs hG
  obtain ⟨m, hm⟩ : ∃ m, macF KR key (tbBytes t) = m := ⟨_, rfl⟩
  have hm32 : m.length = 32 := by rw [← hm]; exact macF_length _ _ _
  rw [hm]
  have HMM := Lib.hid hm
  clear hm
  go_enter Tryz.func5, Tryz.ntmps5
  go_wp2_with (with_reducible refine g_load 30 ?_; refine wpList_load_Row rfl _ _ rfl (w.heap.size + 1) rfl (tbVal t (.slice A n c)) (by rw [zTb_cells, hW]; exact HR1.out) _ Tryz.underlying30 rfl (HSZ.out _) ?_)
  rw [zTb_cells, hW]
  clear hW
  refine (tableBytes_flat t A n c lo zs W HF.out HZZ.out HN.out HO.out HUP.out).mono ?_
  rintro e w2 ⟨⟨g2, c2, rfl, ho2⟩, hb2⟩
  have hs0 := HS.out
  have hl2 := hb2.size
  have HB2 := Lib.hid (below_trans HB.out hb2)
  have H02 : Hid (w2.heap[w.heap.size]? = some (.cells (cellsB key) 23 (0, 0))) := Lib.hid ((hb2.block _ (by omega)).trans H0.out)
  have H12 : Hid (w2.heap[w.heap.size + 1]? = some (.cells (tbVal t (.slice A n c)) 30 (0, 0))) := Lib.hid ((hb2.block _ (by omega)).trans H1.out)
  have H22 : Hid (w2.heap[w.heap.size + 2]? = some (.cells (tbVal zTb (.slice none 0 0)) 30 (0, 0))) := Lib.hid ((hb2.block _ (by omega)).trans H2.out)
  have HR2 := Lib.hid (Row.of_blk H12.out)
  have HOO2 := Lib.hid (HO.out.below hb2)
  have HBY2 := Lib.hid ho2
  clear ho2 hb2 HO HR1 H0 H1 H2 HB HS
  have HCL : Hid (Calls Tryz.prog 21 #[.agg (tbVal t (.slice A n c))] w2 (ClT w2 t zs)) := Lib.hid (by
    have e := HN.out
    have h2 : zs.length ≤ 128 := by have := HF.out.num; rw [HZZ.out, List.length_map] at this; exact this
    have h3 := HOO2.out
    rw [← e] at h3 ⊢
    exact cloned_own t A c lo zs w2 (fun x hx => HF.out.flat _ (by rw [HZZ.out]; exact List.mem_map_of_mem hx)) h2 HF.out.prev HF.out.mac h3)
  go_wp2_with (with_reducible refine g_load 30 ?_; refine wpList_load_Row rfl _ _ rfl (w.heap.size + 1) rfl (tbVal t (.slice A n c)) HR2.out _ Tryz.underlying30 rfl (HSZ.out _) ?_)
  refine (HCL.out).mono ?_
  rintro e w3 ⟨A3, c3, ys, rfl, hz3, he3, hb3⟩
  rw [HN.out] at hz3 ⊢
  have HE3 : Hid (ys.map (·.e) = t.zones) := Lib.hid (he3.trans HZZ.out.symm)
  have hl3 := hb3.size
  obtain ⟨W4, hW4⟩ : ∃ W4, w3.setRow (w.heap.size + 1) (tbVal t (.slice A3 n c3)) = W4 := ⟨_, rfl⟩
  have h13 : w3.heap[w.heap.size + 1]? = some (.cells (tbVal t (.slice A n c)) 30 (0, 0)) := (hb3.block _ (by omega)).trans H12.out
  have H13 := Lib.hid h13
  have H14 : Hid (W4.heap[w.heap.size + 1]? = some (.cells (tbVal t (.slice A3 n c3)) 30 (0, 0))) := Lib.hid (by rw [← hW4]; exact setRow_heap _ _ _ _ _ _ h13)
  have hk4 : ∀ k, k ≠ w.heap.size + 1 → W4.heap[k]? = w3.heap[k]? := fun k hk => by rw [← hW4]; exact setRow_other _ _ k _ hk
  have hL4 : W4.heap.size = w3.heap.size := by rw [← hW4]; simp [World.setRow]
  have hB4 : Below w.heap.size w W4 := by rw [← hW4]; exact below_setRow' (below_trans HB2.out hb3) (Nat.le_succ _) _
  have H04 : Hid (W4.heap[w.heap.size]? = some (.cells (cellsB key) 23 (0, 0))) := Lib.hid ((hk4 _ (by omega)).trans ((hb3.block _ (by omega)).trans H02.out))
  have H24 : Hid (W4.heap[w.heap.size + 2]? = some (.cells (tbVal zTb (.slice none 0 0)) 30 (0, 0))) := Lib.hid ((hk4 _ (by omega)).trans ((hb3.block _ (by omega)).trans H22.out))
  have HR4 := Lib.hid (Row.of_blk H04.out)
  have HZ4 : Hid (ZsOwn w2.heap.size W4 (.slice A3 n c3) ys) := Lib.hid (hz3.of_blocks (Nat.le_of_eq hL4.symm) fun k h1 _ => hk4 k (by omega))
  have hg2 : g2 < w2.heap.size ∧ W.heap.size ≤ g2 := ownB_lt HBY2.out
  have hby4 : ∀ j, j < (tbBytes t).length → W4.cell? ⟨g2, 0 + j, none⟩ = some (Extern.Stop.cell ((tbBytes t)[j]?.getD 0)) := fun j hj => by
    have h := HBY2.out.cells (g := g2) rfl j (Extern.Stop.cell ((tbBytes t)[j]?.getD 0)) (by rw [List.getElem?_map, List.getElem?_eq_getElem hj]; rfl)
    rw [addr_add] at h
    rw [Nat.zero_add]
    exact (World.cell?_of_block (a := ⟨g2, j, none⟩) ((hk4 _ (by show g2 ≠ w.heap.size + 1; omega)).trans (hb3.block _ hg2.1))).trans h
  have HKC := Lib.hid (keyed_some KR HK.out W4 (HG.out.via hB4 hw0) key (tbBytes t) HKY.out (by have := (tbBytes_len t HF.out).1; omega) (by have := (tbBytes_len t HF.out).2; omega) g2 0 c2 (by omega) hby4)
  have HW4 := Lib.hid hW4
  have HB4 := Lib.hid hB4
  clear hz3 he3 hb3 h13 hk4 hB4 hby4 hW4 HCL HOO2 HBY2 HR2 H12 H02 H22 HB2
  go_wp2_with (first
    | (with_reducible refine g_store 30 ?_; refine wpList_store_row rfl _ _ _ rfl (w.heap.size + 1) (tbVal t (.slice A3 n c3)) rfl rfl 30 (tbVal t (.slice A n c)) H13.out (HSZ.out _) (HSO.out _ _) (tbVal_one _ _ _ _) ?_; rw [HW4.out])
    | (with_reducible refine g_load 23 ?_; refine wpList_load_Row rfl _ _ rfl w.heap.size rfl (cellsB key) HR4.out _ Tryz.underlying23 rfl (dig_info _ HKY.out) ?_))
  refine HKC.out.mono ?_
  rintro e w5 ⟨rfl, hb5⟩
  rw [HMM.out]
  have h15 : w5.heap[w.heap.size + 1]? = some (.cells (tbVal t (.slice A3 n c3)) 30 (0, 0)) := (hb5.block _ (by omega)).trans H14.out
  obtain ⟨W6, hW6⟩ : ∃ W6, w5.setCells (w.heap.size + 1) 36 (cellsB m).toList = W6 := ⟨_, rfl⟩
  have H16 : Hid (W6.heap[w.heap.size + 1]? = some (.cells (tbVal { t with mac := m } (.slice A3 n c3)) 30 (0, 0))) := Lib.hid (by
    rw [← hW6]
    have h := setCells_blkB (cellsB m).toList w5 (w.heap.size + 1) 36 _ _ h15
    rw [show (cellsB m).toList = refCells m from rfl, tb_macPut t _ m HF.out.prev HF.out.mac hm32] at h
    exact h)
  have hB6 : Below w.heap.size w W6 := by rw [← hW6]; exact below_setCellsB (Nat.le_succ _) _ _ _ (below_trans HB4.out hb5)
  have hk6 : ∀ k, k ≠ w.heap.size + 1 → W6.heap[k]? = w5.heap[k]? := fun k hk => by rw [← hW6]; exact setCells_otherB _ _ _ _ k hk
  have hL6 : W6.heap.size = w5.heap.size := by rw [← hW6]; exact setCells_sizeB _ _ _ _
  have hl5 := hb5.size
  have H26 : Hid (W6.heap[w.heap.size + 2]? = some (.cells (tbVal zTb (.slice none 0 0)) 30 (0, 0))) := Lib.hid ((hk6 _ (by omega)).trans ((hb5.block _ (by omega)).trans H24.out))
  have HZ6 : Hid (ZsOwn w2.heap.size W6 (.slice A3 n c3) ys) := Lib.hid (HZ4.out.of_blocks (by omega) fun k h1 h2 => (hk6 k (by omega)).trans (hb5.block k h2))
  have HT5 : Hid (w5.there (w.heap.size + 1) 36 (cellsB m).size) := Lib.hid fun j hj => ⟨by rw [cell_of_row _ (w.heap.size + 1) _ _ _ _ h15]; have hs := tb_size t (.slice A3 n c3) HF.out.prev HF.out.mac; rw [cellsB_size, hm32] at hj; rw [Array.getElem?_eq_getElem (by omega)]; rfl, frozen_of_row _ _ _ _ _ h15⟩
  have HR6 := Lib.hid (Row.of_blk H16.out)
  have HW6 := Lib.hid hW6
  have HB6 := Lib.hid hB6
  have HSM : Hid (∀ v, (Tryz.prog.info? 30).map (·.size) = some (tbVal { t with mac := m } v).size) := Lib.hid fun v => tb_info _ v HF.out.prev hm32
  have HSS : Hid (∀ v, (tbVal zTb (.slice none 0 0)).size = (tbVal { t with mac := m } v).size) := Lib.hid fun v => (tb_size zTb _ rfl rfl).trans (tb_size { t with mac := m } v HF.out.prev hm32).symm
  have HMI := Lib.hid (dig_info m hm32)
  clear h15 hW6 hB6 hk6 hb5 HKC H14 H24 HZ4 HR4 H04 HB4
  go_wp2_with (first
    | (with_reducible refine g_store 23 ?_; refine wpList_store_mid rfl _ _ _ rfl (w.heap.size + 1) 36 (cellsB m) rfl rfl HT5.out HMI.out (cellsB_one _) ?_; rw [HW6.out])
    | (with_reducible refine g_load 30 ?_; refine wpList_load_Row rfl _ _ rfl (w.heap.size + 1) rfl (tbVal { t with mac := m } (.slice A3 n c3)) HR6.out _ Tryz.underlying30 rfl (HSM.out _) ?_)
    | (with_reducible refine g_store 30 ?_; refine wpList_store_row rfl _ _ _ rfl (w.heap.size + 2) (tbVal { t with mac := m } (.slice A3 n c3)) rfl rfl 30 (tbVal zTb (.slice none 0 0)) H26.out (HSM.out _) (HSS.out _) (tbVal_one _ _ _ _) ?_))
  refine bodyPost_ret (v := .tuple #[.agg (tbVal { t with mac := m } (.slice A3 n c3)), I 0]) (results_row_tmp rfl _ _ (w.heap.size + 2) _ (tbVal { t with mac := m } (.slice A3 n c3)) (0, 0) _ rfl (setRow_heap _ _ _ _ _ _ H26.out) Tryz.underlying30 rfl (HSM.out _) _ rfl) rfl ?_
  refine ⟨A3, c3, ys, rfl, (HZ6.out.of_blocks ?_ fun k h1 h2 => setRow_other _ _ k _ (by omega)).lower (by omega), HE3.out, below_setRow' HB6.out (Nat.le_succ_of_le (Nat.le_succ _)) _⟩
  simp [World.setRow]
end Go.Proofs.YtoljoigbepdeiaaGreatDoor
