/- (*series.reader).number: eight bytes. -/
import Derived.Test.YtoljoigbepdeiaaGreatDoorBack
import Derived.Test.YtoljoigbepdeiaaGreatDoorRsA
import Derived.Test.YtoljoigbepdeiaaGreatDoorWriters
import Derived.BigQuiet
import Derived.Deep.AppendLies
import Derived.Deep.CutBlock
import Derived.Deep.DeepCutAuto
import Derived.Deep.DrawnRows
import Derived.Deep.MidRow
import Derived.Deep.QuietTactic
import Derived.Deep.RegionHeld3
import Derived.Deep.RegionLaw
import Derived.Deep.WholeRow
import Derived.Great.BuildSlice
import Derived.Laws.BytesString
import Derived.Laws.CopyOwn
import Derived.Laws.Cover3
import Derived.Laws.EntriesVeiled
import Derived.Laws.MakeOwn
import Derived.Laws.ResultCell
import Derived.Laws.Rows
import Derived.Laws.Tables
import Derived.Lib.Hide
import Derived.LoopIn
import Derived.LoopNIn
import Derived.MapKept
import Derived.Maps.AppendAt
import Derived.Outline
import Derived.OwnWalkIn
import Derived.RangeFuncBound
import Derived.RangeFuncBox
import Derived.RangeFuncCalls
import Derived.RangeFuncLeaves
import Derived.RangeFuncNested
import Derived.Shelf.Abstract
import Derived.Shelf.Bytes.SlSmallAll
import Derived.Shelf.RegionOpen
import Derived.StillTailTactics
import Derived.Stop.BytesEq
import Derived.TacticsInMore
import Derived.WalkKit
import Derived.WalkLawsBesides
import Derived.WalkSpells
namespace Go.Proofs.YtoljoigbepdeiaaGreatDoor
open Go Go.RowKit Go.Shelf
attribute [local go_sem] Oper.semAt_some

/-- n<<8 | uint64(c), as the program reckons it. -/
def ustep (s : Int) (c : UInt8) : Int := bits BinOp.or IntKind.u64 (IntKind.u64.wrap (s * 256)) c.toNat
def unleU (l : List (Nat × UInt8)) : Int := l.foldl (fun s x => ustep s x.2) 0
theorem unleU_snoc (pre : List (Nat × UInt8)) (x : Nat × UInt8) : unleU (pre ++ [x]) = ustep (unleU pre) x.2 := by simp [unleU]
/-- The number of eight bytes. -/
def num8 (bs : List UInt8) : Int := wrap64 (unleU (upto (bk bs) bs.length))
def SNumGot (w : World) (rb : Nat) (rest : List UInt8) (e : Ending) (w' : World) : Prop :=
  e = .returned (I (num8 (rest.take 8))) ∧ SRd w' rb (rest.drop 8) ∧ MKeep rb w w'
theorem mkeep_mix {rb : Nat} {w w1 w2 W : World} (h0 : Below w.heap.size w w1) (hk : MKeep rb w1 w2) (h2 : Below w.heap.size w2 W) : MKeep rb w W :=
  ⟨h2.os.trans (hk.os.trans h0.os), h2.tape.trans (hk.tape.trans h0.tape), h2.output.trans (hk.output.trans h0.output), Nat.le_trans h0.size (Nat.le_trans hk.size h2.size),
   fun k hb h3 => (h2.block k hb).trans ((hk.block k (Nat.lt_of_lt_of_le hb h0.size) h3).trans (h0.block k hb))⟩
set_option maxRecDepth 100000 in
set_option maxHeartbeats 2000000 in
theorem snumber_yes (w : World) (rb : Nat) (rest : List UInt8) (hr : SRd w rb rest) (h8 : 8 ≤ rest.length) :
    Calls Tryz.prog 115 #[pt rb] w (SNumGot w rb rest) := by
  refine (callsIn_wide (n := 3)).1 ?_
  have hro : Fence.wide.round = none := rfl
  have h1 : 1 ≤ 3 := by omega
  have hlt := hr.lt
  have hB0 : Below w.heap.size w (w.alloc (.cells #[.int .u64 0] 207)) := (Below.refl _ w).alloc (Nat.le_refl _) _
  have hr1 : SRd (w.alloc (.cells #[.int .u64 0] 207)) rb rest := hr.below hB0 hlt
  have bS := Boxed.new w 207 (.int .u64 0)
  have HT0 := rbytes_yes (w.alloc (.cells #[.int .u64 0] 207)) rb 8 rest hr1 h8
  obtain ⟨bs, hbs⟩ : ∃ bs, rest.take 8 = bs := ⟨_, rfl⟩
  have HL := Lib.hid (show bs.length = 8 from by rw [← hbs, List.length_take]; omega)
  unfold GotBytes at HT0
  rw [hbs] at HT0
  have HBS2 := Lib.hid hbs
  have HT := Lib.hid HT0
  have HB0 := Lib.hid hB0
  have HBS := Lib.hid bS
  clear hr hr1 hB0 bS HT0 hbs
  refine callsIn_of_wp_marks Tryz.func115 rfl trivial ?_ hro
  simp only [Tryz.ntmps115, List.size_toArray, List.length_cons, List.length_nil, Nat.reduceAdd, Nat.reduceSub, Array.replicate_succ, Array.replicate_zero, List.push_toArray, List.append_toArray, List.nil_append, List.cons_append]
  gi_wp2_with first
    | (refine ⟨trivial, ?_⟩; gi_at_call 116; refine (callsIn_wide.2 HT.out).mono ?_; rintro e w2 ⟨A, c, rfl, hcl, hcc, hby, hrs, hk⟩; have HBY := Lib.hid hby; have HRS := Lib.hid hrs; have HK := Lib.hid hk; clear hby hrs hk)
    | (refine ⟨trivial, ?_⟩; gi_at_call 61; refine (back_in Fence.wide 2 trivial hro _ _ _ _).mono ?_; rintro e w' ⟨rfl, rfl⟩)
  have hw2 : w.heap.size < w2.heap.size := Nat.lt_of_lt_of_le (by simp) HK.out.size
  have bS2 : Boxed w2 w.heap.size 207 (.int .u64 0) := (HK.out.block w.heap.size (by simp) (by omega)).trans HBS.out
  have hB1 : Below w.heap.size w2 (w2.alloc (.cells #[.slice A 8 c] 24)) := ((Below.refl _ w2).alloc (Nat.le_refl _) _).mono (by omega)
  have hby1 : BytesAt (w2.alloc (.cells #[.slice A 8 c] 24)) w.heap.size A bs := (HBY.out.more (by omega)).keep hB1
  have bN := Boxed.new w2 24 (.slice A 8 c)
  have hcl2 : (w2.alloc (.cells #[.slice A 8 c] 24)).cell? ⟨w2.heap.size, 0, none⟩ = some (.slice A 8 c) := bN.cell
  have hst := back_stops Fence.wide (3 - 1) trivial hro (by omega) w2.heap.size w.heap.size A c bs (by have := HL.out; omega) (w2.alloc (.cells #[.slice A 8 c] 24)) (by simp) (by simp; omega) (by rw [HL.out]; exact hcl2) hby1
  refine wpIn_rangeFunc_ownG hro h1 (gf := 86) (lb := #[.pointer (some ⟨w2.heap.size, 0, none⟩)]) rfl trivial (enters_of Tryz.func86 (by kernel_rfl) rfl)
    hst (fun h k => h.trans k) (bk_b (by simp; omega) (by simp)) (Below.refl _ _) (fun _ => rfl)
    (fun pre W => Boxed W w.heap.size 207 (.int .u64 (unleU pre)) ∧ Below w.heap.size w2 W)
    (fun _ _ _ => False)
    (OwnFrom.and (Own.from (boxed_own _ _ _) _) (ownFrom_below (by omega) (by simp; omega)))
    (fun _ _ _ _ _ hs _ _ => hs)
    ⟨bS2.alloc _, hB1⟩
    (fun x => { tmps := #[pt rb, undef, .int .i64 0, .pointer (some ⟨w.heap.size, 0, none⟩), undef, Extern.Stop.cell x.2, pt rb, .slice A 8 c, .func (.func 86) #[] #[.pointer (some ⟨w2.heap.size, 0, none⟩)], .int .i64 (x.1 : Int), Extern.Stop.cell x.2, undef, undef, undef, undef, undef, undef, undef], defers := [] }) ?assign ?body ?done ?stop
  case assign =>
    intro l x W K hK
    gi_wp2
    exact hK
  case body =>
    rintro l pre ⟨xi, xc⟩ W ⟨hbx, hB⟩ _
    have hc := hbx.cell
    have hx1 : (xc.toNat : Int) < 256 := by have := xc.toNat_lt; omega
    have hx2 : (0 : Int) ≤ xc.toNat := by omega
    simp only [Extern.Stop.cell]
    have hf := hbx.frozen
    gi_wp2
    exact ⟨(KeepsOthers.setCell _ _ _).from _, ⟨(Below.refl w.heap.size W).setCell (p := ⟨w.heap.size, 0, none⟩) (Nat.le_refl _) _, World.cell?_setCell_other _ _ _ _ (by intro e; have := congrArg Addr.block e; simp only at this; omega)⟩, by rw [unleU_snoc]; exact hbx.set _, hB.setCell (p := ⟨w.heap.size, 0, none⟩) (Nat.le_refl _) _⟩
  case done =>
    rintro D ys W hD rfl ⟨hbx, hB⟩ hK
    have hc := hbx.cell
    gi_wp2
    refine ⟨by simp, .inl ⟨_, _, rfl, run_takeDeferred hK, ?_⟩⟩
    refine ⟨_, results_tmp rfl _ _ _, ?_⟩
    have hB2 := hB.trans (belowK_b (w := w2) (n₀ := w.heap.size) (by omega) W D _ (.deferred none) (by simp at hD; omega) hK rfl rfl)
    unfold SNumGot num8
    rw [HBS2.out]
    exact ⟨rfl, HRS.out.below hB2 hlt, mkeep_mix HB0.out HK.out hB2⟩
  case stop =>
    rintro D c pre W _ _ h _
    exact h.elim
end Go.Proofs.YtoljoigbepdeiaaGreatDoor
