/- (*letter.reader).number. -/
import Derived.Test.YthhbbebabmemfaaGreatBack
import Derived.Test.YthhbbebabmemfaaGreatReader
import Derived.BigQuiet
import Derived.Deep.AppendLies
import Derived.Deep.CutBlock
import Derived.Deep.DeepCutAuto
import Derived.Deep.DrawnRows
import Derived.Deep.MidRow
import Derived.Deep.QuietTactic
import Derived.Deep.RegionHeld3
import Derived.Deep.RegionLaw
import Derived.Deep.WholeRow
import Derived.Great.BuildSlice
import Derived.Laws.BytesString
import Derived.Laws.CopyOwn
import Derived.Laws.EntriesVeiled
import Derived.Laws.MakeOwn
import Derived.Laws.ResultCell
import Derived.Laws.Rows
import Derived.Laws.Tables
import Derived.Lib.Hide
import Derived.LoopIn
import Derived.LoopNIn
import Derived.Maps.AppendAt
import Derived.Outline
import Derived.OwnWalkIn
import Derived.RangeFuncBound
import Derived.RangeFuncBox
import Derived.RangeFuncCalls
import Derived.RangeFuncLeaves
import Derived.RangeFuncNested
import Derived.Shelf.Abstract
import Derived.Shelf.Bytes.SlSmallAll
import Derived.Shelf.RegionOpen
import Derived.StillTailTactics
import Derived.Stop.BytesEq
import Derived.TacticsInMore
import Derived.WalkKit
import Derived.WalkLawsBesides
import Derived.WalkSpells
namespace Go.Proofs.YthhbbebabmemfaaGreat
open Go Go.RowKit Go.Shelf
attribute [local go_sem] Oper.semAt_some

/-- n<<8 | int(c), as the program reckons it. -/
def rstep (s : Int) (c : UInt8) : Int := bits BinOp.or IntKind.i64 (wrap64 (s * 256)) c.toNat
def unle (l : List (Nat × UInt8)) : Int := l.foldl (fun s x => rstep s x.2) 0
theorem unle_snoc (pre : List (Nat × UInt8)) (x : Nat × UInt8) : unle (pre ++ [x]) = rstep (unle pre) x.2 := by simp [unle]

theorem RSt.below {M : Nat} {w w' : World} {N b B : Nat} {rest : List UInt8} {bad : Bool} (h : RSt w N b B rest bad) (hb : Below M w w') (hB : B ≤ N) (hN : N + 2 < M) : RSt w' N b B rest bad := by
  obtain ⟨A, c, hr, h1, h2, h3, h4⟩ := h
  exact ⟨A, c, ⟨(hb.block N (by omega)).trans hr.rest, (hb.block (N + 1) (by omega)).trans hr.rd, (hb.block (N + 2) (by omega)).trans hr.var⟩, h1, h2, h3.keep (hb.mono (by omega)), h4⟩
theorem rkeep_mix {N : Nat} {w w1 w2 W : World} (h0 : Below w.heap.size w w1) (hk : RKeep N w1 w2) (h2 : Below w.heap.size w2 W) : RKeep N w W :=
  ⟨h2.os.trans (hk.os.trans h0.os), h2.tape.trans (hk.tape.trans h0.tape), h2.output.trans (hk.output.trans h0.output), Nat.le_trans h0.size (Nat.le_trans hk.size h2.size),
   fun k hb h3 h4 => (h2.block k hb).trans ((hk.block k (Nat.lt_of_lt_of_le hb h0.size) h3 h4).trans (h0.block k hb))⟩
/-- What 'take' gives, what it leaves, and whether the reader has failed behind it. -/
def tkB (rest : List UInt8) (bad : Bool) (size : Nat) : Bool := bad || decide (rest.length < size)
def tk (rest : List UInt8) (bad : Bool) (size : Nat) : List UInt8 := if tkB rest bad size = true then [] else rest.take size
def tkR (rest : List UInt8) (bad : Bool) (size : Nat) : List UInt8 := if tkB rest bad size = true then rest else rest.drop size
theorem tk_le (rest : List UInt8) (bad : Bool) (size : Nat) : (tk rest bad size).length ≤ size := by unfold tk; split <;> simp; omega
theorem take_gen (w : World) (N b B : Nat) (rest : List UInt8) (bad : Bool) (size : Nat) (hB : B ≤ N) (hN : N < w.heap.size) (hr : RSt w N b B rest bad) :
    Calls Tryz.prog 44 #[I size, pt (N + 2), pt N] w fun e w' => ∃ A c, e = .returned (.slice A (tk rest bad size).length c) ∧ BytesAt w' B A (tk rest bad size) ∧ RSt w' N b B (tkR rest bad size) (tkB rest bad size) ∧ RKeep N w w' := by
  refine (take_any w N b B rest bad size hB hN hr).mono fun e w' h => ?_
  unfold TakePost at h
  by_cases ht : bad = true ∨ rest.length < size
  · rw [if_pos ht] at h
    have e1 : tkB rest bad size = true := by unfold tkB; simpa using ht
    have e2 : tk rest bad size = [] := by unfold tk; rw [if_pos e1]
    have e3 : tkR rest bad size = rest := by unfold tkR; rw [if_pos e1]
    rw [e1, e2, e3]
    exact ⟨none, 0, h.1, .inl rfl, h.2.1, h.2.2⟩
  · rw [if_neg ht] at h
    have e1 : tkB rest bad size = false := by unfold tkB; simpa using ht
    have e2 : tk rest bad size = rest.take size := by unfold tk; rw [e1]; simp
    have e3 : tkR rest bad size = rest.drop size := by unfold tkR; rw [e1]; simp
    have e4 : (rest.take size).length = size := by have := not_or.1 ht; simp; omega
    rw [e1, e2, e3, e4]
    obtain ⟨A, c, h1, _, _, h4, h5, h6⟩ := h
    exact ⟨A, c, h1, h4, h5, h6⟩
/-- The number that 'number(size)' reads. -/
def rdN (rest : List UInt8) (bad : Bool) (size : Nat) : Int := unle (upto (bk (tk rest bad size)) (tk rest bad size).length)
def NumGot (w : World) (N b B : Nat) (rest : List UInt8) (bad : Bool) (size : Nat) (e : Ending) (w' : World) : Prop :=
  e = .returned (I (rdN rest bad size)) ∧ RSt w' N b B (tkR rest bad size) (tkB rest bad size) ∧ RKeep N w w'

set_option maxRecDepth 100000 in
set_option maxHeartbeats 2000000 in
theorem rnumber_any (w : World) (N b B size : Nat) (rest : List UInt8) (bad : Bool) (hBN : B ≤ N) (hN : N + 2 < w.heap.size) (hr : RSt w N b B rest bad) (h8 : size ≤ 8) :
    Calls Tryz.prog 15 #[pt (N + 1), I size] w (NumGot w N b B rest bad size) := by
  refine (callsIn_wide (n := 3)).1 ?_
  have hro : Fence.wide.round = none := rfl
  have h1 : 1 ≤ 3 := by omega
  have hB0 : Below w.heap.size w (w.alloc (.cells #[.int .i64 0] 3)) := (Below.refl _ w).alloc (Nat.le_refl _) _
  have hr1 : RSt (w.alloc (.cells #[.int .i64 0] 3)) N b B rest bad := hr.below hB0 hBN hN
  have hf1 : (w.alloc (.cells #[.int .i64 0] 3)).cell? ⟨N + 1, 1, none⟩ = some (.func (.func 44) #[] #[pt (N + 2), pt N]) := by obtain ⟨A, c, h, _⟩ := hr1; exact cell_of_row _ (N + 1) 1 _ _ _ h.rd
  have bS := Boxed.new w 3 (.int .i64 0)
  have HT0 := take_gen (w.alloc (.cells #[.int .i64 0] 3)) N b B rest bad size hBN (by simp; omega) hr1
  obtain ⟨bs, hbs⟩ : ∃ bs, tk rest bad size = bs := ⟨_, rfl⟩
  have HL := Lib.hid (show bs.length ≤ size from hbs ▸ tk_le rest bad size)
  rw [hbs] at HT0
  have HBS2 := Lib.hid hbs
  have HT := Lib.hid HT0
  have HR := Lib.hid hr
  have HR1 := Lib.hid hr1
  have HB0 := Lib.hid hB0
  have HBS := Lib.hid bS
  clear hr hr1 hB0 bS HT0 hbs
  refine callsIn_of_wp_marks Tryz.func15 rfl trivial ?_ hro
  simp only [Tryz.ntmps15, List.size_toArray, List.length_cons, List.length_nil, Nat.reduceAdd, Nat.reduceSub, Array.replicate_succ, Array.replicate_zero, List.push_toArray, List.append_toArray, List.nil_append, List.cons_append]
  gi_wp2_with first
    | (refine ⟨trivial, ?_⟩; gi_at_call 44; refine (callsIn_wide.2 HT.out).mono ?_; rintro e w2 ⟨A, c, rfl, hby, hrs, hk⟩; have HBY := Lib.hid hby; have HRS := Lib.hid hrs; have HK := Lib.hid hk; clear hby hrs hk)
    | (refine ⟨trivial, ?_⟩; gi_at_call 46; refine (back_in Fence.wide 2 trivial hro _ _ _ _).mono ?_; rintro e w' ⟨rfl, rfl⟩)
  have hw2 : w.heap.size < w2.heap.size := Nat.lt_of_lt_of_le (by simp) HK.out.size
  have bS2 : Boxed w2 w.heap.size 3 (.int .i64 0) := (HK.out.block w.heap.size (by simp) (by omega) (by omega)).trans HBS.out
  have bN := Boxed.new w2 22 (.slice A bs.length c)
  have hB1 : Below w.heap.size w2 (w2.alloc (.cells #[.slice A bs.length c] 22)) := ((Below.refl _ w2).alloc (Nat.le_refl _) _).mono (by omega)
  have hby1 : BytesAt (w2.alloc (.cells #[.slice A bs.length c] 22)) w.heap.size A bs := (HBY.out.more (by omega)).keep hB1
  have hcl : (w2.alloc (.cells #[.slice A bs.length c] 22)).cell? ⟨w2.heap.size, 0, none⟩ = some (.slice A bs.length c) := bN.cell
  have hst := back_stops Fence.wide (3 - 1) trivial hro (by omega) w2.heap.size w.heap.size A c bs (by have := HL.out; omega) (w2.alloc (.cells #[.slice A bs.length c] 22)) (by simp) (by simp; omega) hcl hby1
  refine wpIn_rangeFunc_ownG hro h1 (gf := 62) (lb := #[.pointer (some ⟨w2.heap.size, 0, none⟩)]) rfl trivial (enters_of Tryz.func62 (by kernel_rfl) rfl)
    hst (fun h k => h.trans k) (bk_b (by simp; omega) (by simp)) (Below.refl _ _) (fun _ => rfl)
    (fun pre W => Boxed W w.heap.size 3 (I (unle pre)) ∧ Below w.heap.size w2 W)
    (fun _ _ _ => False)
    (OwnFrom.and (Own.from (boxed_own _ _ _) _) (ownFrom_below (by omega) (by simp; omega)))
    (fun _ _ _ _ _ hs _ _ => hs)
    ⟨bS2.alloc _, hB1⟩
    (fun x => { tmps := #[pt (N + 1), I size, undef, undef, .int .i64 0, .pointer (some ⟨w.heap.size, 0, none⟩), undef, Extern.Stop.cell x.2, pt (N + 1), .pointer (some ⟨N + 1, 0, none⟩), .pointer (some ⟨N + 1, 1, none⟩), .func (.func 44) #[] #[pt (N + 2), pt N], I size, .slice A bs.length c, .func (.func 62) #[] #[.pointer (some ⟨w2.heap.size, 0, none⟩)], .int .i64 (x.1 : Int), Extern.Stop.cell x.2, undef, undef, undef, undef, undef, undef], defers := [] }) ?assign ?body ?done ?stop
  case assign =>
    intro l x W K hK
    gi_wp2
    exact hK
  case body =>
    rintro l pre ⟨xi, xc⟩ W ⟨hbx, hB⟩ _
    have hc := hbx.cell
    have hx1 : (xc.toNat : Int) < 256 := by have := xc.toNat_lt; omega
    have hx2 : (0 : Int) ≤ xc.toNat := by omega
    simp only [Extern.Stop.cell]
    have hf := hbx.frozen
    gi_wp2
    exact ⟨(KeepsOthers.setCell _ _ _).from _, ⟨(Below.refl w.heap.size W).setCell (p := ⟨w.heap.size, 0, none⟩) (Nat.le_refl _) _, World.cell?_setCell_other _ _ _ _ (by intro e; have := congrArg Addr.block e; simp only at this; omega)⟩, by rw [unle_snoc]; exact hbx.set _, hB.setCell (p := ⟨w.heap.size, 0, none⟩) (Nat.le_refl _) _⟩
  case done =>
    rintro D ys W hD rfl ⟨hbx, hB⟩ hK
    have hc := hbx.cell
    gi_wp2
    refine ⟨by simp, .inl ⟨_, _, rfl, run_takeDeferred hK, ?_⟩⟩
    refine ⟨_, results_tmp rfl _ _ _, ?_⟩
    have hB2 := hB.trans (belowK_b (w := w2) (n₀ := w.heap.size) (by omega) W D _ (.deferred none) (by simp at hD; omega) hK rfl rfl)
    unfold NumGot rdN
    rw [HBS2.out]
    exact ⟨rfl, HRS.out.below hB2 hBN hN, rkeep_mix HB0.out HK.out hB2⟩
  case stop =>
    rintro D c pre W _ _ h _
    exact h.elim
end Go.Proofs.YthhbbebabmemfaaGreat
