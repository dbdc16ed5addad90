/- The texts RdL, RdI, RdT, RdW, RdV, RdC, RdG, RdO, RtQ, SvS, RfP, in this order. -/
import Derived.Test.YthhbbebabmemfaaGreatReadNum
import Derived.BigQuiet
import Derived.Deep.AppendLies
import Derived.Deep.CutBlock
import Derived.Deep.DeepCutAuto
import Derived.Deep.DrawnRows
import Derived.Deep.MidRow
import Derived.Deep.QuietTactic
import Derived.Deep.RegionHeld3
import Derived.Deep.RegionLaw
import Derived.Deep.WholeRow
import Derived.Defers
import Derived.Great.BuildSlice
import Derived.Laws.BitsAllLaws
import Derived.Laws.BytesArg
import Derived.Laws.BytesString
import Derived.Laws.CopyOwn
import Derived.Laws.Cover3
import Derived.Laws.EntriesVeiled
import Derived.Laws.MakeOwn
import Derived.Laws.ResultCell
import Derived.Laws.Rows
import Derived.Laws.Tables
import Derived.Lib.AppendStr
import Derived.Lib.ByteType
import Derived.Lib.Hide
import Derived.LoopIn
import Derived.LoopNIn
import Derived.MapKept
import Derived.Maps.AppendAt
import Derived.Outline
import Derived.OwnWalkIn
import Derived.RangeFuncBound
import Derived.RangeFuncBox
import Derived.RangeFuncCalls
import Derived.RangeFuncLeaves
import Derived.RangeFuncNested
import Derived.Recover
import Derived.Shelf.Abstract
import Derived.Shelf.Bytes.SlSmallAll
import Derived.Shelf.RegionOpen
import Derived.StillTailTactics
import Derived.Stop.BytesEq
import Derived.TacticsInMore
import Derived.WalkKit
import Derived.WalkLawsBesides
import Derived.WalkSpells
import Derived.Test.YthhbbebabmemfaaGreatG08
import Derived.Test.YthhbbebabmemfaaGreatReadI
import Derived.Test.YthhbbebabmemfaaGreatBytesD
import Derived.Test.YthhbbebabmemfaaGreatWriters3
import Derived.Test.YthhbbebabmemfaaGreatG01
import Derived.Test.YthhbbebabmemfaaGreatG05
import Derived.Test.YthhbbebabmemfaaGreatG07
import Derived.Laws.AppendOwnNone
import Derived.Test.YthhbbebabmemfaaGreatG06
/- The letter's reader: take, number, whatever the bytes' capacity (printed by gen_readerl.py from the texts Reader and ReadNum). -/
namespace Go.Proofs.YthhbbebabmemfaaGreat
open Go Go.RowKit Go.Shelf
attribute [local go_sem] Oper.semAt_some

set_option maxRecDepth 10000 in
set_option maxHeartbeats 1000000 in
theorem take_okL (w : World) (N b bb off n c size : Nat) (hr : RBlk w N b (some ⟨bb, off, none⟩) n c false) (hs : size ≤ n) (hn : n ≤ c) (_hc : c ≤ 9223372036854775807) (hne : c ≠ size) :
    Calls Tryz.prog 44 #[I size, pt (N + 2), pt N] w (takeGot N w (.slice (some ⟨bb, off, none⟩) size c) fun w' => RBlk w' N b (some ⟨bb, off + size, none⟩) (n - size) (c - size) false) := by
  have c0 : w.cell? ⟨N, 0, none⟩ = some (.slice (some ⟨bb, off, none⟩) n c) := cell_of_row w N 0 _ _ _ hr.rest
  have f0 := frozen_of_row w N 0 _ _ hr.rest
  have c1 : w.cell? ⟨N + 1, 2, none⟩ = some (.bool false) := cell_of_row w (N + 1) 2 _ _ _ hr.rd
  have f1 := frozen_of_row w (N + 1) 2 _ _ hr.rd
  have c2 : w.cell? ⟨N + 2, 0, none⟩ = some (pt (N + 1)) := cell_of_row w (N + 2) 0 _ _ _ hr.var
  have hd : decide ((n : Int) < (size : Int)) = false := decide_eq_false (by omega)
  have HR := Lib.hid hr
  clear hr
  go_enter Tryz.func44, Tryz.ntmps44
  go_wp2
  go_still_tail 13, (by kernel_rfl)
  go_wp2
  go_ret
  exact ⟨rfl, ((HR.out.setBad false).setRest).draw, (((RKeep.refl N w).set (p := ⟨N + 1, 2, none⟩) (.inr rfl) _).set (p := ⟨N, 0, none⟩) (.inl rfl) _).draw⟩
set_option maxRecDepth 10000 in
set_option maxHeartbeats 1000000 in
theorem take_allL (w : World) (N b bb off size : Nat) (hr : RBlk w N b (some ⟨bb, off, none⟩) size size false) (_hc : size ≤ 9223372036854775807) :
    Calls Tryz.prog 44 #[I size, pt (N + 2), pt N] w (takeGot N w (.slice (some ⟨bb, off, none⟩) size size) fun w' => RBlk w' N b (some ⟨bb, off, none⟩) 0 0 false) := by
  have c0 : w.cell? ⟨N, 0, none⟩ = some (.slice (some ⟨bb, off, none⟩) size size) := cell_of_row w N 0 _ _ _ hr.rest
  have f0 := frozen_of_row w N 0 _ _ hr.rest
  have c1 : w.cell? ⟨N + 1, 2, none⟩ = some (.bool false) := cell_of_row w (N + 1) 2 _ _ _ hr.rd
  have f1 := frozen_of_row w (N + 1) 2 _ _ hr.rd
  have c2 : w.cell? ⟨N + 2, 0, none⟩ = some (pt (N + 1)) := cell_of_row w (N + 2) 0 _ _ _ hr.var
  have hd : decide ((size : Int) < (size : Int)) = false := decide_eq_false (by omega)
  have HR := Lib.hid hr
  clear hr
  go_enter Tryz.func44, Tryz.ntmps44
  go_wp2
  go_still_tail 13, (by kernel_rfl)
  go_wp2
  go_ret
  exact ⟨rfl, ((HR.out.setBad false).setRest).draw, (((RKeep.refl N w).set (p := ⟨N + 1, 2, none⟩) (.inr rfl) _).set (p := ⟨N, 0, none⟩) (.inl rfl) _).draw⟩
/-- The reader: what is left to be read, and whether it has failed; the bytes lie below block B. -/
def RStL (w : World) (N b B : Nat) (rest : List UInt8) (bad : Bool) : Prop :=
  ∃ A c, RBlk w N b A rest.length c bad ∧ rest.length ≤ c ∧ c ≤ 9223372036854775807 ∧ BytesAt w B A rest ∧ (A = none → c = 0)
def TakePostL (w : World) (N b B : Nat) (rest : List UInt8) (bad : Bool) (size : Nat) (e : Ending) (w' : World) : Prop :=
  if bad = true ∨ rest.length < size then e = .returned (.slice none 0 0) ∧ RStL w' N b B rest true ∧ RKeep N w w'
  else ∃ A c, e = .returned (.slice A size c) ∧ size ≤ c ∧ c ≤ 9223372036854775807 ∧ BytesAt w' B A (rest.take size) ∧ RStL w' N b B (rest.drop size) false ∧ RKeep N w w'
theorem take_anyL (w : World) (N b B : Nat) (rest : List UInt8) (bad : Bool) (size : Nat) (hB : B ≤ N) (hN : N < w.heap.size) (hr : RStL w N b B rest bad) :
    Calls Tryz.prog 44 #[I size, pt (N + 2), pt N] w (TakePostL w N b B rest bad size) := by
  obtain ⟨A, c, hb, hc1, hc2, hby, hnil⟩ := hr
  by_cases hs : rest.length < size
  · have hpos : bad = true ∨ rest.length < size := .inr hs
    cases bad with
    | true => exact (take_bad w N b A _ c size hb).mono fun e w' ⟨he, hw, hk⟩ => by unfold TakePostL; rw [if_pos hpos]; exact ⟨he, ⟨A, c, hw, hc1, hc2, hby.rkeep hk hB hN, hnil⟩, hk⟩
    | false => exact (take_short w N b A _ c size hb (by omega)).mono fun e w' ⟨he, hw, hk⟩ => by unfold TakePostL; rw [if_pos hpos]; exact ⟨he, ⟨A, c, hw, hc1, hc2, hby.rkeep hk hB hN, hnil⟩, hk⟩
  · cases bad with
    | true => exact (take_bad w N b A _ c size hb).mono fun e w' ⟨he, hw, hk⟩ => by unfold TakePostL; rw [if_pos (.inl rfl)]; exact ⟨he, ⟨A, c, hw, hc1, hc2, hby.rkeep hk hB hN, hnil⟩, hk⟩
    | false =>
      have hneg : ¬ (false = true ∨ rest.length < size) := by simp [hs]
      have htl : (rest.take size).length = size := by simp; omega
      have hdl : (rest.drop size).length = rest.length - size := by simp
      cases A with
      | none =>
        have h0 : c = 0 := hnil rfl
        have hl0 : rest.length = 0 := by omega
        have hs0 : size = 0 := by omega
        subst h0 hs0
        have hr0 := List.eq_nil_of_length_eq_zero hl0
        subst hr0
        refine (take_nil w N b hb).mono fun e w' ⟨he, hw, hk⟩ => ?_
        unfold TakePostL
        rw [if_neg hneg]
        exact ⟨none, 0, he, Nat.le_refl _, by omega, .inl rfl, ⟨none, 0, hw, Nat.le_refl _, by omega, .inl rfl, fun _ => rfl⟩, hk⟩
      | some a =>
        by_cases h0 : rest.length = 0
        · have hs0 : size = 0 := by omega
          subst hs0
          have hr0 := List.eq_nil_of_length_eq_zero h0
          subst hr0
          refine (take_zero w N b a c hb).mono fun e w' ⟨he, hw, hk⟩ => ?_
          unfold TakePostL
          rw [if_neg hneg]
          exact ⟨some a, c, he, Nat.zero_le _, hc2, .inl rfl, ⟨some a, c, hw, Nat.zero_le _, hc2, .inl rfl, fun h => by cases h⟩, hk⟩
        · rcases hby with h | ⟨bb, off, e, hbB, hcl⟩
          · exact absurd h h0
          · injection e with e
            subst e
            have got : ∀ w', RKeep N w w' → BytesAt w' B (some ⟨bb, off, none⟩) (rest.take size) := fun w' hk =>
              BytesAt.rkeep (.inr ⟨bb, off, rfl, hbB, fun j hj => by rw [hcl j (by omega)]; rw [List.getElem?_take_of_lt (by omega)]⟩) hk hB hN
            by_cases hcs : c = size
            · have hls : rest.length = size := by omega
              subst hcs
              rw [hls] at hb
              refine (take_allL w N b bb off c hb hc2).mono fun e w' ⟨he, hw, hk⟩ => ?_
              unfold TakePostL
              rw [if_neg hneg]
              have hd0 : (rest.drop c).length = 0 := by omega
              exact ⟨_, c, he, Nat.le_refl _, hc2, got w' hk, ⟨some ⟨bb, off, none⟩, 0, by rw [hd0]; exact hw, by omega, by omega, .inl hd0, fun h => by cases h⟩, hk⟩
            · refine (take_okL w N b bb off _ c size hb (by omega) hc1 hc2 hcs).mono fun e w' ⟨he, hw, hk⟩ => ?_
              unfold TakePostL
              rw [if_neg hneg]
              refine ⟨_, c, he, by omega, hc2, got w' hk, ⟨some ⟨bb, off + size, none⟩, c - size, by rw [hdl]; exact hw, by omega, by omega, ?_, fun h => by cases h⟩, hk⟩
              exact BytesAt.rkeep (.inr ⟨bb, off + size, rfl, hbB, fun j hj => by rw [show off + size + j = off + (size + j) by omega, hcl (size + j) (by omega), List.getElem?_drop]⟩) hk hB hN
theorem RStL.below {M : Nat} {w w' : World} {N b B : Nat} {rest : List UInt8} {bad : Bool} (h : RStL w N b B rest bad) (hb : Below M w w') (hB : B ≤ N) (hN : N + 2 < M) : RStL w' N b B rest bad := by
  obtain ⟨A, c, hr, h1, h2, h3, h4⟩ := h
  exact ⟨A, c, ⟨(hb.block N (by omega)).trans hr.rest, (hb.block (N + 1) (by omega)).trans hr.rd, (hb.block (N + 2) (by omega)).trans hr.var⟩, h1, h2, h3.keep (hb.mono (by omega)), h4⟩
theorem take_genL (w : World) (N b B : Nat) (rest : List UInt8) (bad : Bool) (size : Nat) (hB : B ≤ N) (hN : N < w.heap.size) (hr : RStL w N b B rest bad) :
    Calls Tryz.prog 44 #[I size, pt (N + 2), pt N] w fun e w' => ∃ A c, e = .returned (.slice A (tk rest bad size).length c) ∧ BytesAt w' B A (tk rest bad size) ∧ RStL w' N b B (tkR rest bad size) (tkB rest bad size) ∧ RKeep N w w' := by
  refine (take_anyL w N b B rest bad size hB hN hr).mono fun e w' h => ?_
  unfold TakePostL at h
  by_cases ht : bad = true ∨ rest.length < size
  · rw [if_pos ht] at h
    have e1 : tkB rest bad size = true := by unfold tkB; simpa using ht
    have e2 : tk rest bad size = [] := by unfold tk; rw [if_pos e1]
    have e3 : tkR rest bad size = rest := by unfold tkR; rw [if_pos e1]
    rw [e1, e2, e3]
    exact ⟨none, 0, h.1, .inl rfl, h.2.1, h.2.2⟩
  · rw [if_neg ht] at h
    have e1 : tkB rest bad size = false := by unfold tkB; simpa using ht
    have e2 : tk rest bad size = rest.take size := by unfold tk; rw [e1]; simp
    have e3 : tkR rest bad size = rest.drop size := by unfold tkR; rw [e1]; simp
    have e4 : (rest.take size).length = size := by have := not_or.1 ht; simp; omega
    rw [e1, e2, e3, e4]
    obtain ⟨A, c, h1, _, _, h4, h5, h6⟩ := h
    exact ⟨A, c, h1, h4, h5, h6⟩
def NumGotL (w : World) (N b B : Nat) (rest : List UInt8) (bad : Bool) (size : Nat) (e : Ending) (w' : World) : Prop :=
  e = .returned (I (rdN rest bad size)) ∧ RStL w' N b B (tkR rest bad size) (tkB rest bad size) ∧ RKeep N w w'
set_option maxRecDepth 100000 in
set_option maxHeartbeats 2000000 in
theorem rnumber_anyL (w : World) (N b B size : Nat) (rest : List UInt8) (bad : Bool) (hBN : B ≤ N) (hN : N + 2 < w.heap.size) (hr : RStL w N b B rest bad) (h8 : size ≤ 8) :
    Calls Tryz.prog 15 #[pt (N + 1), I size] w (NumGotL w N b B rest bad size) := by
  refine (callsIn_wide (n := 3)).1 ?_
  have hro : Fence.wide.round = none := rfl
  have h1 : 1 ≤ 3 := by omega
  have hB0 : Below w.heap.size w (w.alloc (.cells #[.int .i64 0] 3)) := (Below.refl _ w).alloc (Nat.le_refl _) _
  have hr1 : RStL (w.alloc (.cells #[.int .i64 0] 3)) N b B rest bad := hr.below hB0 hBN hN
  have hf1 : (w.alloc (.cells #[.int .i64 0] 3)).cell? ⟨N + 1, 1, none⟩ = some (.func (.func 44) #[] #[pt (N + 2), pt N]) := by obtain ⟨A, c, h, _⟩ := hr1; exact cell_of_row _ (N + 1) 1 _ _ _ h.rd
  have bS := Boxed.new w 3 (.int .i64 0)
  have HT0 := take_genL (w.alloc (.cells #[.int .i64 0] 3)) N b B rest bad size hBN (by simp; omega) hr1
  obtain ⟨bs, hbs⟩ : ∃ bs, tk rest bad size = bs := ⟨_, rfl⟩
  have HL := Lib.hid (show bs.length ≤ size from hbs ▸ tk_le rest bad size)
  rw [hbs] at HT0
  have HBS2 := Lib.hid hbs
  have HT := Lib.hid HT0
  have HR := Lib.hid hr
  have HR1 := Lib.hid hr1
  have HB0 := Lib.hid hB0
  have HBS := Lib.hid bS
  clear hr hr1 hB0 bS HT0 hbs
  refine callsIn_of_wp_marks Tryz.func15 rfl trivial ?_ hro
  simp only [Tryz.ntmps15, List.size_toArray, List.length_cons, List.length_nil, Nat.reduceAdd, Nat.reduceSub, Array.replicate_succ, Array.replicate_zero, List.push_toArray, List.append_toArray, List.nil_append, List.cons_append]
  gi_wp2_with first
    | (refine ⟨trivial, ?_⟩; gi_at_call 44; refine (callsIn_wide.2 HT.out).mono ?_; rintro e w2 ⟨A, c, rfl, hby, hrs, hk⟩; have HBY := Lib.hid hby; have HRS := Lib.hid hrs; have HK := Lib.hid hk; clear hby hrs hk)
    | (refine ⟨trivial, ?_⟩; gi_at_call 46; refine (back_in Fence.wide 2 trivial hro _ _ _ _).mono ?_; rintro e w' ⟨rfl, rfl⟩)
  have hw2 : w.heap.size < w2.heap.size := Nat.lt_of_lt_of_le (by simp) HK.out.size
  have bS2 : Boxed w2 w.heap.size 3 (.int .i64 0) := (HK.out.block w.heap.size (by simp) (by omega) (by omega)).trans HBS.out
  have bN := Boxed.new w2 22 (.slice A bs.length c)
  have hB1 : Below w.heap.size w2 (w2.alloc (.cells #[.slice A bs.length c] 22)) := ((Below.refl _ w2).alloc (Nat.le_refl _) _).mono (by omega)
  have hby1 : BytesAt (w2.alloc (.cells #[.slice A bs.length c] 22)) w.heap.size A bs := (HBY.out.more (by omega)).keep hB1
  have hcl : (w2.alloc (.cells #[.slice A bs.length c] 22)).cell? ⟨w2.heap.size, 0, none⟩ = some (.slice A bs.length c) := bN.cell
  have hst := back_stops Fence.wide (3 - 1) trivial hro (by omega) w2.heap.size w.heap.size A c bs (by have := HL.out; omega) (w2.alloc (.cells #[.slice A bs.length c] 22)) (by simp) (by simp; omega) hcl hby1
  refine wpIn_rangeFunc_ownG hro h1 (gf := 62) (lb := #[.pointer (some ⟨w2.heap.size, 0, none⟩)]) rfl trivial (enters_of Tryz.func62 (by kernel_rfl) rfl)
    hst (fun h k => h.trans k) (bk_b (by simp; omega) (by simp)) (Below.refl _ _) (fun _ => rfl)
    (fun pre W => Boxed W w.heap.size 3 (I (unle pre)) ∧ Below w.heap.size w2 W)
    (fun _ _ _ => False)
    (OwnFrom.and (Own.from (boxed_own _ _ _) _) (ownFrom_below (by omega) (by simp; omega)))
    (fun _ _ _ _ _ hs _ _ => hs)
    ⟨bS2.alloc _, hB1⟩
    (fun x => { tmps := #[pt (N + 1), I size, undef, undef, .int .i64 0, .pointer (some ⟨w.heap.size, 0, none⟩), undef, Extern.Stop.cell x.2, pt (N + 1), .pointer (some ⟨N + 1, 0, none⟩), .pointer (some ⟨N + 1, 1, none⟩), .func (.func 44) #[] #[pt (N + 2), pt N], I size, .slice A bs.length c, .func (.func 62) #[] #[.pointer (some ⟨w2.heap.size, 0, none⟩)], .int .i64 (x.1 : Int), Extern.Stop.cell x.2, undef, undef, undef, undef, undef, undef], defers := [] }) ?assign ?body ?done ?stop
  case assign =>
    intro l x W K hK
    gi_wp2
    exact hK
  case body =>
    rintro l pre ⟨xi, xc⟩ W ⟨hbx, hB⟩ _
    have hc := hbx.cell
    have hx1 : (xc.toNat : Int) < 256 := by have := xc.toNat_lt; omega
    have hx2 : (0 : Int) ≤ xc.toNat := by omega
    simp only [Extern.Stop.cell]
    have hf := hbx.frozen
    gi_wp2
    exact ⟨(KeepsOthers.setCell _ _ _).from _, ⟨(Below.refl w.heap.size W).setCell (p := ⟨w.heap.size, 0, none⟩) (Nat.le_refl _) _, World.cell?_setCell_other _ _ _ _ (by intro e; have := congrArg Addr.block e; simp only at this; omega)⟩, by rw [unle_snoc]; exact hbx.set _, hB.setCell (p := ⟨w.heap.size, 0, none⟩) (Nat.le_refl _) _⟩
  case done =>
    rintro D ys W hD rfl ⟨hbx, hB⟩ hK
    have hc := hbx.cell
    gi_wp2
    refine ⟨by simp, .inl ⟨_, _, rfl, run_takeDeferred hK, ?_⟩⟩
    refine ⟨_, results_tmp rfl _ _ _, ?_⟩
    have hB2 := hB.trans (belowK_b (w := w2) (n₀ := w.heap.size) (by omega) W D _ (.deferred none) (by simp at hD; omega) hK rfl rfl)
    unfold NumGotL rdN
    rw [HBS2.out]
    exact ⟨rfl, HRS.out.below hB2 hBN hN, rkeep_mix HB0.out HK.out hB2⟩
  case stop =>
    rintro D c pre W _ _ h _
    exact h.elim
end Go.Proofs.YthhbbebabmemfaaGreat

/- letter.Read of known bytes: the letter under way, its slices' addresses with it. -/
namespace Go.Proofs.YthhbbebabmemfaaGreat
open Go Go.RowKit

/-- The letter under way in the variable, the reader that has not failed, what has not been touched, and the memory behind the reader, as it was in wm. -/
structure LIn (w wm w' : World) (l : Lt) (s : Sl) (rest : List UInt8) : Prop where
  blk : w'.heap[w.heap.size + 1]? = some (.cells (ltVal l s) 37 (0, 0))
  st : RStL w' (w.heap.size + 2) (w.heap.size + 1) w.heap.size rest false
  res : w'.heap[w.heap.size]? = some (.cells (ltVal zLt zSl) 37 (0, 0))
  lo : Below w.heap.size w w'
  sz : w.heap.size + 4 < w'.heap.size
  msz : wm.heap.size ≤ w'.heap.size
  mem : ∀ k, w.heap.size + 5 ≤ k → k < wm.heap.size → w'.heap[k]? = wm.heap[k]?
section
variable {x : Int} {n : Nat} {w wm w1 w2 : World} {l l' : Lt} {s s' : Sl} {rest R : List UInt8}
theorem LIn.row (h : LIn w wm w1 l s rest) : Row w1 (w.heap.size + 1) (ltVal l s) := Row.of_blk h.blk
theorem LIn.froz (h : LIn w wm w1 l s rest) (i : Nat) : w1.frozen? ⟨w.heap.size + 1, i, none⟩ = false := frozen_of_row w1 (w.heap.size + 1) i _ _ h.blk
theorem LIn.grow (h : LIn w wm w1 l s rest) (hb : Below w1.heap.size w1 w2) : LIn w wm w2 l s rest :=
  have hs := h.sz
  ⟨(hb.block _ (by omega)).trans h.blk, h.st.below hb (by omega) (by omega), (hb.block _ (by omega)).trans h.res, below_trans h.lo hb, Nat.lt_of_lt_of_le h.sz hb.size, Nat.le_trans h.msz hb.size, fun k h1 h2 => (hb.block k (Nat.lt_of_lt_of_le h2 h.msz)).trans (h.mem k h1 h2)⟩
theorem LIn.read (h : LIn w wm w1 l s rest) (hr : RStL w2 (w.heap.size + 2) (w.heap.size + 1) w.heap.size R false) (h3 : RKeep (w.heap.size + 2) w1 w2) : LIn w wm w2 l s R := by
  have hs := h.sz
  refine ⟨(h3.block _ (by omega) (by omega) (by omega)).trans h.blk, hr, (h3.block _ (by omega) (by omega) (by omega)).trans h.res, ?_, Nat.lt_of_lt_of_le h.sz h3.size, Nat.le_trans h.msz h3.size, fun k h1 h2 => (h3.block k (Nat.lt_of_lt_of_le h2 h.msz) (by omega) (by omega)).trans (h.mem k h1 h2)⟩
  exact ⟨h3.os.trans h.lo.os, h3.tape.trans h.lo.tape, h3.output.trans h.lo.output, Nat.le_trans h.lo.size h3.size, fun k hk => (h3.block k (by omega) (by omega) (by omega)).trans (h.lo.block k hk)⟩
/-- A number of n bytes that were written with le. -/
theorem LIn.number (h : LIn w wm w1 l s (le x n ++ R)) (h8 : n ≤ 8) (hv : rdN (le x n ++ R) false n = x) :
    Calls Tryz.prog 15 #[pt (w.heap.size + 3), I n] w1 fun e w2 => e = .returned (I x) ∧ LIn w wm w2 l s R :=
  (rnumber_anyL w1 (w.heap.size + 2) (w.heap.size + 1) w.heap.size n _ false (by omega) (by have := h.sz; omega) h.st h8).mono fun e w2 ⟨h1, h2, h3⟩ => by
    rw [hv] at h1
    rw [(tk_le' x n R).2.1, (tk_le' x n R).2.2] at h2
    exact ⟨h1, h.read h2 h3⟩
theorem LIn.number8 (h : LIn w wm w1 l s (le x 8 ++ R)) (hx : fits x) : Calls Tryz.prog 15 #[pt (w.heap.size + 3), I 8] w1 fun e w2 => e = .returned (I x) ∧ LIn w wm w2 l s R :=
  h.number (by omega) (rdN_8 x hx R)
theorem LIn.number4 (h : LIn w wm w1 l s (le x 4 ++ R)) (h0 : 0 ≤ x) (h1 : x < 4294967296) : Calls Tryz.prog 15 #[pt (w.heap.size + 3), I 4] w1 fun e w2 => e = .returned (I x) ∧ LIn w wm w2 l s R :=
  h.number (by omega) (rdN_4 x h0 h1 R)
theorem LIn.number1 (h : LIn w wm w1 l s (le x 1 ++ R)) (h0 : 0 ≤ x) (h1 : x < 256) : Calls Tryz.prog 15 #[pt (w.heap.size + 3), I 1] w1 fun e w2 => e = .returned (I x) ∧ LIn w wm w2 l s R :=
  h.number (by omega) (rdN_1 x h0 h1 R)
theorem LIn.store (h : LIn w wm w1 l s rest) {o : Nat} {v : Value} (hl : ltVal l' s' = (ltVal l s).setIfInBounds o v) : LIn w wm (w1.setCell ⟨w.heap.size + 1, o, none⟩ v) l' s' rest := by
  have hs := h.sz
  have hb : Below (w.heap.size + 1) w1 (w1.setCell ⟨w.heap.size + 1, o, none⟩ v) := (Below.refl _ w1).setCell (p := ⟨w.heap.size + 1, o, none⟩) (Nat.le_refl _) _
  refine ⟨?_, ?_, (hb.block _ (by omega)).trans h.res, h.lo.trans (hb.mono (by omega)), Nat.lt_of_lt_of_le h.sz hb.size, Nat.le_trans h.msz hb.size, fun k h1 h2 => (heap_setCell_other w1 _ k _ (by show k ≠ w.heap.size + 1; omega)).trans (h.mem k h1 h2)⟩
  · rw [heap_setCell_same w1 _ o _ _ _ h.blk, hl]
  · obtain ⟨A, c, hr, h1, h2, h3, h4⟩ := h.st
    exact ⟨A, c, ⟨(heap_setCell_other w1 _ _ _ (by simp)).trans hr.rest, (heap_setCell_other w1 _ _ _ (by simp)).trans hr.rd, (heap_setCell_other w1 _ _ _ (by simp)).trans hr.var⟩, h1, h2, h3.keep (hb.mono (by omega)), h4⟩
theorem LIn.draw (h : LIn w wm w1 l s rest) : LIn w wm w1.drew l s rest :=
  ⟨h.blk, by obtain ⟨A, c, hr, h1, h2, h3, h4⟩ := h.st; exact ⟨A, c, hr.draw, h1, h2, h3, h4⟩, h.res, ⟨h.lo.os, h.lo.tape, h.lo.output, h.lo.size, h.lo.block⟩, h.sz, h.msz, h.mem⟩
/-- The memory behind the reader, seen from here on. -/
theorem LIn.rebase (h : LIn w wm w1 l s rest) : LIn w w1 w1 l s rest := ⟨h.blk, h.st, h.res, h.lo, h.sz, Nat.le_refl _, fun _ _ _ => rfl⟩
end
end Go.Proofs.YthhbbebabmemfaaGreat

/- letter.Read of known bytes: take, a change of the letter's block, the letter whose fields below k are read, the bytes from field k on. -/
namespace Go.Proofs.YthhbbebabmemfaaGreat
open Go Go.RowKit

theorem BytesAt.via {w w1 w2 : World} {B : Nat} {A : Option Addr} {bs : List UInt8} (h : BytesAt w1 B A bs) (h1 : Below B w w1) (h2 : Below B w w2) : BytesAt w2 B A bs := by
  rcases h with h | ⟨b, off, hA, hb, hc⟩
  · exact .inl h
  · exact .inr ⟨b, off, hA, hb, fun j hj => ((h2.cell (p := ⟨b, off + j, none⟩) hb).trans (h1.cell (p := ⟨b, off + j, none⟩) hb).symm).trans (hc j hj)⟩
section
variable {n : Nat} {w wm w1 w2 : World} {l l' : Lt} {s s' : Sl} {xs rest R : List UInt8}
theorem LIn.fn (h : LIn w wm w1 l s rest) : w1.cell? ⟨w.heap.size + 3, 1, none⟩ = some (.func (.func 44) #[] #[pt (w.heap.size + 4), pt (w.heap.size + 2)]) := by
  obtain ⟨A, c, hr, _⟩ := h.st
  exact cell_of_row w1 _ 1 _ _ _ hr.rd
theorem LIn.fine (h : LIn w wm w1 l s rest) : w1.cell? ⟨w.heap.size + 3, 2, none⟩ = some (.bool false) := by
  obtain ⟨A, c, hr, _⟩ := h.st
  exact cell_of_row w1 _ 2 _ _ _ hr.rd
theorem LIn.rfroz (h : LIn w wm w1 l s rest) (i : Nat) : w1.frozen? ⟨w.heap.size + 3, i, none⟩ = false := by
  obtain ⟨A, c, hr, _⟩ := h.st
  exact frozen_of_row w1 _ i _ _ hr.rd
theorem LIn.take (h : LIn w wm w1 l s (xs ++ R)) (hn : xs.length = n) :
    Calls Tryz.prog 44 #[I n, pt (w.heap.size + 4), pt (w.heap.size + 2)] w1 fun e w2 => ∃ A c, e = .returned (.slice A n c) ∧ n ≤ c ∧ c ≤ 9223372036854775807 ∧ BytesAt w2 w.heap.size A xs ∧ LIn w wm w2 l s R :=
  (take_anyL w1 (w.heap.size + 2) (w.heap.size + 1) w.heap.size (xs ++ R) false n (by omega) (by have := h.sz; omega) h.st).mono fun e w2 hp => by
    unfold TakePostL at hp
    rw [if_neg (by simp; omega)] at hp
    obtain ⟨A, c, h1, h2, h3, h4, h5, h6⟩ := hp
    rw [show (xs ++ R).take n = xs by subst hn; simp] at h4
    rw [show (xs ++ R).drop n = R by subst hn; simp] at h5
    exact ⟨A, c, h1, h2, h3, h4, h.read h5 h6⟩
/-- The letter's block has changed, and memory that is younger than wm. -/
theorem LIn.turn (h : LIn w wm w1 l s rest) (hb : w2.heap[w.heap.size + 1]? = some (.cells (ltVal l' s') 37 (0, 0))) (ho : w2.os = w1.os) (ht : w2.tape = w1.tape) (hu : w2.output = w1.output) (hs : w1.heap.size ≤ w2.heap.size)
    (hk : ∀ k, k < wm.heap.size ∨ k < w.heap.size + 5 → k ≠ w.heap.size + 1 → w2.heap[k]? = w1.heap[k]?) : LIn w wm w2 l' s' rest := by
  have hlo : Below w.heap.size w1 w2 := ⟨ho, ht, hu, hs, fun k h1 => hk k (.inr (by omega)) (by omega)⟩
  refine ⟨hb, ?_, (hk _ (.inr (by omega)) (by omega)).trans h.res, h.lo.trans hlo, Nat.lt_of_lt_of_le h.sz hs, Nat.le_trans h.msz hs, fun k h1 h2 => (hk k (.inl h2) (by omega)).trans (h.mem k h1 h2)⟩
  obtain ⟨A, c, hr, h1, h2, h3, h4⟩ := h.st
  exact ⟨A, c, ⟨(hk _ (.inr (by omega)) (by omega)).trans hr.rest, (hk _ (.inr (by omega)) (by omega)).trans hr.rd, (hk _ (.inr (by omega)) (by omega)).trans hr.var⟩, h1, h2, h3.keep hlo, h4⟩
theorem LIn.setRow (h : LIn w wm w1 l s rest) : LIn w wm (w1.setRow (w.heap.size + 1) (ltVal l' s')) l' s' rest :=
  h.turn (setRow_heap _ _ _ _ _ _ h.blk) rfl rfl rfl (by simp [World.setRow]) fun k _ h2 => setRow_other _ _ k _ h2
theorem LIn.setFine (h : LIn w wm w1 l s rest) : LIn w wm (w1.setCell ⟨w.heap.size + 3, 2, none⟩ (.bool false)) l s rest := by
  have hs := h.sz
  obtain ⟨A, c, hr, h1, h2, h3, h4⟩ := h.st
  have hlo : Below w.heap.size w1 (w1.setCell ⟨w.heap.size + 3, 2, none⟩ (.bool false)) := (Below.refl _ w1).setCell (p := ⟨w.heap.size + 3, 2, none⟩) (by show w.heap.size ≤ w.heap.size + 3; omega) _
  exact ⟨(heap_setCell_other w1 _ _ _ (by simp)).trans h.blk, ⟨A, c, hr.setBad false, h1, h2, h3.keep hlo, h4⟩, (heap_setCell_other w1 _ _ _ (by simp)).trans h.res, h.lo.trans hlo, Nat.lt_of_lt_of_le h.sz hlo.size, Nat.le_trans h.msz hlo.size,
    fun k h5 h6 => (heap_setCell_other w1 _ k _ (by show k ≠ w.heap.size + 3; omega)).trans (h.mem k h5 h6)⟩
end
/-- The fields of L below k, the others zero. -/
def lowTo (L : Lt) (k : Nat) : Lt :=
  ⟨L.kind, L.src, L.dst, if 0 < k then L.meeting else 0, if 1 < k then L.edition else 0, if 2 < k then L.issuer else 0, if 3 < k then L.version else 0, if 4 < k then L.person else 0, if 5 < k then L.other else 0, if 6 < k then L.resource else 0, if 7 < k then L.scope else 0, if 8 < k then L.day else 0,
    if 9 < k then L.move else zMv, if 10 < k then L.series else zSer, if 11 < k then L.deadline else 0, if 12 < k then L.state else 0, if 13 < k then L.grain else 0, if 14 < k then L.wfrom else 0, if 14 < k then L.wto else 0, if 15 < k then L.cells else [], if 16 < k then L.ref else List.replicate 32 0⟩
theorem lowTo_kind (L : Lt) (k : Nat) : (lowTo L k).kind = L.kind := rfl
theorem lowTo_ref (L : Lt) (k : Nat) (h : L.ref.length = 32) : (lowTo L k).ref.length = 32 := by
  unfold lowTo
  dsimp only
  split
  · exact h
  · simp
theorem lowTo_num (L : Lt) (k : Nat) (hk : k < 17) (h : (numOff k).isSome = true) : setNum (lowTo L k) k (numF L k) = lowTo L (k + 1) :=
  all17 (p := fun k => (numOff k).isSome = true → setNum (lowTo L k) k (numF L k) = lowTo L (k + 1)) (by refine ⟨?_, ?_, ?_, ?_, ?_, ?_, ?_, ?_, ?_, ?_, ?_, ?_, ?_, ?_, ?_, ?_, ?_⟩ <;> (intro h; first | (cases h; done) | simp [lowTo, setNum, numF])) k hk h
theorem lowTo_9 (L : Lt) : { lowTo L 9 with move := L.move } = lowTo L 10 := by simp [lowTo]
theorem lowTo_10 (L : Lt) : { lowTo L 10 with series := L.series } = lowTo L 11 := by simp [lowTo]
theorem lowTo_14 (L : Lt) : { lowTo L 14 with wfrom := L.wfrom, wto := L.wto } = lowTo L 15 := by simp [lowTo]
theorem lowTo_15 (L : Lt) : { lowTo L 15 with cells := L.cells } = lowTo L 16 := by simp [lowTo]
theorem lowTo_16 (L : Lt) : { lowTo L 16 with ref := L.ref } = lowTo L 17 := by simp [lowTo]
theorem lowTo_17 (L : Lt) : lowTo L 17 = L := by simp [lowTo]
/-- A field that is zero. -/
def FldZ (L : Lt) (k : Nat) : Prop :=
  if (numOff k).isSome = true then numF L k = 0 else if k = 9 then L.move = zMv else if k = 10 then L.series = zSer else if k = 14 then L.wfrom = 0 ∧ L.wto = 0 else if k = 15 then L.cells = [] else L.ref = List.replicate 32 0
theorem lowTo_skip (L : Lt) (k : Nat) (hk : k < 17) (h : FldZ L k) : lowTo L k = lowTo L (k + 1) :=
  all17 (p := fun k => FldZ L k → lowTo L k = lowTo L (k + 1)) (by refine ⟨?_, ?_, ?_, ?_, ?_, ?_, ?_, ?_, ?_, ?_, ?_, ?_, ?_, ?_, ?_, ?_, ?_⟩ <;> (intro h; simp [FldZ, numOff, numF] at h; simp [lowTo, h])) k hk h
theorem ser_zero {se : Ser} (h : noSer se.rule.length se.moves.length se = true) : se = zSer := by
  unfold noSer at h
  obtain ⟨h1, h2, h3, h4, h5⟩ := of_decide_eq_true h
  obtain ⟨r, mi, le, zo, ga, fo, mo⟩ := se
  simp only at h1 h2 h3 h4 h5
  have e1 : r = [] := List.eq_nil_of_length_eq_zero (by omega)
  have e2 : mo = [] := List.eq_nil_of_length_eq_zero (by omega)
  have e3 : zo = ByteArray.empty := by
    have : zo.size = 0 := by omega
    obtain ⟨d⟩ := zo
    have h : d.size = 0 := this
    rw [Array.size_eq_zero_iff] at h
    subst h; rfl
  subst e1 e2 e3 h2 h3 h4 h5
  rfl
theorem mv_zero {m : Mv} (h : mvZ m = true) : m = zMv := by
  unfold mvZ at h
  simp only [Bool.and_eq_true, decide_eq_true_eq, beq_iff_eq] at h
  obtain ⟨d, r, t, n, l⟩ := m
  simp only at h
  obtain ⟨⟨⟨⟨h1, h2⟩, h3⟩, h4⟩, h5⟩ := h
  subst h1 h2 h3 h4 h5
  rfl
/-- What a valid letter does not use is zero. -/
theorem body_unused {L : Lt} (hb : bodyOK L = true) (k : Nat) (hk : k < 17) (hu : usesB L.kind k = false) : FldZ L k := by
  unfold bodyOK at hb
  rw [Bool.and_eq_true] at hb
  obtain ⟨hn, ho⟩ := hb
  unfold vNums at hn
  rw [Bool.and_eq_true, List.all_eq_true] at hn
  unfold oth vOthers at ho
  simp only [Bool.and_eq_true] at ho
  have hz := ho.1.1.1.1
  unfold zerosOK at hz
  rw [List.all_eq_true] at hz
  unfold FldZ
  split
  · rename_i hs
    have h := hn.1 k (List.mem_range.2 hk)
    unfold numOK numLow numHigh at h
    obtain ⟨o, hof⟩ := Option.isSome_iff_exists.1 hs
    rw [hof, hu] at h
    simp only [Option.isNone_some, Bool.false_or, Bool.and_eq_true, decide_eq_true_eq, Bool.false_and] at h
    obtain ⟨h1, h2⟩ := h
    rw [if_neg (by decide)] at h1 h2
    omega
  · split
    · rename_i e; subst e
      have h := hz 0 (List.mem_range.2 (by omega))
      change (usesB L.kind ((9 : Nat) : Int) || mvZ L.move) = true at h
      rw [hu, Bool.false_or] at h
      exact mv_zero h
    · split
      · rename_i e; subst e
        have h := hz 1 (List.mem_range.2 (by omega))
        change (usesB L.kind ((10 : Nat) : Int) || nzOf L) = true at h
        rw [hu, Bool.false_or] at h
        exact ser_zero h
      · split
        · rename_i e; subst e
          have h := hz 2 (List.mem_range.2 (by omega))
          change (usesB L.kind ((14 : Nat) : Int) || (decide (L.wfrom = 0) && decide (L.wto = 0))) = true at h
          rw [hu, Bool.false_or, Bool.and_eq_true] at h
          exact ⟨of_decide_eq_true h.1, of_decide_eq_true h.2⟩
        · split
          · rename_i e; subst e
            have h := hz 3 (List.mem_range.2 (by omega))
            change (usesB L.kind ((15 : Nat) : Int) || ((L.cells.length : Int) == 0)) = true at h
            rw [hu, Bool.false_or, beq_iff_eq] at h
            exact List.eq_nil_of_length_eq_zero (by omega)
          · rename_i hs h9 h10 h14 h15
            have e : k = 16 := by
              exact all17 (p := fun k => ¬ (numOff k).isSome = true → ¬ k = 9 → ¬ k = 10 → ¬ k = 14 → ¬ k = 15 → k = 16) (by refine ⟨?_, ?_, ?_, ?_, ?_, ?_, ?_, ?_, ?_, ?_, ?_, ?_, ?_, ?_, ?_, ?_, ?_⟩ <;> (intro a b c d f; first | omega | exact absurd rfl a)) k hk hs h9 h10 h14 h15
            subst e
            have h := hz 4 (List.mem_range.2 (by omega))
            change (usesB L.kind ((16 : Nat) : Int) || (L.ref == zero32)) = true at h
            rw [hu, Bool.false_or, beq_iff_eq] at h
            rw [h]; rfl
theorem body_cells {L : Lt} (hb : bodyOK L = true) : ∀ z ∈ L.cells, 0 ≤ z ∧ z ≤ 255 := by
  unfold bodyOK at hb
  rw [Bool.and_eq_true] at hb
  have ho := hb.2
  unfold oth vOthers at ho
  simp only [Bool.and_eq_true] at ho
  have hc := ho.2
  unfold vCells at hc
  rw [Bool.and_eq_true, List.all_eq_true] at hc
  intro z hz
  obtain ⟨j, hj⟩ := List.mem_iff_getElem?.1 hz
  have hjl : j < L.cells.length := (List.getElem?_eq_some_iff.1 hj).1
  have h := hc.1 j (List.mem_range.2 hjl)
  have hg : L.cells[j]?.getD 0 = z := by rw [hj]; rfl
  cases hsr : srvB L.kind with
  | true => rw [hsr, cellOK_t hg rfl] at h; have := of_decide_eq_true h; omega
  | false => rw [hsr, cellOK_f hg] at h; have := of_decide_eq_true h; omega
/-- The bytes of the fields from k on. -/
def fldPart (L : Lt) (sb : List UInt8) (k : Nat) : List UInt8 := if usesB L.kind k then fldBytes L sb k else []
def fldsFrom (L : Lt) (sb : List UInt8) (k : Nat) : List UInt8 := ((List.range 17).drop k).flatMap (fldPart L sb)
theorem fldsFrom_step (L : Lt) (sb : List UInt8) (k : Nat) (hk : k < 17) : fldsFrom L sb k = fldPart L sb k ++ fldsFrom L sb (k + 1) := by
  unfold fldsFrom
  rw [List.drop_eq_getElem_cons (by simpa using hk), List.flatMap_cons, List.getElem_range]
theorem fldsFrom_end (L : Lt) (sb : List UInt8) : fldsFrom L sb 17 = [] := rfl
theorem fldsTo_from (L : Lt) (sb : List UInt8) (j : Nat) : ∀ k, k + j = 17 → fldsTo L sb k ++ fldsFrom L sb k = fldsTo L sb 17 := by
  induction j with
  | zero => intro k h; have e : k = 17 := h; subst e; rw [fldsFrom_end, List.append_nil]
  | succ j ih =>
    intro k h
    rw [fldsFrom_step L sb k (by omega), ← List.append_assoc]
    exact ih (k + 1) (by omega)
theorem ltBytes_read (L : Lt) (sb : List UInt8) : ltBytes L sb = le L.kind 1 ++ (le L.src 1 ++ (le L.dst 1 ++ fldsFrom L sb 0)) := by
  have h := fldsTo_from L sb 17 0 rfl
  rw [show fldsTo L sb 0 = [] from rfl, List.nil_append] at h
  unfold ltBytes hdBytes
  rw [← h]
  simp [cellBytes]
theorem fldsFrom_num (L : Lt) (sb : List UInt8) (k : Nat) (hk : k < 17) (hu : usesB L.kind k = true) (ho : (numOff k).isSome = true) : fldsFrom L sb k = le (numF L k) 8 ++ fldsFrom L sb (k + 1) := by
  rw [fldsFrom_step L sb k hk]
  unfold fldPart fldBytes
  rw [hu, if_pos rfl, if_pos ho]
theorem fldsFrom_skip (L : Lt) (sb : List UInt8) (k : Nat) (hk : k < 17) (hu : usesB L.kind k = false) : fldsFrom L sb k = fldsFrom L sb (k + 1) := by
  rw [fldsFrom_step L sb k hk]
  unfold fldPart
  rw [hu]
  rfl
theorem fldsFrom_9 (L : Lt) (sb : List UInt8) (hu : usesB L.kind (9 : Nat) = true) : fldsFrom L sb 9 = le L.move.day 8 ++ (le (if L.move.drop then 1 else 0) 1 ++ (le L.move.toDay 8 ++ (le L.move.minute 8 ++ (le L.move.length 8 ++ fldsFrom L sb 10)))) := by
  rw [fldsFrom_step L sb 9 (by omega)]
  unfold fldPart
  rw [hu, if_pos rfl]
  show mvBytes L.move ++ _ = _
  unfold mvBytes
  simp only [List.append_assoc]
theorem fldsFrom_10 (L : Lt) (sb : List UInt8) (hu : usesB L.kind (10 : Nat) = true) : fldsFrom L sb 10 = sb ++ fldsFrom L sb 11 := by
  rw [fldsFrom_step L sb 10 (by omega)]
  unfold fldPart
  rw [hu, if_pos rfl]
  rfl
theorem fldsFrom_14 (L : Lt) (sb : List UInt8) (hu : usesB L.kind (14 : Nat) = true) : fldsFrom L sb 14 = le L.wfrom 8 ++ (le L.wto 8 ++ fldsFrom L sb 15) := by
  rw [fldsFrom_step L sb 14 (by omega)]
  unfold fldPart
  rw [hu, if_pos rfl]
  show (le L.wfrom 8 ++ le L.wto 8) ++ _ = _
  rw [List.append_assoc]
theorem fldsFrom_15 (L : Lt) (sb : List UInt8) (hu : usesB L.kind (15 : Nat) = true) : fldsFrom L sb 15 = le L.cells.length 4 ++ (cellBytes L.cells ++ fldsFrom L sb 16) := by
  rw [fldsFrom_step L sb 15 (by omega)]
  unfold fldPart
  rw [hu, if_pos rfl]
  show (le L.cells.length 4 ++ cellBytes L.cells) ++ _ = _
  rw [List.append_assoc]
theorem fldsFrom_16 (L : Lt) (sb : List UInt8) (hu : usesB L.kind (16 : Nat) = true) : fldsFrom L sb 16 = L.ref ++ fldsFrom L sb 17 := by
  rw [fldsFrom_step L sb 16 (by omega)]
  unfold fldPart
  rw [hu, if_pos rfl]
  rfl
end Go.Proofs.YthhbbebabmemfaaGreat

/- (*letter.reader).window on known bytes. -/
namespace Go.Proofs.YthhbbebabmemfaaGreat
open Go Go.RowKit

theorem LIn.rdr {w wm w1 : World} {l : Lt} {s : Sl} {rest : List UInt8} (h : LIn w wm w1 l s rest) : w1.cell? ⟨w.heap.size + 3, 0, none⟩ = some (pt (w.heap.size + 1)) := by
  obtain ⟨A, c, hr, _⟩ := h.st
  exact cell_of_row w1 _ 0 _ _ _ hr.rd
attribute [local go_sem] ltVal_get
set_option maxRecDepth 10000 in
set_option maxHeartbeats 2000000 in
theorem rwindow_yes (w wm w1 : World) (l : Lt) (s : Sl) (R : List UInt8) (x y : Int) (hx : fits x) (hy : fits y) (h : LIn w wm w1 l s (le x 8 ++ (le y 8 ++ R))) :
    Calls Tryz.prog 18 #[pt (w.heap.size + 3)] w1 fun e w2 => e = .returned (.tuple #[]) ∧ LIn w wm w2 { l with wfrom := x, wto := y } s R := by
  have HD := Lib.hid h.draw
  have hc := h.rdr
  have hsz := h.sz
  clear h
  go_enter Tryz.func18, Tryz.ntmps18
  go_wp2_with fail
  go_region_law (go_simp; go_at_call 15; refine (HD.out.number8 hx).mono ?_; rintro e w5 ⟨rfl, h5⟩; have H5 := Lib.hid h5; have hc5 := h5.rdr; have hv5 : w5.cell? ⟨w.heap.size + 1, 27, none⟩ = some (I l.wfrom) := h5.row.2 27; have hf5 := h5.froz 27; have hs5 := h5.sz; clear h5)
  all_goals
    have H6 : Hid (LIn w wm (w5.setCell ⟨w.heap.size + 1, 27, none⟩ (I x)) { l with wfrom := x } s (le y 8 ++ R)) := Lib.hid (H5.out.store rfl)
    have hc6 := H6.out.rdr
    have HD6 := Lib.hid H6.out.draw
    go_wp2_with fail
    go_region_law (go_simp; go_at_call 15; refine (HD6.out.number8 hy).mono ?_; rintro e w7 ⟨rfl, h7⟩; have H7 := Lib.hid h7; have hc7 := h7.rdr; have hv7 : w7.cell? ⟨w.heap.size + 1, 28, none⟩ = some (I l.wto) := h7.row.2 28; have hf7 := h7.froz 28; have hs7 := h7.sz; clear h7)
    all_goals
      have H8 : Hid (LIn w wm (w7.setCell ⟨w.heap.size + 1, 28, none⟩ (I y)) { l with wfrom := x, wto := y } s R) := Lib.hid (H7.out.store rfl)
      go_wp2_with fail
      go_end0
      exact ⟨rfl, H8.out⟩
end Go.Proofs.YthhbbebabmemfaaGreat

/- (*letter.reader).ref on known bytes. -/
namespace Go.Proofs.YthhbbebabmemfaaGreat
open Go Go.RowKit

/-- copy into a row, as one step of a region that draws its order. -/
theorem step_copy_row {P : Program} {ops : Array Oper} {o : Oper} {a : Act} {w : World} {K : Act → World → Prop} {Q : Exit → Act → World → Prop} {E : Prop} (hgd : o.guard = none) (d s : Operand) (dT sT : TypeId)
    (ho : o.op = .call { callee := .builtin .copy, args := #[d, s], argTypes := #[dT, sT] }) (elem : TypeId) (hu : P.underlying dT = some (.slice elem)) (hsz : (P.info? elem).map (·.size) = some 1)
    (g off dLen dCap : Nat) (ad : Addr) (sLen sCap : Nat) (hd : a.eval d = .slice (some ⟨g, off, none⟩) dLen dCap) (hs : a.eval s = .slice (some ad) sLen sCap)
    (cur : Array Value) (t : TypeId) (hg : w.heap[g]? = some (.cells cur t (0, 0))) (cs : List Value) (hn : cs.length = Nat.min sLen dLen)
    (hsrc : ∀ j v, cs[j]? = some v → w.cell? (ad.add j) = some v) (hfit : off + cs.length ≤ cur.size) (h1 : ∀ v ∈ cs, v.oneCell' = true)
    (new : Array Value) (hnew : new = (splice cur.toList off cs).toArray) (h : K (a.put o.dst (goInt cs.length)) (w.setRow g new)) :
    if Region.wanted o (yielded ops a.tmps) = true then Oper.wp P o a w K Q else E := by
  have hw : Region.wanted o (yielded ops a.tmps) = true := by simp [Region.wanted, hgd]
  rw [if_pos hw]
  have hrun := run_copy_row (P := P) w dT sT o.type elem g off dLen dCap ad sLen sCap cur t cs hu hsz hg hn hsrc hfit h1
  have e : (cur.toList.take off ++ cs ++ cur.toList.drop (off + cs.length)).toArray = new := by rw [hnew]; simp [splice]
  rw [e] at hrun
  unfold Oper.wp
  simp [execOp, ho, resolve, invoke, builtin, hd, hs, hrun, Result.andThen]
  exact h
theorem ref_splice (l : Lt) (s : Sl) (xs : List UInt8) (hl : l.ref.length = 32) (hx : xs.length = 32) : ltVal { l with ref := xs } s = (splice (ltVal l s).toList 30 (refCells xs)).toArray := by
  unfold ltVal ltCells splice
  have h1 : (refCells xs).length = 32 := by simp [refCells, hx]
  have h2 : (refCells l.ref).length = 32 := by simp [refCells, hl]
  rw [h1]
  dsimp only
  rw [List.drop_eq_nil_of_le (by simp [h2]), List.append_nil, List.take_append_of_le_length (by simp)]
  rfl
theorem bytes_some {w : World} {B : Nat} {A : Option Addr} {bs : List UInt8} (h : BytesAt w B A bs) (h0 : 0 < bs.length) : ∃ b off, A = some ⟨b, off, none⟩ ∧ b < B ∧ ∀ j, j < bs.length → w.cell? ⟨b, off + j, none⟩ = some (Extern.Stop.cell (bs[j]?.getD 0)) := by
  rcases h with h | h
  · omega
  · exact h
theorem LIn.take32 {w wm w1 : World} {l : Lt} {s : Sl} {xs R : List UInt8} (h : LIn w wm w1 l s (xs ++ R)) (hn : xs.length = 32) :
    Calls Tryz.prog 44 #[I 32, pt (w.heap.size + 4), pt (w.heap.size + 2)] w1 fun e w2 => ∃ b off c, e = .returned (.slice (some ⟨b, off, none⟩) 32 c) ∧ (∀ j u, (refCells xs)[j]? = some u → w2.cell? ((⟨b, off, none⟩ : Addr).add j) = some u) ∧ LIn w wm w2 l s R :=
  (h.take hn).mono fun e w2 ⟨A, c, h1, _, _, h4, h5⟩ => by
    obtain ⟨b, off, rfl, _, hc⟩ := bytes_some h4 (by omega)
    refine ⟨b, off, c, h1, fun j u hu => ?_, h5⟩
    have hj : j < xs.length := by
      have := (List.getElem?_eq_some_iff.1 hu).1
      simpa [refCells] using this
    rw [Addr.add_mid, hc j hj]
    unfold refCells at hu
    rw [List.getElem?_map, List.getElem?_eq_getElem hj] at hu
    rw [List.getElem?_eq_getElem hj]
    simpa using hu
theorem ref_ones (xs : List UInt8) : ∀ v ∈ refCells xs, v.oneCell' = true := ref_one2 xs
set_option maxRecDepth 10000 in
set_option maxHeartbeats 2000000 in
theorem rref_yes (w wm w1 : World) (l : Lt) (s : Sl) (R xs : List UInt8) (hx : xs.length = 32) (hl : l.ref.length = 32) (h : LIn w wm w1 l s (xs ++ R)) :
    Calls Tryz.prog 20 #[pt (w.heap.size + 3)] w1 fun e w2 => e = .returned (.tuple #[]) ∧ LIn w wm w2 { l with ref := xs } s R := by
  have HD := Lib.hid h.draw
  have hc := h.rdr
  have hf := h.fn
  have hsz := h.sz
  have HX := Lib.hid hx
  have HS : Hid ((refCells xs).length = 32) := Lib.hid (by simp [refCells, hx])
  have HZ : Hid ((ltVal l s).size = 62) := Lib.hid (lt_size _ _ _ _ hl)
  have HN := Lib.hid (ref_splice l s xs hl hx)
  clear h hx hl
  go_enter Tryz.func20, Tryz.ntmps20
  go_wp2_with fail
  go_region_law (first
    | (go_simp; go_at_call 44; refine (HD.out.take32 HX.out).mono ?_; rintro e w5 ⟨b5, o5, c5, rfl, hb5, h5⟩; have H5 := Lib.hid h5; have HB5 := Lib.hid hb5; have hc5 := h5.rdr; have hv5 := h5.fn; have hs5 := h5.sz; clear h5 hb5)
    | (refine step_copy_row (by rfl) _ _ _ _ (by rfl) 5 Tryz.underlying22 (by kernel_rfl) (w.heap.size + 1) 30 32 32 ⟨b5, o5, none⟩ 32 c5 (by rfl) (by rfl) (ltVal l s) 37 H5.out.blk (refCells xs) (by rw [HS.out]; rfl) HB5.out (by rw [HS.out, HZ.out]; decide) (ref_ones xs) (ltVal { l with ref := xs } s) HN.out ?_))
  all_goals
    have H6 : Hid (LIn w wm (w5.setRow (w.heap.size + 1) (ltVal { l with ref := xs } s)) { l with ref := xs } s R) := Lib.hid H5.out.setRow
    go_wp2_with fail
    go_end0
    exact ⟨rfl, H6.out⟩
end Go.Proofs.YthhbbebabmemfaaGreat

/- (*letter.reader).cells on known bytes. -/
namespace Go.Proofs.YthhbbebabmemfaaGreat
open Go Go.RowKit

theorem LIn.cast {w wm w1 : World} {l l' : Lt} {s s' : Sl} {R : List UInt8} (h : LIn w wm w1 l s R) (e : ltVal l' s' = ltVal l s) : LIn w wm w1 l' s' R :=
  ⟨by rw [e]; exact h.blk, h.st, h.res, h.lo, h.sz, h.msz, h.mem⟩
theorem LIn.grown {w wm w1 w2 : World} {l : Lt} {s : Sl} {R : List UInt8} {e size n : Nat} {v : Value} {ys : List Value} {o : Obj} (h : LIn w wm w1 l s R) (hwm : w.heap.size + 4 < wm.heap.size) (hown : w1.ownsRow wm.heap.size e size v n ys) (hg : (w1.drew.alloc o).grownBy w2 v.ownBlock) : LIn w wm w2 l s R := by
  have hm := h.msz
  have hs : w1.heap.size ≤ w2.heap.size := by have h1 := hg.size; rw [World.size_alloc] at h1; have h2 : w1.drew.heap.size = w1.heap.size := rfl; omega
  have hb : ∀ k, k < wm.heap.size → w2.heap[k]? = w1.heap[k]? := fun k hk => grown_low (W := w1.drew) hown hg k (by show k < w1.heap.size; omega) hk
  exact h.turn ((hb _ (by omega)).trans h.blk) hg.os hg.tape hg.output hs fun k h1 _ => hb k (by omega)
theorem cellBytes_map (zs : List Int) : cellBytes zs = zs.map byteOf := by
  induction zs with
  | nil => rfl
  | cons z zs ih => unfold cellBytes at *; rw [List.flatMap_cons, ih]; rfl
theorem byte_z {z : Int} (h : 0 ≤ z ∧ z ≤ 255) : Extern.Stop.cell (byteOf z) = .int .u8 z := by rw [byteOf_cell, Int.emod_eq_of_lt h.1 (by omega)]
theorem cells_newI {w : World} {t : TypeId} (z : Int) : ∀ j u, [I z][j]? = some u → (w.alloc (.cells #[I z] t)).cell? ((⟨w.heap.size, 0, none⟩ : Addr).add j) = some u := by
  intro j u hu
  rw [addr_add, (Row.new w _ t).2 j]
  simpa using hu
theorem int_ones (z : Int) : ∀ u ∈ [I z], u.oneCell' = true := fun u hu => by rw [List.mem_singleton.1 hu]; rfl
def RcRel (w wm : World) (l : Lt) (s : Sl) (R : List UInt8) (zs : List Int) (N : Nat) (i : Value) (wr : World) : Prop :=
  ∃ (j : Nat) (C : Option Addr) (e : Nat), j ≤ N ∧ i = I j ∧ LIn w wm wr { l with cells := zs.take j } { s with C := C, e := e } R ∧ wr.ownsRow wm.heap.size 3 1 (.slice C j e) j ((zs.take j).map I)
set_option maxRecDepth 10000 in
set_option maxHeartbeats 2000000 in
theorem rcells_yes (w wm w1 : World) (l : Lt) (s : Sl) (R : List UInt8) (zs : List Int) (N : Nat) (hN : zs.length = N) (hN2 : N ≤ 65536) (hz : ∀ z ∈ zs, 0 ≤ z ∧ z ≤ 255) (hwm : w.heap.size + 4 < wm.heap.size) (hc0 : l.cells = []) (hC : s.C = none) (he : s.e = 0)
    (h : LIn w wm w1 l s (le (N : Int) 4 ++ (cellBytes zs ++ R))) :
    Calls Tryz.prog 19 #[pt (w.heap.size + 3)] w1 fun e w2 => e = .returned (.tuple #[]) ∧ ∃ C e', LIn w wm w2 { l with cells := zs } { s with C := C, e := e' } R ∧ w2.ownsRow wm.heap.size 3 1 (.slice C N e') N (zs.map I) := by
  have H0 := Lib.hid h
  have HN := Lib.hid hN
  have HZ := Lib.hid hz
  have HE : Hid (ltVal { l with cells := zs.take 0 } { s with C := none, e := 0 } = ltVal l s) := Lib.hid (by unfold ltVal; rw [List.take_zero, hc0, hC, he]; rfl)
  clear h hN hz hc0 hC he
  go_enter Tryz.func19, Tryz.ntmps19
  go_wp2_with fail
  refine (H0.out.number4 (by omega) (by omega)).mono ?_
  rintro e w2 ⟨rfl, h2⟩
  have H2 := Lib.hid h2
  have hc2 := h2.rdr
  have hf2 := h2.fn
  clear h2 H0
  go_wp2_with fail
  refine (H2.out.take (by rw [cellBytes_length]; exact HN.out)).mono ?_
  rintro e w3 ⟨A, c, rfl, hnc, hcm, hby, h3⟩
  have H3 := Lib.hid h3
  have HY := Lib.hid hby
  clear h3 hby H2 hc2 hf2
  go_wp2_with fail
  go_loopw [14] (fun i wr => RcRel w wm l s R zs N i wr) (fun i _ => N - (intOf i).toNat)
  case atStart => exact ⟨0, none, 0, Nat.zero_le _, rfl, H3.out.cast HE.out, World.ownsRow_nil _ _ _ _⟩
  case round =>
    obtain ⟨j, C, e, hj, rfl, hs, ho⟩ := hrel
    have HS := Lib.hid hs
    have HO := Lib.hid ho
    clear hs ho
    by_cases hlt : (j : Int) < (N : Int)
    · have hjl : j < zs.length := by have := HN.out; omega
      obtain ⟨z, hzd⟩ : ∃ z, zs[j] = z := ⟨_, rfl⟩
      have hx : zs[j]? = some z := by rw [← hzd]; exact List.getElem?_eq_getElem hjl
      have hz2 := HZ.out z (List.mem_of_getElem? hx)
      have hyr := HY.out.via H3.out.lo HS.out.lo
      obtain ⟨b, off, rfl, hbw, hcl⟩ := bytes_some hyr (by rw [cellBytes_length]; omega)
      have hcell : wr.cell? ⟨b, off + j, none⟩ = some (.int .u8 z) := by
        rw [hcl j (by rw [cellBytes_length]; exact hjl), cellBytes_map, List.getElem?_map, hx]
        exact congrArg some (byte_z hz2)
      obtain ⟨hz0, hz1⟩ := hz2
      have hcr := HS.out.rdr
      have hlz : (zs.take j).length = j := by rw [List.length_take]; omega
      have hcv : wr.cell? ⟨w.heap.size + 1, 29, none⟩ = some (.slice C j e) := by
        have h := HS.out.row.2 29
        rw [h, ltVal_get, lt_get29]
        show some (Value.slice C (zs.take j).length e) = _
        rw [hlz]
      have hfv := HS.out.froz 29
      have hsz := HS.out.sz
      have hmz := HS.out.msz
      have hwz : IntKind.i64.wrap z = z := by rw [IntKind.wrap_i64]; omega
      have hlw : w.heap.size + 1 < wr.heap.size := by omega
      have hlw3 : w.heap.size + 3 < wr.heap.size := by omega
      have HX := Lib.hid hx
      have HOD : Hid (wr.drew.ownsRow wm.heap.size 3 1 (.slice C j e) j ((zs.take j).map I)) := Lib.hid HO.out
      have hdw : wm.heap.size ≤ wr.drew.heap.size := hmz
      obtain ⟨i0, hi, hq0, hq1, hq2⟩ := info_parts info_int
      clear hjl hzd hx hyr hcl hlz
      go_wp2_with fail
      go_region_law (refine step_append_lies _ (by rfl) _ _ _ (by rfl) wm.heap.size 3 i0 (.int .i64 0) 1 8 Tryz.underlying23 hi hq0 hq1 hq2 rfl (by omega) (.slice C j e) j ((zs.take j).map I) (by rfl) (HOD.out.alloc _) ⟨wr.heap.size, 0, none⟩ 1 1 [I z] (by rfl) rfl (cells_newI (w := wr.drew) z) (int_ones z) (by omega) (by unfold maxLen; omega) (by omega) (by first | (simp; done) | (simp; omega)) _ rfl ?_; intro gg cap w6 hown6 hgrow6 hat6 hlt6; have hg6 := HS.out.grown hwm HO.out hgrow6; have H6 := Lib.hid hg6; have HO6 := Lib.hid hown6; have hcr6 := hg6.rdr; have hcv6 : w6.cell? ⟨w.heap.size + 1, 29, none⟩ = some (.slice C (zs.take j).length e) := hg6.row.2 29; have hfv6 := hg6.froz 29; clear hg6 hown6 hgrow6 hat6)
      all_goals
        have hlen7 : (zs.take (j + 1)).length = j + 1 := by have := HN.out; rw [List.length_take]; omega
        have H7 : Hid (LIn w wm (w6.setCell ⟨w.heap.size + 1, 29, none⟩ (.slice (some ⟨gg, 0, none⟩) (j + 1) cap)) { l with cells := zs.take (j + 1) } { s with C := some ⟨gg, 0, none⟩, e := cap } R) := Lib.hid (H6.out.store (by rw [put_cells _ _ (zs.take (j + 1)) _ _ _ hlen7]))
        have HO7 := Lib.hid (ownsRow_setCell_below (a := ⟨w.heap.size + 1, 29, none⟩) HO6.out (by show w.heap.size + 1 < wm.heap.size; omega) (.slice (some ⟨gg, 0, none⟩) (j + 1) cap))
        clear hlen7
        go_wp2_with fail
        go_roundw
        case rel => exact ⟨j + 1, some ⟨gg, 0, none⟩, cap, by omega, by go_num, H7.out, by rw [take_next _ _ _ HX.out, List.map_append]; exact HO7.out⟩
        case measure => simp [intOf]; omega
    · have HF : Hid (zs.take j = zs) := Lib.hid (List.take_of_length_le (by have := HN.out; omega))
      have hje : j = N := by omega
      subst hje
      go_wp2_with fail
      go_end0
      have h1 := HS.out
      have h2 := HO.out
      rw [HF.out] at h1 h2
      exact ⟨rfl, C, e, h1, h2⟩
end Go.Proofs.YthhbbebabmemfaaGreat

/- The letter's reader: no series; helpers. -/
namespace Go.Proofs.YthhbbebabmemfaaGreat
open Go Go.RowKit

section
variable {P : Program} {ops : Array Oper} {rest : List Oper} {o : Oper} {a : Act} {w : World} {Q : Exit → Act → World → Prop}
/-- A store of a whole struct into the newest variable. -/
theorem wpList_store_newrow {ob : Obj} (hgd : o.guard = none) (ty : TypeId) (x y : Operand) (ho : o.op = .store ty x y) (cells : Array Value) (hx : a.eval x = .pointer (some ⟨w.heap.size, 0, none⟩)) (hy : a.eval y = .agg cells) (t : TypeId) (old : Array Value) (hob : ob = .cells old t (0, 0)) (hi : (P.info? ty).map (·.size) = some cells.size) (hold : old.size = cells.size) (h1 : cells.all (·.oneCell') = true)
    (h : ∀ W, Below w.heap.size w W → w.heap.size < W.heap.size → Row W w.heap.size cells → wpList P ops Q rest (a.put o.dst undef) W) : wpList P ops Q (o :: rest) a (w.alloc ob) := by
  subst hob
  refine wpList_store_row hgd ty x y ho w.heap.size cells hx hy t old (heap_alloc_last w _) hi hold h1 (h _ (below_setRow (below_var w _) (Nat.le_refl _) _) (by simp [World.setRow]) (Row.of_blk (setRow_heap _ _ _ _ _ _ (heap_alloc_last w _))))
theorem wpList_store_midG (hgd : o.guard = none) (ty : TypeId) (x y : Operand) (ho : o.op = .store ty x y) (b off : Nat) (cells : Array Value) (hx : a.eval x = .pointer (some ⟨b, off, none⟩)) (hy : a.eval y = .agg cells) (ht : w.there b off cells.size) (hi : (P.info? ty).map (·.size) = some cells.size) (h1 : cells.all (·.oneCell') = true)
    (h : ∀ W, W = w.setCells b off cells.toList → wpList P ops Q rest (a.put o.dst undef) W) : wpList P ops Q (o :: rest) a w :=
  wpList_store_mid hgd ty x y ho b off cells hx hy ht hi h1 (h _ rfl)
/-- A load of a whole struct, in a region that draws and only reads. -/
theorem wpStill_load_Row {Q : Act → Prop} (hw : Region.wanted o (yielded ops a.tmps) = true) (ty : TypeId) (x : Operand) (ho : o.op = .load ty x) (g : Nat) (hx : a.eval x = .pointer (some ⟨g, 0, none⟩)) (cs : Array Value) (hr : Row w g cs)
    (d : TypeDesc) (hu : P.underlying ty = some d) (hd : d.isRow = true) (hi : (P.info? ty).map (·.size) = some cs.size)
    (h : wpStill P ops w Q rest (a.put o.dst (.agg cs))) : wpStill P ops w Q (o :: rest) a := by
  refine wpStill_step fun K hK => ?_
  rw [if_pos hw]
  have hc : w.rangeAt g 0 cs.toList := fun j v hv => by rw [Nat.zero_add, hr.2 j]; simpa using hv
  unfold Oper.still execOp
  simp only [ho, hx, Instr.loadAt, Instr.sureAddr, Sem.run_bind, Sem.run_pure, Result.andThen_ok, run_loadVar_mid w g 0 ty cs.toList d hc hu hd (by rw [hi]; simp)]
  exact ⟨rfl, hK _ (by simpa using h)⟩
end
theorem setCells_blk : ∀ (vs : List Value) (w : World) (b o : Nat) (cs : Array Value) (t : TypeId), w.heap[b]? = some (.cells cs t (0, 0)) → (w.setCells b o vs).heap[b]? = some (.cells (putAll cs o vs) t (0, 0))
  | [], _, _, _, _, _, h => h
  | v :: r, w, b, o, _, t, h => setCells_blk r _ b (o + 1) _ t (heap_setCell_same w b o _ _ v h)
theorem setCells_env : ∀ (vs : List Value) (w : World) (b o : Nat), (w.setCells b o vs).os = w.os ∧ (w.setCells b o vs).tape = w.tape ∧ (w.setCells b o vs).output = w.output
  | [], _, _, _ => ⟨rfl, rfl, rfl⟩
  | v :: r, w, b, o => setCells_env r (w.setCell ⟨b, o, none⟩ v) b (o + 1)
section
variable {w wm w1 w2 : World} {l l' : Lt} {s s' : Sl} {R : List UInt8}
theorem LIn.setAll (h : LIn w wm w1 l s R) {vs : List Value} {o : Nat} (e : putAll (ltVal l s) o vs = ltVal l' s') : LIn w wm (w1.setCells (w.heap.size + 1) o vs) l' s' R := by
  obtain ⟨e1, e2, e3⟩ := setCells_env vs w1 (w.heap.size + 1) o
  exact h.turn (by rw [setCells_blk vs w1 (w.heap.size + 1) o _ _ h.blk, e]) e1 e2 e3 (Nat.le_of_eq (setCells_size vs w1 (w.heap.size + 1) o).symm) fun k _ hk => setCells_other vs w1 (w.heap.size + 1) o k hk
theorem LIn.there (h : LIn w wm w1 l s R) (o n : Nat) (hn : o + n ≤ (ltVal l s).size) : w1.there (w.heap.size + 1) o n := by
  intro j hj
  refine ⟨?_, h.froz _⟩
  rw [h.row.2, Array.getElem?_eq_getElem (by omega)]; rfl
theorem LIn.take0 (h : LIn w wm w1 l s R) :
    Calls Tryz.prog 44 #[I 0, pt (w.heap.size + 4), pt (w.heap.size + 2)] w1 fun e w2 => ∃ A c, e = .returned (.slice A 0 c) ∧ LIn w wm w2 l s R :=
  (LIn.take (xs := []) (n := 0) h rfl).mono fun _ _ ⟨A, c, h1, _, _, _, h5⟩ => ⟨A, c, h1, h5⟩
theorem LIn.takeN {N : Nat} {bs : List UInt8} (h : LIn w wm w1 l s (bs ++ R)) (hN : bs.length = N) (h0 : 0 < N) :
    Calls Tryz.prog 44 #[I N, pt (w.heap.size + 4), pt (w.heap.size + 2)] w1 fun e w2 => ∃ b off c, e = .returned (.slice (some ⟨b, off, none⟩) N c) ∧ b < w.heap.size ∧ (∀ j, j < N → w2.cell? ⟨b, off + j, none⟩ = some (Extern.Stop.cell (bs[j]?.getD 0))) ∧ LIn w wm w2 l s R :=
  (h.take hN).mono fun e w2 ⟨A, c, h1, _, _, h4, h5⟩ => by
    obtain ⟨b, off, rfl, hb, hc⟩ := bytes_some h4 (by omega)
    exact ⟨b, off, c, h1, hb, fun j hj => hc j (by omega), h5⟩
end
set_option maxRecDepth 10000 in
set_option maxHeartbeats 2000000 in
theorem rseries_none (w wm w1 : World) (l : Lt) (s : Sl) (R : List UInt8) (h : LIn w wm w1 l s (le 0 4 ++ R)) :
    Calls Tryz.prog 17 #[pt (w.heap.size + 3)] w1 fun e w2 => e = .returned (.tuple #[]) ∧ LIn w wm w2 l s R := by
  have H0 := Lib.hid h
  clear h
  go_enter Tryz.func17, Tryz.ntmps17
  go_wp2_with fail
  refine (H0.out.number4 (by omega) (by omega)).mono ?_
  rintro e w2 ⟨rfl, h2⟩
  have H2 := Lib.hid h2
  have hc2 := h2.rdr
  have hf2 := h2.fn
  clear h2 H0
  go_wp2_with fail
  refine H2.out.take0.mono ?_
  rintro e w3 ⟨A, c, rfl, h3⟩
  have H3 := Lib.hid h3
  clear h3 H2 hc2 hf2
  go_wp2_with fail
  go_end0
  exact ⟨rfl, H3.out⟩
end Go.Proofs.YthhbbebabmemfaaGreat

/- A letter that can be read back; its memory under change. -/
namespace Go.Proofs.YthhbbebabmemfaaGreat
open Go Go.RowKit

/-- A letter that can be read back from ltBytes L sb. -/
structure RdOK (L : Lt) (sb : List UInt8) : Prop where
  kind : 0 ≤ L.kind ∧ L.kind < 256
  src : 0 ≤ L.src ∧ L.src < 256
  dst : 0 ≤ L.dst ∧ L.dst < 256
  fit : LtFits L
  ref : L.ref.length = 32
  cells : ∀ z ∈ L.cells, 0 ≤ z ∧ z ≤ 255
  clen : L.cells.length ≤ 65536
  zero : ∀ k : Nat, k < 17 → usesB L.kind k = false → FldZ L k
  ser : (sb = le 0 4 ∧ L.series = zSer) ∨ (∃ N : Nat, sb = le (N : Int) 4 ++ seBytes L.series ∧ (seBytes L.series).length = N ∧ 0 < N ∧ N ≤ 10000000 ∧ L.series.rule.length ≤ 64 ∧ SerGood L.series ∧ (∀ ns : List NdV, ns.map (·.d) = L.series.rule → RuleOK ns) ∧ (∀ d ∈ L.series.rule, NdFit d) ∧ ∀ x ∈ L.series.moves, ∀ z ∈ mvNums x, fits z)
theorem LtMem.of_blocks {lo : Nat} {w w' : World} {l : Lt} {s : Sl} {ns : List NdV} (h : LtMem lo w l s ns) (hs : w.heap.size ≤ w'.heap.size) (hb : ∀ k, lo ≤ k → k < w.heap.size → w'.heap[k]? = w.heap[k]?) : LtMem lo w' l s ns :=
  ⟨h.rule.of_blocks hs hb, h.names, ownsRow_blocks h.moves hb, ownsRow_blocks h.cells hb⟩
theorem LtMem.lower {lo lo' : Nat} {w : World} {l : Lt} {s : Sl} {ns : List NdV} (h : LtMem lo w l s ns) (hl : lo' ≤ lo) : LtMem lo' w l s ns :=
  ⟨h.rule.lower hl, h.names, ownsRow_base' h.moves hl, ownsRow_base' h.cells hl⟩
theorem LtMem.other {lo : Nat} {w : World} {l l' : Lt} {s : Sl} {ns : List NdV} (h : LtMem lo w l s ns) (h1 : l'.series = l.series) (h2 : l'.cells = l.cells) : LtMem lo w l' s ns :=
  ⟨by rw [h1]; exact h.rule, by rw [h1]; exact h.names, by rw [h1]; exact h.moves, by rw [h2]; exact h.cells⟩
section
variable {wr w2 : World}
theorem Row.of_blocks {b : Nat} {cs : Array Value} (h : Row wr b cs) (hs : wr.heap.size ≤ w2.heap.size) (hb : w2.heap[b]? = wr.heap[b]?) : Row w2 b cs :=
  ⟨Nat.lt_of_lt_of_le h.1 hs, fun i => (World.cell?_of_block (a := ⟨b, i, none⟩) hb).trans (h.2 i)⟩
end
end Go.Proofs.YthhbbebabmemfaaGreat

/- Reading back letters with made series: the plain part. -/
namespace Go.Proofs.YthhbbebabmemfaaGreat
open Go Go.RowKit

theorem movedN_swap (k : Int) (ms : List NdV) : ∀ b : List NdV, b.map (·.d) = (movedN k ms).map (·.d) → ∃ ms', movedN k ms' = b ∧ ms'.map (·.d) = ms.map (·.d) := by
  induction ms with
  | nil =>
    intro b h
    have : b = [] := by simpa [movedN] using h
    exact ⟨[], by rw [this]; rfl, rfl⟩
  | cons m ms ih =>
    intro b h
    cases b with
    | nil => simp [movedN] at h
    | cons y b =>
      unfold movedN at h
      rw [List.map_cons, List.map_cons, List.map_cons] at h
      injection h with h1 h2
      obtain ⟨ms', e1, e2⟩ := ih b h2
      refine ⟨⟨m.d, y.A, y.c⟩ :: ms', ?_, by rw [List.map_cons, List.map_cons, e2]⟩
      unfold movedN at *
      rw [List.map_cons, e1]
      congr 1
      obtain ⟨yd, yA, yc⟩ := y
      have h1 : yd = (mvd k m).d := h1
      rw [h1]
      rfl
theorem one_swap {b : List NdV} {d : Nd} (h : b.map (·.d) = [d]) : ∃ A c, b = [⟨d, A, c⟩] := by
  match b, h with
  | [y], h =>
    obtain ⟨yd, yA, yc⟩ := y
    have e : yd = d := by simpa using h
    exact ⟨yA, yc, by rw [e]⟩
theorem MRule.swap {cals : Int} {ns : List NdV} (h : MRule cals ns) : ∀ ns2 : List NdV, ns2.map (·.d) = ns.map (·.d) → MRule cals ns2 := by
  induction h with
  | leaf x h =>
    intro ns2 he
    obtain ⟨A, c, rfl⟩ := one_swap (d := x.d) he
    exact .leaf _ h
  | one ns x hn h ih =>
    intro ns2 he
    unfold overN at he
    rw [List.map_append] at he
    obtain ⟨a, b, rfl, ha, hb⟩ := List.map_eq_append_iff.1 he
    obtain ⟨A, c, rfl⟩ := one_swap hb
    have hl : a.length = ns.length := by have := congrArg List.length ha; simpa using this
    have h2 := MRule.one a ⟨x.d, A, c⟩ (ih a ha) h
    unfold overN at h2
    rw [hl] at h2
    exact h2
  | two ns ms x hn hm h ih1 ih2 =>
    intro ns2 he
    unfold bothN at he
    rw [List.map_append, List.map_append] at he
    obtain ⟨ab, c, rfl, hab, hc⟩ := List.map_eq_append_iff.1 he
    obtain ⟨a, b, rfl, ha, hb⟩ := List.map_eq_append_iff.1 hab
    obtain ⟨A, cc, rfl⟩ := one_swap hc
    obtain ⟨ms', rfl, hms⟩ := movedN_swap _ _ _ hb
    have hl : a.length = ns.length := by have := congrArg List.length ha; simpa using this
    have hl2 : ms'.length = ms.length := by have := congrArg List.length hms; simpa using this
    have h2 := MRule.two a ms' ⟨x.d, A, cc⟩ (ih1 a ha) (ih2 ms' hms) h
    unfold bothN at h2
    rw [hl, hl2] at h2
    exact h2
theorem mem_swap {ns ns2 : List NdV} (he : ns2.map (·.d) = ns.map (·.d)) {x : NdV} (hx : x ∈ ns2) : ∃ y ∈ ns, y.d = x.d := by
  have h : x.d ∈ ns.map (·.d) := by rw [← he]; exact List.mem_map_of_mem hx
  obtain ⟨y, hy, e⟩ := List.mem_map.1 h
  exact ⟨y, hy, e⟩
theorem SerOK.swap {ns ns2 : List NdV} {se : Ser} (h : SerOK ns se) (he : ns2.map (·.d) = ns.map (·.d)) : SerOK ns2 se :=
  { h with
    names := h.names.trans he.symm
    made := h.made.swap ns2 he
    len := by have := congrArg List.length he; have := h.len; simp at *; omega
    within := fun x hx => by obtain ⟨y, hy, e⟩ := mem_swap he hx; have := h.within y hy; rw [e] at this; exact this }
theorem MadeTo.names {bare : Bool} {l0 l : Lt} {j : Nat} {ns : List NdV} (h : MadeTo bare l0 j l ns) : ∀ ns2 : List NdV, ns2.map (·.d) = ns.map (·.d) → MadeTo bare l0 j l ns2 := by
  induction h with
  | zero =>
    intro ns2 he
    have : ns2 = [] := by simpa using he
    subst this
    exact .zero
  | skip _ hs ih => exact fun ns2 he => .skip (ih ns2 he) hs
  | @step j l l' ns ns' hm hs hf ih =>
    intro ns2 he
    rcases hf with ⟨a, x, b1, b2, b3, rfl, rfl⟩ | ⟨a, rfl, b⟩ | ⟨a, ⟨b, se, rfl, c⟩ | ⟨b1, b2, rfl, rfl⟩⟩ | ⟨a, rfl, b⟩ | ⟨a, rfl, b⟩ | ⟨a, rfl, b⟩
    · exact .step (ih ns2 he) hs (.inl ⟨a, x, b1, b2, b3, rfl, rfl⟩)
    · exact .step (ih ns2 he) hs (.inr (.inl ⟨a, rfl, b⟩))
    · exact .step hm hs (.inr (.inr (.inl ⟨a, .inl ⟨b, se, rfl, c.swap he⟩⟩)))
    · exact .step (ih ns2 he) hs (.inr (.inr (.inl ⟨a, .inr ⟨b1, b2, rfl, rfl⟩⟩)))
    · exact .step (ih ns2 he) hs (.inr (.inr (.inr (.inl ⟨a, rfl, b⟩))))
    · exact .step (ih ns2 he) hs (.inr (.inr (.inr (.inr (.inl ⟨a, rfl, b⟩)))))
    · exact .step (ih ns2 he) hs (.inr (.inr (.inr (.inr (.inr ⟨a, rfl, b⟩)))))
section
variable {l L : Lt} {ns ns2 : List NdV} {s t : Sl} {lo lo2 : Nat} {w : World}
theorem MadeLt.swap (h : MadeLt l ns) (he : ns2.map (·.d) = ns.map (·.d)) : MadeLt l ns2 := by
  obtain ⟨bare, k, f, t, l1, h1, h2, h3, h4, h5, h6, h7, h8, h9, h10⟩ := h.made
  exact ⟨⟨bare, k, f, t, l1, h1, h2, h3, h4, h5, h6, h7, h8, h9.names ns2 he, h10⟩, h.ref⟩
theorem MadeLt.names (h : MadeLt l ns) : l.series.rule = ns.map (·.d) := by
  obtain ⟨k, f, t, _, _, _, _, _, _, _, hv, _⟩ := h.inv
  rcases hv.ser with ⟨h1, h2⟩ | h1
  · rw [h1, h2]; rfl
  · exact h1.names
theorem VarOf.same (h : MadeLt l ns) : VarOf l l := ⟨rfl, rfl, h.ref⟩
theorem MadeLt.vc (h : MadeLt l ns) : vc l = 0 := by
  have hv := h.v
  unfold Go.Proofs.YthhbbebabmemfaaGreat.vc
  rw [h.head, hv.body, if_neg (by decide), if_neg (by decide)]
  rcases hv.ser with h1 | ⟨_, h2, _⟩
  · rw [h1, if_pos rfl]
  · rw [h2]; simp
/-- A valid letter with a made series can be read back. -/
theorem VarOf.rd (hl : MadeLt l ns) (hv : VarOf l L) (h0 : Go.Proofs.YthhbbebabmemfaaGreat.vc L = 0) : RdOK L (sbOf L) := by
  rcases vc_cases L with e | ⟨_, hh, hb⟩
  · rw [h0] at e; cases e
  obtain ⟨⟨k1, k2⟩, hsrc, hdst, _⟩ := headOK_iff hh
  have hsr : 0 ≤ L.src ∧ L.src < 16 := by unfold srvIn at hsrc; exact of_decide_eq_true hsrc
  have hds : 0 ≤ L.dst ∧ L.dst < 16 := by unfold srvIn at hdst; exact of_decide_eq_true hdst
  have hlen := hl.lens
  refine ⟨by omega, by omega, by omega, body_fits hh hb, hv.ref, body_cells hb, by rw [hv.cells]; omega, fun k hk hu => body_unused hb k hk hu, ?_⟩
  rcases hl.se with hs | hs
  · refine .inl ⟨?_, by rw [hv.ser, hs]⟩
    have hnz : nzOf L = true := by unfold nzOf; rw [hv.ser, hs]; rfl
    unfold sbOf
    rw [hnz]
    rfl
  · have hnz : nzOf L = false := hv.nz.trans hs.nz
    have hbl := seBytes_len hs
    rw [hv.ser]
    refine .inr ⟨(seBytes l.series).length, ?_, rfl, hbl.1, by omega, by omega, hs.good, fun ns2 he => (hs.swap (ns2 := ns2) (by rw [he]; exact hs.names)).rulesOK, by rw [hs.names]; exact rule_fits hs.rulesOK, fun x hx z hz => ?_⟩
    · unfold sbOf
      rw [hnz, hv.ser]
      rfl
    · obtain ⟨dd, d1, d2⟩ := hs.mok
      obtain ⟨⟨_, hm⟩, m1, m2⟩ := d2.ok x hx
      unfold mvNums at hz
      unfold fits
      simp only [List.mem_cons, List.not_mem_nil, or_false] at hz
      rcases hm with ⟨e, a, b, c⟩ | ⟨e, a, b, c, d, f, g⟩
      · rw [e, a, b, c] at hz
        rcases hz with rfl | rfl | rfl | rfl | rfl <;> first | omega | (simp; done) | (simp; omega)
      · rw [e] at hz
        rcases hz with rfl | rfl | rfl | rfl | rfl <;> first | omega | (simp; done) | (simp; omega)
end
end Go.Proofs.YthhbbebabmemfaaGreat

/- letter.Valid of a letter that was made: yes. -/
namespace Go.Proofs.YthhbbebabmemfaaGreat
open Go Go.RowKit

theorem valid_made (l : Lt) (s : Sl) (ns : List NdV) (lo : Nat) (w : World) (hl : MadeLt l ns) (hm : LtMem lo w l s ns) (hlo : 0 < lo) : Calls Tryz.prog 12 #[.agg (ltVal l s)] w (Gives (I 0) w) := by
  have hv := hl.v
  have hlen := hl.lens
  cases hn : noSerB l with
  | true =>
    have h := valid_nos l s w hl.ok hm.ints hl.head (fun _ _ => hn)
    have e : vCode l 0 = 0 := by unfold vCode; rw [hl.head, hv.body, hn, if_neg (by decide), if_neg (by decide), if_neg (by omega), if_pos rfl]
    rw [e] at h
    exact h
  | false =>
    obtain ⟨hu, hz⟩ := noSerB_no hn
    rcases hv.ser with h | ⟨_, hnz, hs⟩
    · rw [hn] at h; cases h
    · refine valid_ser l s w 0 hl.ok hm.ints hl.head hv.body (by omega) hu hz (fun w' cb cc xs hb hc => ?_)
      have m' := hm.grow hb hlo
      exact seriesValid_yes l.series s.A s.B s.c s.d l.series.rule.length l.series.moves.length cb cc ns xs w' (m'.rules hlen.2.2.2) (by rw [m'.names, List.length_map]) hs.rulesOK m'.mvs rfl hs.good hc
end Go.Proofs.YthhbbebabmemfaaGreat

/- The encoding of a letter that can be read back determines the letter. -/
namespace Go.Proofs.YthhbbebabmemfaaGreat
open Go Go.RowKit

theorem le_inj8 {x y : Int} {R R' : List UInt8} (hx : fits x) (hy : fits y) (h : le x 8 ++ R = le y 8 ++ R') : x = y ∧ R = R' := by
  have h1 := num8_le x hx R
  rw [h, num8_le y hy R'] at h1
  have h2 := drop_le x 8 R
  rw [h, drop_le] at h2
  exact ⟨h1.symm, h2.symm⟩
theorem le_inj4 {x y : Int} {R R' : List UInt8} (hx : 0 ≤ x ∧ x < 4294967296) (hy : 0 ≤ y ∧ y < 4294967296) (h : le x 4 ++ R = le y 4 ++ R') : x = y ∧ R = R' := by
  have h1 := rdN_4 x hx.1 hx.2 R
  rw [h, rdN_4 y hy.1 hy.2 R'] at h1
  have h2 := drop_le x 4 R
  rw [h, drop_le] at h2
  exact ⟨h1.symm, h2.symm⟩
theorem le_inj1 {x y : Int} {R R' : List UInt8} (hx : 0 ≤ x ∧ x < 256) (hy : 0 ≤ y ∧ y < 256) (h : le x 1 ++ R = le y 1 ++ R') : x = y ∧ R = R' := by
  have h1 := rdN_1 x hx.1 hx.2 R
  rw [h, rdN_1 y hy.1 hy.2 R'] at h1
  have h2 := drop_le x 1 R
  rw [h, drop_le] at h2
  exact ⟨h1.symm, h2.symm⟩
theorem leAll_inj (xs : List Int) : ∀ (ys : List Int) (R R' : List UInt8), xs.length = ys.length → (∀ z ∈ xs, fits z) → (∀ z ∈ ys, fits z) → leAll xs ++ R = leAll ys ++ R' → xs = ys ∧ R = R' := by
  induction xs with
  | nil =>
    intro ys R R' hl _ _ h
    have : ys = [] := List.eq_nil_of_length_eq_zero hl.symm
    subst this
    exact ⟨rfl, h⟩
  | cons x xs ih =>
    intro ys R R' hl hx hy h
    cases ys with
    | nil => cases hl
    | cons y ys =>
      have e1 : leAll (x :: xs) = le x 8 ++ leAll xs := by simp [leAll]
      have e2 : leAll (y :: ys) = le y 8 ++ leAll ys := by simp [leAll]
      rw [e1, e2, List.append_assoc, List.append_assoc] at h
      obtain ⟨h1, h2⟩ := le_inj8 (hx x (List.mem_cons_self ..)) (hy y (List.mem_cons_self ..)) h
      obtain ⟨h3, h4⟩ := ih ys R R' (by simpa using hl) (fun z hz => hx z (List.mem_cons_of_mem _ hz)) (fun z hz => hy z (List.mem_cons_of_mem _ hz)) h2
      exact ⟨by rw [h1, h3], h4⟩
theorem text_inj {s t : ByteArray} {R R' : List UInt8} (hs : s.size ≤ 1000000) (ht : t.size ≤ 1000000) (h : textBytes s ++ R = textBytes t ++ R') : s = t ∧ R = R' := by
  unfold textBytes at h
  rw [List.append_assoc, List.append_assoc] at h
  obtain ⟨e, h⟩ := le_inj8 (by unfold fits; omega) (by unfold fits; omega) h
  have l1 : s.data.toList.length = s.size := Array.length_toList
  have l2 : t.data.toList.length = t.size := Array.length_toList
  obtain ⟨h1, h2⟩ := List.append_inj h (by omega)
  refine ⟨?_, h2⟩
  obtain ⟨a⟩ := s
  obtain ⟨b⟩ := t
  have h1 : a.toList = b.toList := h1
  rw [Array.toList_inj.1 h1]
theorem nd_inj {d e : Nd} {R R' : List UInt8} (hd : NdFit d) (he : NdFit e) (h : ndBytes d ++ R = ndBytes e ++ R') : d = e ∧ R = R' := by
  unfold ndBytes at h
  rw [List.append_assoc, List.append_assoc, List.append_assoc, List.append_assoc] at h
  obtain ⟨h1, h⟩ := leAll_inj (ndNums d) (ndNums e) _ _ rfl hd.nums he.nums h
  unfold ndNums at h1
  simp only [List.cons.injEq, and_true] at h1
  obtain ⟨a1, a2, a3, a4, a5, a6, a7⟩ := h1
  obtain ⟨h2, h⟩ := leAll_inj _ _ _ _ (by omega) hd.list he.list h
  obtain ⟨h3, h⟩ := text_inj (by have := hd.name; omega) (by have := he.name; omega) h
  refine ⟨?_, h⟩
  obtain ⟨d1, d2, d3, d4, d5, d6, d7, d8⟩ := d
  obtain ⟨e1, e2, e3, e4, e5, e6, e7, e8⟩ := e
  simp only at a1 a2 a3 a4 a5 a6 h2 h3
  rw [a1, a2, a3, a4, a5, a6, h2, h3]
theorem rule_inj (ds : List Nd) : ∀ (es : List Nd) (R R' : List UInt8), ds.length = es.length → (∀ d ∈ ds, NdFit d) → (∀ d ∈ es, NdFit d) → seRule ds ++ R = seRule es ++ R' → ds = es ∧ R = R' := by
  induction ds with
  | nil =>
    intro ys R R' hl _ _ h
    have : ys = [] := List.eq_nil_of_length_eq_zero hl.symm
    subst this
    exact ⟨rfl, h⟩
  | cons x xs ih =>
    intro ys R R' hl hx hy h
    cases ys with
    | nil => cases hl
    | cons y ys =>
      have e1 : seRule (x :: xs) = ndBytes x ++ seRule xs := by simp [seRule]
      have e2 : seRule (y :: ys) = ndBytes y ++ seRule ys := by simp [seRule]
      rw [e1, e2, List.append_assoc, List.append_assoc] at h
      obtain ⟨h1, h2⟩ := nd_inj (hx x (List.mem_cons_self ..)) (hy y (List.mem_cons_self ..)) h
      obtain ⟨h3, h4⟩ := ih ys R R' (by simpa using hl) (fun z hz => hx z (List.mem_cons_of_mem _ hz)) (fun z hz => hy z (List.mem_cons_of_mem _ hz)) h2
      exact ⟨by rw [h1, h3], h4⟩
theorem mv_inj {a b : Mv} (h : mvNums a = mvNums b) : a = b := by
  unfold mvNums at h
  simp only [List.cons.injEq, and_true] at h
  obtain ⟨h1, h2, h3, h4, h5⟩ := h
  obtain ⟨a1, a2, a3, a4, a5⟩ := a
  obtain ⟨b1, b2, b3, b4, b5⟩ := b
  simp only at h1 h2 h3 h4 h5
  have e2 : a2 = b2 := by cases a2 <;> cases b2 <;> first | rfl | (simp at h2; done)
  rw [h1, e2, h3, h4, h5]
theorem mvs_inj (ds : List Mv) : ∀ (es : List Mv) (R R' : List UInt8), ds.length = es.length → (∀ x ∈ ds, ∀ z ∈ mvNums x, fits z) → (∀ x ∈ es, ∀ z ∈ mvNums x, fits z) → seMoves ds ++ R = seMoves es ++ R' → ds = es ∧ R = R' := by
  induction ds with
  | nil =>
    intro ys R R' hl _ _ h
    have : ys = [] := List.eq_nil_of_length_eq_zero hl.symm
    subst this
    exact ⟨rfl, h⟩
  | cons x xs ih =>
    intro ys R R' hl hx hy h
    cases ys with
    | nil => cases hl
    | cons y ys =>
      have e1 : seMoves (x :: xs) = leAll (mvNums x) ++ seMoves xs := by simp [seMoves]
      have e2 : seMoves (y :: ys) = leAll (mvNums y) ++ seMoves ys := by simp [seMoves]
      rw [e1, e2, List.append_assoc, List.append_assoc] at h
      obtain ⟨h1, h2⟩ := leAll_inj (mvNums x) (mvNums y) _ _ rfl (hx x (List.mem_cons_self ..)) (hy y (List.mem_cons_self ..)) h
      obtain ⟨h3, h4⟩ := ih ys R R' (by simpa using hl) (fun z hz => hx z (List.mem_cons_of_mem _ hz)) (fun z hz => hy z (List.mem_cons_of_mem _ hz)) h2
      exact ⟨by rw [mv_inj h1, h3], h4⟩
theorem se_inj {s t : Ser} (gs : SerGood s) (gt : SerGood t) (n1 : s.rule.length ≤ 64) (n2 : t.rule.length ≤ 64) (f1 : ∀ d ∈ s.rule, NdFit d) (f2 : ∀ d ∈ t.rule, NdFit d) (m1 : ∀ x ∈ s.moves, ∀ z ∈ mvNums x, fits z) (m2 : ∀ x ∈ t.moves, ∀ z ∈ mvNums x, fits z)
    (h : seBytes s = seBytes t) : s = t := by
  rw [seBytes_split, seBytes_split] at h
  obtain ⟨a1, h⟩ := le_inj8 (by unfold fits; omega) (by unfold fits; omega) h
  obtain ⟨a2, h⟩ := rule_inj _ _ _ _ (by omega) f1 f2 h
  unfold seTail at h
  obtain ⟨a3, h⟩ := leAll_inj [s.minute, s.length] [t.minute, t.length] _ _ rfl (by have := gs.mi; have := gs.le; intro z hz; simp only [List.mem_cons, List.not_mem_nil, or_false] at hz; unfold fits; rcases hz with rfl | rfl <;> omega) (by have := gt.mi; have := gt.le; intro z hz; simp only [List.mem_cons, List.not_mem_nil, or_false] at hz; unfold fits; rcases hz with rfl | rfl <;> omega) h
  simp only [List.cons.injEq, and_true] at a3
  obtain ⟨a4, h⟩ := text_inj (by have := gs.zo; omega) (by have := gt.zo; omega) h
  obtain ⟨a5, h⟩ := leAll_inj [s.gap, s.fold] [t.gap, t.fold] _ _ rfl (by have := gs.ga; have := gs.fo; intro z hz; simp only [List.mem_cons, List.not_mem_nil, or_false] at hz; unfold fits; rcases hz with rfl | rfl <;> omega) (by have := gt.ga; have := gt.fo; intro z hz; simp only [List.mem_cons, List.not_mem_nil, or_false] at hz; unfold fits; rcases hz with rfl | rfl <;> omega) h
  simp only [List.cons.injEq, and_true] at a5
  obtain ⟨a6, h⟩ := le_inj8 (by have := gs.ml; unfold fits; omega) (by have := gt.ml; unfold fits; omega) h
  obtain ⟨a7, _⟩ := mvs_inj _ _ _ _ (by omega) m1 m2 h
  obtain ⟨s1, s2, s3, s4, s5, s6, s7⟩ := s
  obtain ⟨t1, t2, t3, t4, t5, t6, t7⟩ := t
  simp only at a2 a3 a4 a5 a7
  rw [a2, a3.1, a3.2, a4, a5.1, a5.2, a7]
theorem cells_inj (xs : List Int) : ∀ (ys : List Int) (R R' : List UInt8), xs.length = ys.length → (∀ z ∈ xs, 0 ≤ z ∧ z ≤ 255) → (∀ z ∈ ys, 0 ≤ z ∧ z ≤ 255) → cellBytes xs ++ R = cellBytes ys ++ R' → xs = ys ∧ R = R' := by
  induction xs with
  | nil =>
    intro ys R R' hl _ _ h
    have : ys = [] := List.eq_nil_of_length_eq_zero hl.symm
    subst this
    exact ⟨rfl, h⟩
  | cons x xs ih =>
    intro ys R R' hl hx hy h
    cases ys with
    | nil => cases hl
    | cons y ys =>
      have e1 : cellBytes (x :: xs) = le x 1 ++ cellBytes xs := by simp [cellBytes]
      have e2 : cellBytes (y :: ys) = le y 1 ++ cellBytes ys := by simp [cellBytes]
      rw [e1, e2, List.append_assoc, List.append_assoc] at h
      obtain ⟨h1, h2⟩ := le_inj1 (by have := hx x (List.mem_cons_self ..); omega) (by have := hy y (List.mem_cons_self ..); omega) h
      obtain ⟨h3, h4⟩ := ih ys R R' (by simpa using hl) (fun z hz => hx z (List.mem_cons_of_mem _ hz)) (fun z hz => hy z (List.mem_cons_of_mem _ hz)) h2
      exact ⟨by rw [h1, h3], h4⟩
/-- Two letters agree in a field. -/
def FldEq (L M : Lt) (k : Nat) : Prop :=
  if (numOff k).isSome = true then numF L k = numF M k else if k = 9 then L.move = M.move else if k = 10 then L.series = M.series else if k = 14 then L.wfrom = M.wfrom ∧ L.wto = M.wto else if k = 15 then L.cells = M.cells else L.ref = M.ref
theorem FldZ.eq {L M : Lt} {k : Nat} (h : FldZ L k) (h' : FldZ M k) : FldEq L M k := by
  unfold FldZ at h h'
  unfold FldEq
  split at h
  · rename_i e; rw [if_pos e] at h' ⊢; rw [h, h']
  · rename_i e; rw [if_neg e] at h' ⊢
    split at h
    · rename_i e; rw [if_pos e] at h' ⊢; rw [h, h']
    · rename_i e; rw [if_neg e] at h' ⊢
      split at h
      · rename_i e; rw [if_pos e] at h' ⊢; rw [h, h']
      · rename_i e; rw [if_neg e] at h' ⊢
        split at h
        · rename_i e; rw [if_pos e] at h' ⊢; rw [h.1, h.2, h'.1, h'.2]; exact ⟨rfl, rfl⟩
        · rename_i e; rw [if_neg e] at h' ⊢
          split at h
          · rename_i e; rw [if_pos e] at h' ⊢; rw [h, h']
          · rename_i e; rw [if_neg e] at h' ⊢; rw [h, h']
theorem low_step {L M : Lt} (k : Nat) (hk : k < 17) (e : lowTo L k = lowTo M k) (f : FldEq L M k) : lowTo L (k + 1) = lowTo M (k + 1) :=
  all17 (p := fun k => lowTo L k = lowTo M k → FldEq L M k → lowTo L (k + 1) = lowTo M (k + 1)) (by
    refine ⟨?_, ?_, ?_, ?_, ?_, ?_, ?_, ?_, ?_, ?_, ?_, ?_, ?_, ?_, ?_, ?_, ?_⟩ <;> (intro e f; simp [FldEq, numOff, numF] at f; simp [lowTo] at e ⊢; simp only [e, f, and_self])) k hk e f
section
variable {L M : Lt} {a b : List UInt8}
theorem mvb_inj {m m' : Mv} {R R' : List UInt8} (h1 : fits m.day ∧ fits m.toDay ∧ fits m.minute ∧ fits m.length) (h2 : fits m'.day ∧ fits m'.toDay ∧ fits m'.minute ∧ fits m'.length)
    (h : le m.day 8 ++ (le (if m.drop then 1 else 0) 1 ++ (le m.toDay 8 ++ (le m.minute 8 ++ (le m.length 8 ++ R)))) = le m'.day 8 ++ (le (if m'.drop then 1 else 0) 1 ++ (le m'.toDay 8 ++ (le m'.minute 8 ++ (le m'.length 8 ++ R'))))) : m = m' ∧ R = R' := by
  obtain ⟨a1, h⟩ := le_inj8 h1.1 h2.1 h
  obtain ⟨a2, h⟩ := le_inj1 (by split <;> omega) (by split <;> omega) h
  obtain ⟨a3, h⟩ := le_inj8 h1.2.1 h2.2.1 h
  obtain ⟨a4, h⟩ := le_inj8 h1.2.2.1 h2.2.2.1 h
  obtain ⟨a5, h⟩ := le_inj8 h1.2.2.2 h2.2.2.2 h
  exact ⟨mv_inj (by unfold mvNums; rw [a1, a2, a3, a4, a5]), h⟩
theorem fld_step (hL : RdOK L a) (hM : RdOK M b) (hkd : L.kind = M.kind) (k : Nat) (hk : k < 17) (h : fldsFrom L a k = fldsFrom M b k) : FldEq L M k ∧ fldsFrom L a (k + 1) = fldsFrom M b (k + 1) := by
  cases hu : usesB L.kind k with
  | false =>
    have hu' : usesB M.kind k = false := by rw [← hkd]; exact hu
    rw [fldsFrom_skip L a k hk hu, fldsFrom_skip M b k hk hu'] at h
    exact ⟨(hL.zero k hk hu).eq (hM.zero k hk hu'), h⟩
  | true =>
    have hu' : usesB M.kind k = true := by rw [← hkd]; exact hu
    cases ho : numOff k with
    | some o =>
      have hs : (numOff k).isSome = true := by rw [ho]; rfl
      rw [fldsFrom_num L a k hk hu hs, fldsFrom_num M b k hk hu' hs] at h
      obtain ⟨h1, h2⟩ := le_inj8 (hL.fit.num k hk) (hM.fit.num k hk) h
      exact ⟨by unfold FldEq; rw [if_pos hs]; exact h1, h2⟩
    | none =>
      rcases none_at k hk ho with rfl | rfl | rfl | rfl | rfl
      · rw [fldsFrom_9 L a hu, fldsFrom_9 M b hu'] at h
        exact mvb_inj hL.fit.mv hM.fit.mv h
      · rw [fldsFrom_10 L a hu, fldsFrom_10 M b hu'] at h
        rcases hL.ser with ⟨e1, e2⟩ | ⟨N, e1, hN, hN0, hN2, h64, hg, _, hfit, hmf⟩
        · rcases hM.ser with ⟨e1', e2'⟩ | ⟨N', e1', hN', hN0', hN2', _⟩
          · rw [e1, e1'] at h
            exact ⟨e2.trans e2'.symm, (le_inj4 (by omega) (by omega) h).2⟩
          · rw [e1, e1', List.append_assoc] at h
            have := (le_inj4 (by omega) (by omega) h).1
            omega
        · rcases hM.ser with ⟨e1', e2'⟩ | ⟨N', e1', hN', hN0', hN2', h64', hg', _, hfit', hmf'⟩
          · rw [e1, e1', List.append_assoc] at h
            have := (le_inj4 (by omega) (by omega) h).1
            omega
          · rw [e1, e1', List.append_assoc, List.append_assoc] at h
            obtain ⟨h1, h2⟩ := le_inj4 (by omega) (by omega) h
            obtain ⟨h3, h4⟩ := List.append_inj h2 (by omega)
            exact ⟨se_inj hg hg' h64 h64' hfit hfit' hmf hmf' h3, h4⟩
      · rw [fldsFrom_14 L a hu, fldsFrom_14 M b hu'] at h
        obtain ⟨h1, h⟩ := le_inj8 hL.fit.wf.1 hM.fit.wf.1 h
        obtain ⟨h2, h⟩ := le_inj8 hL.fit.wf.2 hM.fit.wf.2 h
        exact ⟨⟨h1, h2⟩, h⟩
      · rw [fldsFrom_15 L a hu, fldsFrom_15 M b hu'] at h
        obtain ⟨h1, h⟩ := le_inj4 (by have := hL.clen; omega) (by have := hM.clen; omega) h
        exact cells_inj _ _ _ _ (by omega) hL.cells hM.cells h
      · rw [fldsFrom_16 L a hu, fldsFrom_16 M b hu'] at h
        exact List.append_inj h (by rw [hL.ref, hM.ref])
/-- Two letters with the same encoding are the same. -/
theorem lt_inj (hL : RdOK L a) (hM : RdOK M b) (h : ltBytes L a = ltBytes M b) : L = M := by
  rw [ltBytes_read, ltBytes_read] at h
  obtain ⟨k1, h⟩ := le_inj1 hL.kind hM.kind h
  obtain ⟨k2, h⟩ := le_inj1 hL.src hM.src h
  obtain ⟨k3, h⟩ := le_inj1 hL.dst hM.dst h
  have hall : ∀ k, k ≤ 17 → lowTo L k = lowTo M k ∧ fldsFrom L a k = fldsFrom M b k := by
    intro k
    induction k with
    | zero => exact fun _ => ⟨by simp [lowTo, k1, k2, k3], h⟩
    | succ k ih =>
      intro hk
      obtain ⟨i1, i2⟩ := ih (by omega)
      obtain ⟨f1, f2⟩ := fld_step hL hM k1 k (by omega) i2
      exact ⟨low_step k (by omega) i1 f1, f2⟩
  have := (hall 17 (Nat.le_refl _)).1
  rwa [lowTo_17, lowTo_17] at this
end
end Go.Proofs.YthhbbebabmemfaaGreat
