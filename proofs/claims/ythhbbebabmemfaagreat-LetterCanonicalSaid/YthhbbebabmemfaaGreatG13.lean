/- The texts RbW, RbY, RdN, RbZ, Can, in this order. -/
import Derived.Test.YthhbbebabmemfaaGreatG12
import Derived.Laws.IdiomCopy
import Derived.BigQuiet
import Derived.Deep.AppendLies
import Derived.Deep.CutBlock
import Derived.Deep.DeepCutAuto
import Derived.Deep.DrawnRows
import Derived.Deep.MidRow
import Derived.Deep.QuietTactic
import Derived.Deep.RegionHeld3
import Derived.Deep.RegionLaw
import Derived.Deep.WholeRow
import Derived.Defers
import Derived.Great.BuildSlice
import Derived.Laws.BitsAllLaws
import Derived.Laws.BytesArg
import Derived.Laws.BytesString
import Derived.Laws.CopyOwn
import Derived.Laws.Cover3
import Derived.Laws.EntriesVeiled
import Derived.Laws.MakeOwn
import Derived.Laws.ResultCell
import Derived.Laws.Rows
import Derived.Laws.Tables
import Derived.Lib.AppendStr
import Derived.Lib.ByteType
import Derived.Lib.Hide
import Derived.LoopIn
import Derived.LoopNIn
import Derived.MapKept
import Derived.Maps.AppendAt
import Derived.Outline
import Derived.OwnWalkIn
import Derived.RangeFuncBound
import Derived.RangeFuncBox
import Derived.RangeFuncCalls
import Derived.RangeFuncLeaves
import Derived.RangeFuncNested
import Derived.Recover
import Derived.Shelf.Abstract
import Derived.Shelf.Bytes.SlSmallAll
import Derived.Shelf.RegionOpen
import Derived.StillTailTactics
import Derived.Stop.BytesEq
import Derived.TacticsInMore
import Derived.WalkKit
import Derived.WalkLawsBesides
import Derived.WalkSpells
import Derived.Test.YthhbbebabmemfaaGreatG09
import Derived.Laws.AppendOwnNone
import Derived.Test.YthhbbebabmemfaaGreatG06
import Derived.Test.YthhbbebabmemfaaGreatSan
/- The letter's reader on any bytes: window, move, ref. -/
namespace Go.Proofs.YthhbbebabmemfaaGreat
open Go Go.RowKit

attribute [local go_sem] ltVal_get
set_option maxRecDepth 10000 in
set_option maxHeartbeats 2000000 in
theorem rwindow_any (w wm w1 : World) (N : Nat) (l : Lt) (s : Sl) (h : LIb w wm w1 N l s) :
    Calls Tryz.prog 18 #[pt (w.heap.size + 3)] w1 fun e w2 => e = .returned (.tuple #[]) ∧ ∃ x y, LIb w wm w2 N { l with wfrom := x, wto := y } s := by
  have HD := Lib.hid h.draw
  have hc := h.rdr
  have hsz := h.sz
  clear h
  go_enter Tryz.func18, Tryz.ntmps18
  go_wp2_with fail
  go_region_law (go_simp; go_at_call 15; refine HD.out.number8.mono ?_; rintro e w5 ⟨x, rfl, h5⟩; have H5 := Lib.hid h5; have hc5 := h5.rdr; have hv5 : w5.cell? ⟨w.heap.size + 1, 27, none⟩ = some (I l.wfrom) := h5.row.2 27; have hf5 := h5.froz 27; have hs5 := h5.sz; clear h5)
  all_goals
    have H6 : Hid (LIb w wm (w5.setCell ⟨w.heap.size + 1, 27, none⟩ (I x)) N { l with wfrom := x } s) := Lib.hid (H5.out.store rfl)
    have hc6 := H6.out.rdr
    have HD6 := Lib.hid H6.out.draw
    go_wp2_with fail
    go_region_law (go_simp; go_at_call 15; refine HD6.out.number8.mono ?_; rintro e w7 ⟨y, rfl, h7⟩; have H7 := Lib.hid h7; have hc7 := h7.rdr; have hv7 : w7.cell? ⟨w.heap.size + 1, 28, none⟩ = some (I l.wto) := h7.row.2 28; have hf7 := h7.froz 28; have hs7 := h7.sz; clear h7)
    all_goals
      have H8 : Hid (LIb w wm (w7.setCell ⟨w.heap.size + 1, 28, none⟩ (I y)) N { l with wfrom := x, wto := y } s) := Lib.hid (H7.out.store rfl)
      go_wp2_with fail
      go_end0
      exact ⟨rfl, x, y, H8.out⟩
set_option maxRecDepth 10000 in
set_option maxHeartbeats 2000000 in
theorem rmove_any (w wm w1 : World) (N : Nat) (l : Lt) (s : Sl) (h : LIb w wm w1 N l s) :
    Calls Tryz.prog 16 #[pt (w.heap.size + 3)] w1 fun e w2 => e = .returned (.tuple #[]) ∧ ∃ m, LIb w wm w2 N { l with move := m } s := by
  have G0 := Lib.hid h
  have hc := h.rdr
  have hsz := h.sz
  clear h
  go_enter Tryz.func16, Tryz.ntmps16
  go_wp2_with fail
  refine G0.out.number8.mono ?_
  rintro e w2 ⟨dy, rfl, g1⟩
  have v1 : w2.cell? ⟨w.heap.size + 1, 12, none⟩ = some (I l.move.day) := g1.row.2 12
  have f1 := g1.froz 12
  have G1 := Lib.hid (g1.store (l' := { l with move := { l.move with day := dy } }) (s' := s) (o := 12) (v := I dy) rfl)
  clear g1
  go_wp2_with fail
  refine G1.out.number1.mono ?_
  rintro e w3 ⟨x, rfl, g2⟩
  have v2 : w3.cell? ⟨w.heap.size + 1, 13, none⟩ = some (.bool l.move.drop) := g2.row.2 13
  have f2 := g2.froz 13
  obtain ⟨dr, hdr⟩ : ∃ dr : Bool, (x == 1) = dr := ⟨_, rfl⟩
  have G2 := Lib.hid (g2.store (l' := { l with move := { l.move with day := dy, drop := dr } }) (s' := s) (o := 13) (v := .bool dr) rfl)
  clear g2
  go_wp2_with fail
  refine G2.out.number8.mono ?_
  rintro e w4 ⟨td, rfl, g3⟩
  have v3 : w4.cell? ⟨w.heap.size + 1, 14, none⟩ = some (I l.move.toDay) := g3.row.2 14
  have f3 := g3.froz 14
  have G3 := Lib.hid (g3.store (l' := { l with move := { l.move with day := dy, drop := dr, toDay := td } }) (s' := s) (o := 14) (v := I td) rfl)
  clear g3
  go_wp2_with fail
  refine G3.out.number8.mono ?_
  rintro e w5 ⟨mi, rfl, g4⟩
  have v4 : w5.cell? ⟨w.heap.size + 1, 15, none⟩ = some (I l.move.minute) := g4.row.2 15
  have f4 := g4.froz 15
  have G4 := Lib.hid (g4.store (l' := { l with move := { l.move with day := dy, drop := dr, toDay := td, minute := mi } }) (s' := s) (o := 15) (v := I mi) rfl)
  clear g4
  go_wp2_with fail
  refine G4.out.number8.mono ?_
  rintro e w6 ⟨ln, rfl, g5⟩
  have v5 : w6.cell? ⟨w.heap.size + 1, 16, none⟩ = some (I l.move.length) := g5.row.2 16
  have f5 := g5.froz 16
  have G5 := Lib.hid (g5.store (l' := { l with move := { l.move with day := dy, drop := dr, toDay := td, minute := mi, length := ln } }) (s' := s) (o := 16) (v := I ln) rfl)
  clear g5
  go_wp2_with fail
  go_end0
  exact ⟨rfl, _, G5.out⟩
/-- copy of nothing, as one step of a region that draws its order. -/
theorem step_copy_none {P : Program} {ops : Array Oper} {o : Oper} {a : Act} {w : World} {K : Act → World → Prop} {Q : Exit → Act → World → Prop} {E : Prop} (hgd : o.guard = none) (d s : Operand) (dT sT : TypeId)
    (ho : o.op = .call { callee := .builtin .copy, args := #[d, s], argTypes := #[dT, sT] }) (elem : TypeId) (hu : P.underlying dT = some (.slice elem)) (hsz : (P.info? elem).map (·.size) = some 1)
    (A B : Option Addr) (dLen dCap sLen sCap : Nat) (hd : a.eval d = .slice A dLen dCap) (hs : a.eval s = .slice B sLen sCap) (hn : Nat.min sLen dLen = 0) (h : K (a.put o.dst (goInt 0)) w) :
    if Region.wanted o (yielded ops a.tmps) = true then Oper.wp P o a w K Q else E := by
  have hw : Region.wanted o (yielded ops a.tmps) = true := by simp [Region.wanted, hgd]
  rw [if_pos hw]
  have hrun := run_copy_none (P := P) w dT sT o.type elem A B dLen dCap sLen sCap hu hsz hn
  unfold Oper.wp
  simp [execOp, ho, resolve, invoke, builtin, hd, hs, hrun, Result.andThen]
  exact h
set_option maxRecDepth 10000 in
set_option maxHeartbeats 2000000 in
theorem rref_short (w wm w1 : World) (N : Nat) (l : Lt) (s : Sl) (rest : List UInt8) (bad : Bool) (hN : rest.length ≤ N) (hr : RStL w1 (w.heap.size + 2) (w.heap.size + 1) w.heap.size rest bad) (hb : bad = true ∨ rest.length < 32) (h : LIb w wm w1 N l s) :
    Calls Tryz.prog 20 #[pt (w.heap.size + 3)] w1 fun e w2 => e = .returned (.tuple #[]) ∧ LIb w wm w2 N l s := by
  have HT : Hid (Calls Tryz.prog 44 #[I 32, pt (w.heap.size + 4), pt (w.heap.size + 2)] w1.drew fun e w2 => e = .returned (.slice none 0 0) ∧ LIb w wm w2 N l s) :=
    Lib.hid (LIb.takeNo (n := 32) h.draw hN (by obtain ⟨A, c, hr, h1, h2, h3, h4⟩ := hr; exact ⟨A, c, hr.draw, h1, h2, h3, h4⟩) hb)
  have hc := h.rdr
  have hf := h.fn
  have hsz := h.sz
  clear h hN hr hb
  go_enter Tryz.func20, Tryz.ntmps20
  go_wp2_with fail
  go_region_law (first
    | (go_simp; go_at_call 44; refine HT.out.mono ?_; rintro e w5 ⟨rfl, h5⟩; have H5 := Lib.hid h5; have hc5 := h5.rdr; have hv5 := h5.fn; have hs5 := h5.sz; clear h5)
    | (refine step_copy_none (by rfl) _ _ _ _ (by rfl) 5 Tryz.underlying22 (by kernel_rfl) (some ⟨w.heap.size + 1, 30, none⟩) none 32 32 0 0 (by rfl) (by rfl) (by rfl) ?_))
  all_goals
    go_wp2_with fail
    go_end0
    exact ⟨rfl, H5.out⟩
theorem rref_any (w wm w1 : World) (N : Nat) (l : Lt) (s : Sl) (hl : l.ref.length = 32) (h : LIb w wm w1 N l s) :
    Calls Tryz.prog 20 #[pt (w.heap.size + 3)] w1 fun e w2 => e = .returned (.tuple #[]) ∧ ∃ xs, xs.length = 32 ∧ LIb w wm w2 N { l with ref := xs } s := by
  obtain ⟨rest, bad, hN, hr⟩ := h.st
  by_cases hb : bad = true ∨ rest.length < 32
  · exact (rref_short w wm w1 N l s rest bad hN hr hb h).mono fun e w2 ⟨h1, h2⟩ => ⟨h1, l.ref, hl, h2⟩
  · have hb2 : bad = false := by cases bad with
      | true => exact absurd (.inl rfl) hb
      | false => rfl
    subst hb2
    have h32 : 32 ≤ rest.length := by omega
    have hi := h.known hr
    rw [← List.take_append_drop 32 rest] at hi
    have ht : (rest.take 32).length = 32 := by rw [List.length_take]; omega
    exact (rref_yes w wm w1 l s _ _ ht hl hi).mono fun e w2 ⟨h1, h2⟩ => ⟨h1, _, ht, h2.any (by rw [List.length_drop]; omega)⟩
/-- The number ahead of too few bytes, or of a reader that has failed. -/
def Lack (rest : List UInt8) (bad : Bool) : Prop := tkB rest bad 4 = true ∨ ((tkR rest bad 4).length : Int) < rdN rest bad 4
theorem split4 (rest : List UInt8) (bad : Bool) (h : ¬ Lack rest bad) : bad = false ∧ ∃ (n : Nat) (xs R : List UInt8), rest = le (n : Int) 4 ++ (xs ++ R) ∧ xs.length = n := by
  unfold Lack at h
  have h1 : tkB rest bad 4 = false := by
    cases hb : tkB rest bad 4 with
    | true => exact absurd (.inl hb) h
    | false => rfl
  have h2 : ¬ ((tkR rest bad 4).length : Int) < rdN rest bad 4 := fun hlt => h (.inr hlt)
  have h3 := h1
  unfold tkB at h3
  rw [Bool.or_eq_false_iff] at h3
  obtain ⟨hb, hl⟩ := h3
  subst hb
  have hl4 : 4 ≤ rest.length := by have := of_decide_eq_false hl; omega
  obtain ⟨x, h0, hx, e⟩ := le_of4 rest hl4
  have hr : rdN rest false 4 = x := by
    rw [e]
    exact rdN_4 x h0 hx _
  have ht : tkR rest false 4 = rest.drop 4 := by unfold tkR; rw [h1]; rfl
  rw [hr, ht] at h2
  obtain ⟨n, rfl⟩ := Int.eq_ofNat_of_zero_le h0
  refine ⟨rfl, n, (rest.drop 4).take n, (rest.drop 4).drop n, ?_, ?_⟩
  · rw [List.take_append_drop]; exact e
  · rw [List.length_take]; omega
theorem LIb.numberNo {w wm w1 : World} {N : Nat} {l : Lt} {s : Sl} {rest : List UInt8} {bad : Bool} (h : LIb w wm w1 N l s) (hN : rest.length ≤ N) (hr : RStL w1 (w.heap.size + 2) (w.heap.size + 1) w.heap.size rest bad) (hk : Lack rest bad) :
    Calls Tryz.prog 15 #[pt (w.heap.size + 3), I 4] w1 fun e w2 => ∃ n : Nat, e = .returned (I n) ∧ LIb w wm w2 N l s ∧ Calls Tryz.prog 44 #[I n, pt (w.heap.size + 4), pt (w.heap.size + 2)] w2 fun e w3 => e = .returned (.slice none 0 0) ∧ LIb w wm w3 N l s := by
  refine (rnumber_anyL w1 (w.heap.size + 2) (w.heap.size + 1) w.heap.size 4 rest bad (by omega) (by have := h.sz; omega) hr (by omega)).mono fun e w2 ⟨h1, h2, h3⟩ => ?_
  have hNR : (tkR rest bad 4).length ≤ N := Nat.le_trans (tkR_le _ _ _) hN
  have h0 := rdN_nn rest bad 4 (Nat.le_refl _)
  unfold Lack at hk
  obtain ⟨n, hn⟩ := Int.eq_ofNat_of_zero_le h0
  rw [hn] at h1 hk
  have hi := h.read hNR h2 h3
  exact ⟨n, h1, hi, hi.takeNo hNR h2 (hk.imp id fun h => by omega)⟩
set_option maxRecDepth 10000 in
set_option maxHeartbeats 2000000 in
theorem rcells_short (w wm w1 : World) (N : Nat) (l : Lt) (s : Sl) (rest : List UInt8) (bad : Bool) (hN : rest.length ≤ N) (hr : RStL w1 (w.heap.size + 2) (w.heap.size + 1) w.heap.size rest bad) (hk : Lack rest bad) (h : LIb w wm w1 N l s) :
    Calls Tryz.prog 19 #[pt (w.heap.size + 3)] w1 fun e w2 => e = .returned (.tuple #[]) ∧ LIb w wm w2 N l s := by
  have HT := Lib.hid (h.numberNo hN hr hk)
  clear h hN hr hk
  go_enter Tryz.func19, Tryz.ntmps19
  go_wp2_with fail
  refine HT.out.mono ?_
  rintro e w2 ⟨n, rfl, h2, ht⟩
  have HT2 := Lib.hid ht
  have hc2 := h2.rdr
  have hf2 := h2.fn
  clear h2 ht HT
  go_wp2_with fail
  refine HT2.out.mono ?_
  rintro e w3 ⟨rfl, h3⟩
  have H3 := Lib.hid h3
  clear h3 HT2 hc2 hf2
  go_wp2_with fail
  go_loopw [14] (fun i wr => i = I 0 ∧ LIb w wm wr N l s) (fun _ _ => 0)
  case atStart => exact ⟨rfl, H3.out⟩
  case round =>
    obtain ⟨rfl, hs⟩ := hrel
    have HS := Lib.hid hs
    clear hs
    go_wp2_with fail
    go_end0
    exact ⟨rfl, HS.out⟩
theorem rcells_any (w wm w1 : World) (N : Nat) (l : Lt) (s : Sl) (hN6 : N ≤ 65536) (hwm : w.heap.size + 4 < wm.heap.size) (hc0 : l.cells = []) (hC : s.C = none) (he : s.e = 0) (h : LIb w wm w1 N l s) :
    Calls Tryz.prog 19 #[pt (w.heap.size + 3)] w1 fun e w2 => e = .returned (.tuple #[]) ∧ ∃ zs C e', zs.length ≤ N ∧ (∀ z ∈ zs, 0 ≤ z ∧ z ≤ 255) ∧ LIb w wm w2 N { l with cells := zs } { s with C := C, e := e' } ∧ w2.ownsRow wm.heap.size 3 1 (.slice C zs.length e') zs.length (zs.map I) := by
  obtain ⟨rest, bad, hN, hr⟩ := h.st
  by_cases hk : Lack rest bad
  · refine (rcells_short w wm w1 N l s rest bad hN hr hk h).mono fun e w2 ⟨h1, h2⟩ => ⟨h1, [], none, 0, Nat.zero_le _, fun z hz => (nomatch hz), ?_, World.ownsRow_nil _ _ _ _⟩
    have e1 : ({ l with cells := [] } : Lt) = l := by rw [← hc0]
    have e2 : ({ s with C := none, e := 0 } : Sl) = s := by cases s; simp only at hC he; rw [hC, he]
    rw [e1, e2]
    exact h2
  · obtain ⟨rfl, n, xs, R, e0, hx⟩ := split4 rest bad hk
    subst e0
    have hi := h.known hr
    rw [List.length_append, List.length_append, le_length] at hN
    obtain ⟨zs, hzs⟩ : ∃ zs : List Int, xs.map (fun b => (b.toNat : Int)) = zs := ⟨_, rfl⟩
    have hzl : zs.length = n := by rw [← hzs, List.length_map, hx]
    have hzb : ∀ z ∈ zs, 0 ≤ z ∧ z ≤ 255 := fun z hz => by
      rw [← hzs] at hz
      obtain ⟨b, _, rfl⟩ := List.mem_map.1 hz
      have := b.toNat_lt
      omega
    have hcb : cellBytes zs = xs := by
      rw [cellBytes_map, ← hzs, List.map_map]
      refine (List.map_congr_left fun b _ => ?_).trans (List.map_id xs)
      apply UInt8.toNat_inj.1
      have := byteOf_nat (b.toNat : Int)
      have h2 := b.toNat_lt
      show (byteOf (b.toNat : Int)).toNat = b.toNat
      omega
    rw [← hcb] at hi
    refine (rcells_yes w wm w1 l s R zs n hzl (by omega) hzb hwm hc0 hC he hi).mono fun e w2 ⟨h1, C, e', h2, h3⟩ => ⟨h1, zs, C, e', by omega, hzb, h2.any (by omega), ?_⟩
    rw [hzl]
    exact h3
/-- What the reader's series gives: none, or a good one in memory of its own. -/
def SerGot (lo : Nat) (w2 : World) (se : Ser) (A : Option Addr) (c : Nat) (B : Option Addr) (d : Nat) : Prop :=
  (se = zSer ∧ A = none ∧ c = 0 ∧ B = none ∧ d = 0) ∨ ∃ ns : List NdV, SerGood se ∧ (∀ ns : List NdV, ns.map (·.d) = se.rule → RuleOK ns) ∧ ns.map (·.d) = se.rule ∧ RuleIs lo w2 (.slice A se.rule.length c) ns ∧ w2.ownsRow lo 26 5 (.slice B se.moves.length d) se.moves.length (mvsCells se.moves)
def RsPost (w wm : World) (M : Nat) (l : Lt) (s : Sl) (e : Ending) (w2 : World) : Prop :=
  e = .returned (.tuple #[]) ∧ ∃ se A c B d, LIb w wm w2 M { l with series := se } { s with A := A, c := c, B := B, d := d } ∧ SerGot wm.heap.size w2 se A c B d
theorem LIn.setBad {w wm w1 : World} {N : Nat} {l : Lt} {s : Sl} {rest : List UInt8} (h : LIn w wm w1 l s rest) (hN : rest.length ≤ N) : LIb w wm (w1.setCell ⟨w.heap.size + 3, 2, none⟩ (.bool true)) N l s := by
  have hs := h.sz
  obtain ⟨A, c, hr, h1, h2, h3, h4⟩ := h.st
  have hlo : Below w.heap.size w1 (w1.setCell ⟨w.heap.size + 3, 2, none⟩ (.bool true)) := (Below.refl _ w1).setCell (p := ⟨w.heap.size + 3, 2, none⟩) (by show w.heap.size ≤ w.heap.size + 3; omega) _
  exact ⟨(heap_setCell_other w1 _ _ _ (by simp)).trans h.blk, ⟨rest, true, hN, A, c, hr.setBad true, h1, h2, h3.keep hlo, h4⟩, (heap_setCell_other w1 _ _ _ (by simp)).trans h.res, h.lo.trans hlo, Nat.lt_of_lt_of_le h.sz hlo.size, Nat.le_trans h.msz hlo.size,
    fun k h5 h6 => (heap_setCell_other w1 _ k _ (by show k ≠ w.heap.size + 3; omega)).trans (h.mem k h5 h6)⟩
set_option maxRecDepth 10000 in
set_option maxHeartbeats 2000000 in
theorem rseries_read (w wm w1 : World) (l : Lt) (s : Sl) (bs R : List UInt8) (N M : Nat) (hN : bs.length = N) (hN0 : 0 < N) (hN2 : N ≤ 1000000) (hM : R.length ≤ M) (hwm : w.heap.size + 4 < wm.heap.size) (hl : l.ref.length = 32) (h : LIn w wm w1 l s (le (N : Int) 4 ++ (bs ++ R))) :
    Calls Tryz.prog 17 #[pt (w.heap.size + 3)] w1 (RsPost w wm M l s) := by
  have H0 := Lib.hid h
  have HN := Lib.hid hN
  have HRM := Lib.hid hM
  have HZ : Hid ((ltVal l s).size = 62) := Lib.hid (lt_size _ _ _ _ hl)
  have HR : Hid (∀ W b off c, b < W.heap.size → (∀ j, j < N → W.cell? ⟨b, off + j, none⟩ = some (Extern.Stop.cell (bs[j]?.getD 0))) → Calls Tryz.prog 47 #[.slice (some ⟨b, off, none⟩) N c] W (SrAny W bs)) :=
    Lib.hid fun W b off c hb hA => seriesRead_any W bs b off c N hN hN0 hN2 hb hA
  have hNp : (0 : Int) < (N : Int) := by omega
  clear h hN hl hM
  go_enter Tryz.func17, Tryz.ntmps17
  go_wp2_with fail
  refine (H0.out.number4 (by omega) (by omega)).mono ?_
  rintro e w2 ⟨rfl, h2⟩
  have H2 := Lib.hid h2
  have hc2 := h2.rdr
  have hf2 := h2.fn
  clear h2 H0
  go_wp2_with fail
  refine (H2.out.takeN HN.out hN0).mono ?_
  rintro e w3 ⟨b, off, c, rfl, hb, hcl, h3⟩
  have H3 := Lib.hid h3
  have HRD : Hid (Calls Tryz.prog 47 #[.slice (some ⟨b, off, none⟩) N c] w3 (SrAny w3 bs)) := Lib.hid (HR.out w3 b off c (Nat.lt_of_lt_of_le hb h3.lo.size) hcl)
  clear h3 H2 hc2 hf2 hcl HR hb
  go_wp2_with fail
  refine HRD.out.mono ?_
  rintro e w4 (hyes | hno)
  · obtain ⟨se, hgood, hok, _, A, n, c2, B, m, ec, ns, rfl, rfl, rfl, hmap, hrule, hmov, hb4⟩ := hyes
    have HGO := Lib.hid hgood
    have HOK := Lib.hid hok
    have HM := Lib.hid hmap
    have HRU := Lib.hid hrule
    have HMV := Lib.hid hmov
    have H4 := Lib.hid (H3.out.grow hb4)
    have HMS : Hid (wm.heap.size ≤ w3.heap.size) := Lib.hid H3.out.msz
    have HSZ4 : Hid (w3.heap.size ≤ w4.heap.size) := Lib.hid hb4.size
    clear hmap hrule hmov hb4 H3 HRD hgood hok
    rw [show serP (.slice A se.rule.length c2) se.minute se.length se.zone se.gap se.fold (.slice B se.moves.length ec) = seC se A B c2 ec from rfl]
    go_wp2_with (first
      | (with_reducible refine g_alloc 31 ?_; refine wpList_alloc_as rfl _ rfl zSerC (by kernel_rfl) ?_)
      | (with_reducible refine g_store 31 ?_; refine wpList_store_newrow rfl _ _ _ rfl (seC se A B c2 ec) rfl rfl 31 zSerC rfl (se_size _ _ _ _ _) rfl (se_one _ _ _ _ _) ?_; intro W5 hb5 hl5 hr5; have H5 := Lib.hid (H4.out.grow hb5); have HB5 := Lib.hid hb5; have HR5 := Lib.hid hr5; have hc5 := H5.out.rdr; clear hb5 hr5))
    go_still_tail 7, (by kernel_rfl)
    have HT : Hid (W5.drew.there (w.heap.size + 1) 17 (seC se A B c2 ec).size) := Lib.hid (H5.out.draw.there 17 7 (by rw [HZ.out]; omega))
    have HRD5 : Hid (Row W5.drew w4.heap.size (seC se A B c2 ec)) := Lib.hid ⟨HR5.out.1, HR5.out.2⟩
    refine wpStill_load_Row rfl _ _ rfl w4.heap.size rfl (seC se A B c2 ec) HRD5.out _ Tryz.underlying31 rfl (se_size _ _ _ _ _) ?_
    repeat still_step
    refine wpStill_nil ?_
    change wpList _ _ _ _ _ W5.drew
    go_wp2_with (first
      | (with_reducible refine g_store 31 ?_; refine wpList_store_midG rfl _ _ _ rfl (w.heap.size + 1) 17 (seC se A B c2 ec) rfl rfl HT.out (se_size _ _ _ _ _) (se_one _ _ _ _ _) ?_; intro W6 e6; have H6 : Hid (LIn w wm W6 { l with series := se } { s with A := A, c := c2, B := B, d := ec } R) := Lib.hid (by rw [e6]; exact H5.out.draw.setAll (put_series _ _ _ _ _ _ _)); have HE6 := Lib.hid e6; have hc6 := H6.out.fine; have hf6 := H6.out.rfroz 2; have hr6 := H6.out.rdr; clear e6))
    go_end0
    have hsz6 : w4.heap.size ≤ W6.heap.size := by rw [HE6.out, setCells_size]; exact HB5.out.size
    have hsz7 : w4.heap.size ≤ (W6.setCell ⟨w.heap.size + 3, 2, none⟩ (.bool false)).heap.size := by simpa [World.setCell] using hsz6
    have hbl : ∀ k, wm.heap.size ≤ k → k < w4.heap.size → (W6.setCell ⟨w.heap.size + 3, 2, none⟩ (.bool false)).heap[k]? = w4.heap[k]? := fun k h1 h2 => by
      rw [heap_setCell_other _ _ k _ (by show k ≠ w.heap.size + 3; omega), HE6.out, setCells_other _ _ _ _ k (by omega)]
      exact HB5.out.block k h2
    have hms := HMS.out
    refine ⟨rfl, se, A, c2, B, ec, H6.out.setFine.any HRM.out, .inr ⟨ns, HGO.out, HOK.out, HM.out, ?_, ?_⟩⟩
    · exact (HRU.out.of_blocks hsz7 fun k h1 h2 => hbl k (by omega) h2).lower hms
    · exact ownsRow_base' (ownsRow_blocks HMV.out fun k h1 h2 => hbl k (by omega) h2) hms
  · obtain ⟨rfl, hb4⟩ := hno
    have H4 := Lib.hid (H3.out.grow hb4)
    clear hb4 H3 HRD
    go_wp2_with (first
      | (with_reducible refine g_alloc 31 ?_; refine wpList_alloc_as rfl _ rfl zSerC (by kernel_rfl) ?_)
      | (with_reducible refine g_store 31 ?_; refine wpList_store_newrow rfl _ _ _ rfl (seC zSer none none 0 0) rfl rfl 31 zSerC rfl (se_size _ _ _ _ _) rfl (se_one _ _ _ _ _) ?_; intro W5 hb5 hl5 hr5; have H5 := Lib.hid (H4.out.grow hb5); have HB5 := Lib.hid hb5; have HR5 := Lib.hid hr5; have hc5 := H5.out.rdr; clear hb5 hr5))
    go_still_tail 7, (by kernel_rfl)
    have HT : Hid (W5.drew.there (w.heap.size + 1) 17 (seC zSer none none 0 0).size) := Lib.hid (H5.out.draw.there 17 7 (by rw [HZ.out]; omega))
    have HRD5 : Hid (Row W5.drew w4.heap.size (seC zSer none none 0 0)) := Lib.hid ⟨HR5.out.1, HR5.out.2⟩
    refine wpStill_load_Row rfl _ _ rfl w4.heap.size rfl (seC zSer none none 0 0) HRD5.out _ Tryz.underlying31 rfl (se_size _ _ _ _ _) ?_
    repeat still_step
    refine wpStill_nil ?_
    change wpList _ _ _ _ _ W5.drew
    go_wp2_with (first
      | (with_reducible refine g_store 31 ?_; refine wpList_store_midG rfl _ _ _ rfl (w.heap.size + 1) 17 (seC zSer none none 0 0) rfl rfl HT.out (se_size _ _ _ _ _) (se_one _ _ _ _ _) ?_; intro W6 e6; have H6 : Hid (LIn w wm W6 { l with series := zSer } { s with A := none, c := 0, B := none, d := 0 } R) := Lib.hid (by rw [e6]; exact H5.out.draw.setAll (put_series _ _ _ _ _ _ _)); have HE6 := Lib.hid e6; have hc6 := H6.out.fine; have hf6 := H6.out.rfroz 2; have hr6 := H6.out.rdr; clear e6))
    go_end0
    exact ⟨rfl, zSer, none, 0, none, 0, H6.out.setBad HRM.out, .inl ⟨rfl, rfl, rfl, rfl, rfl⟩⟩
set_option maxRecDepth 10000 in
set_option maxHeartbeats 2000000 in
theorem rseries_short (w wm w1 : World) (N : Nat) (l : Lt) (s : Sl) (rest : List UInt8) (bad : Bool) (hN : rest.length ≤ N) (hr : RStL w1 (w.heap.size + 2) (w.heap.size + 1) w.heap.size rest bad) (hk : Lack rest bad) (h : LIb w wm w1 N l s) :
    Calls Tryz.prog 17 #[pt (w.heap.size + 3)] w1 fun e w2 => e = .returned (.tuple #[]) ∧ LIb w wm w2 N l s := by
  have HT := Lib.hid (h.numberNo hN hr hk)
  clear h hN hr hk
  go_enter Tryz.func17, Tryz.ntmps17
  go_wp2_with fail
  refine HT.out.mono ?_
  rintro e w2 ⟨n, rfl, h2, ht⟩
  have HT2 := Lib.hid ht
  have hc2 := h2.rdr
  have hf2 := h2.fn
  clear h2 ht HT
  go_wp2_with fail
  refine HT2.out.mono ?_
  rintro e w3 ⟨rfl, h3⟩
  have H3 := Lib.hid h3
  clear h3 HT2 hc2 hf2
  go_wp2_with fail
  go_end0
  exact ⟨rfl, H3.out⟩
theorem rseries_any (w wm w1 : World) (N : Nat) (l : Lt) (s : Sl) (hN6 : N ≤ 65536) (hwm : w.heap.size + 4 < wm.heap.size) (hl : l.ref.length = 32) (h0 : l.series = zSer) (hA : s.A = none) (hc : s.c = 0) (hB : s.B = none) (hd : s.d = 0) (h : LIb w wm w1 N l s) :
    Calls Tryz.prog 17 #[pt (w.heap.size + 3)] w1 (RsPost w wm N l s) := by
  obtain ⟨rest, bad, hN, hr⟩ := h.st
  have e1 : ({ l with series := zSer } : Lt) = l := by rw [← h0]
  have e2 : ({ s with A := none, c := 0, B := none, d := 0 } : Sl) = s := by cases s; simp only at hA hc hB hd; rw [hA, hc, hB, hd]
  by_cases hk : Lack rest bad
  · refine (rseries_short w wm w1 N l s rest bad hN hr hk h).mono fun e w2 ⟨h1, h2⟩ => ⟨h1, zSer, none, 0, none, 0, ?_, .inl ⟨rfl, rfl, rfl, rfl, rfl⟩⟩
    rw [e1, e2]
    exact h2
  · obtain ⟨rfl, n, xs, R, e0, hx⟩ := split4 rest bad hk
    subst e0
    have hi := h.known hr
    rw [List.length_append, List.length_append, le_length] at hN
    by_cases hn : n = 0
    · subst hn
      have hxs : xs = [] := List.eq_nil_of_length_eq_zero hx
      subst hxs
      refine (rseries_none w wm w1 l s R hi).mono fun e w2 ⟨h1, h2⟩ => ⟨h1, zSer, none, 0, none, 0, ?_, .inl ⟨rfl, rfl, rfl, rfl, rfl⟩⟩
      rw [e1, e2]
      exact h2.any (by omega)
    · exact rseries_read w wm w1 l s xs R n N hx (by omega) (by omega) (by omega) hwm hl hi
end Go.Proofs.YthhbbebabmemfaaGreat

/- The fields of a letter that is read from any bytes. -/
namespace Go.Proofs.YthhbbebabmemfaaGreat
open Go Go.RowKit

/-- The fields below k are read, whatever they are; the reader's methods lie at block fa. -/
structure RyX (w : World) (N fa k : Nat) (l : Lt) (s : Sl) (ns : List NdV) (wr : World) : Prop where
  inn : LIb w wr wr N l s
  mem : LtMem (w.heap.size + 5) wr l s ns
  row : Row wr fa (rFns (w.heap.size + 3))
  far : w.heap.size + 5 ≤ fa
  ok : LxOK N l
  nilS : k ≤ 10 → l.series = zSer ∧ s.A = none ∧ s.c = 0 ∧ s.B = none ∧ s.d = 0
  nilC : k ≤ 15 → l.cells = [] ∧ s.C = none ∧ s.e = 0
theorem rb_build {P : Program} {ops : Array Oper} {Q : Exit → Act → World → Prop} {rest : List Oper} {a : Act} {w : World} {d : Option Tmp} {t : TypeId} {pos : String} {af : Array Edge} {g : Option (Nat × Bool)} (ty : TypeId) {x : Array (Nat × Operand)} (h : wpList P ops Q (⟨d, .build ty x, t, pos, af, g⟩ :: rest) a w) : wpList P ops Q (⟨d, .build ty x, t, pos, af, g⟩ :: rest) a w := h
theorem setNum_ser (l : Lt) (k : Nat) (x : Int) : (setNum l k x).series = l.series := by unfold setNum; split <;> rfl
theorem setNum_cel (l : Lt) (k : Nat) (x : Int) : (setNum l k x).cells = l.cells := by unfold setNum; split <;> rfl
theorem setNum_rf (l : Lt) (k : Nat) (x : Int) : (setNum l k x).ref = l.ref := by unfold setNum; split <;> rfl
theorem RyX.start {w w1 : World} {N : Nat} {l : Lt} {fns : Array Value} {t : TypeId} (hf : fns = rFns (w.heap.size + 3)) (h : LIb w w1 w1 N l zSl) (e1 : l.series = zSer) (e2 : l.cells = []) (e3 : l.ref.length = 32) : RyX w N w1.heap.size 0 l zSl [] (w1.alloc (.cells fns t)) := by
  subst hf
  have hs := h.sz
  refine ⟨(h.grow (below_var w1 _)).rebase, ⟨?_, ?_, ?_, ?_⟩, Row.new w1 _ _, by omega, ⟨e3, ?_, ?_, .inl e1⟩, fun _ => ⟨e1, rfl, rfl, rfl, rfl⟩, fun _ => ⟨e2, rfl, rfl⟩⟩
  · rw [e1]; exact ⟨World.ownsRow_nil _ _ _ _, fun _ hx => nomatch hx⟩
  · rw [e1]; rfl
  · rw [e1]; exact World.ownsRow_nil _ _ _ _
  · rw [e2]; exact World.ownsRow_nil _ _ _ _
  · rw [e2]; exact fun _ hx => nomatch hx
  · rw [e2]; exact Nat.zero_le _
section
variable {w wr w2 : World} {N fa k : Nat} {l l' : Lt} {s s' : Sl} {ns ns' : List NdV}
theorem RyX.grow (h : RyX w N fa k l s ns wr) (hb : Below wr.heap.size wr w2) : RyX w N fa k l s ns w2 :=
  ⟨(h.inn.grow hb).rebase, h.mem.of_blocks hb.size fun j _ h2 => hb.block j h2, h.row.keep hb, h.far, h.ok, h.nilS, h.nilC⟩
theorem RyX.skip (h : RyX w N fa k l s ns wr) : RyX w N fa (k + 1) l s ns wr :=
  ⟨h.inn, h.mem, h.row, h.far, h.ok, fun hk => h.nilS (by omega), fun hk => h.nilC (by omega)⟩
theorem RyX.next (h : RyX w N fa k l s ns wr) (h3 : LIb w wr w2 N l' s) (e1 : l'.series = l.series) (e2 : l'.cells = l.cells) (e3 : l'.ref.length = 32) : RyX w N fa (k + 1) l' s ns w2 := by
  refine ⟨h3.rebase, (h.mem.of_blocks h3.msz h3.mem).other e1 e2, h.row.of_blocks h3.msz (h3.mem _ h.far h.row.1), h.far, ⟨e3, ?_, ?_, ?_⟩, fun hk => ?_, fun hk => ?_⟩
  · rw [e2]; exact h.ok.cells
  · rw [e2]; exact h.ok.clen
  · rw [e1]; exact h.ok.ser
  · rw [e1]; exact h.nilS (by omega)
  · rw [e2]; exact h.nilC (by omega)
theorem RyX.num (h : RyX w N fa k l s ns wr) (hk : k < 17) {o : Nat} (ho : numOff k = some o) :
    Calls Tryz.prog 15 #[pt (w.heap.size + 3), I 8] wr fun e w2 => ∃ x, e = .returned (I x) ∧ (∃ u, w2.cell? ⟨w.heap.size + 1, o, none⟩ = some u) ∧ w2.frozen? ⟨w.heap.size + 1, o, none⟩ = false ∧ RyX w N fa (k + 1) (setNum l k x) s ns (w2.setCell ⟨w.heap.size + 1, o, none⟩ (I x)) := by
  refine h.inn.number8.mono fun e w2 ⟨x, h1, h2⟩ => ⟨x, h1, ?_, h2.froz o, ?_⟩
  · exact ⟨_, (h2.row.2 o).trans (lt_num l _ _ _ k o hk ho)⟩
  · exact h.next (h2.store (ltVal_setNum _ _ _ k o hk ho)) (setNum_ser _ _ _) (setNum_cel _ _ _) (by rw [setNum_rf]; exact h.ok.ref)
theorem RyX.f9 (h : RyX w N fa 9 l s ns wr) :
    Calls Tryz.prog 16 #[pt (w.heap.size + 3)] wr fun e w2 => e = .returned (.tuple #[]) ∧ ∃ l', RyX w N fa 10 l' s ns w2 :=
  (rmove_any w wr wr N l s h.inn).mono fun _ _ ⟨h1, _, h2⟩ => ⟨h1, _, h.next h2 rfl rfl h.ok.ref⟩
theorem RyX.f14 (h : RyX w N fa 14 l s ns wr) :
    Calls Tryz.prog 18 #[pt (w.heap.size + 3)] wr fun e w2 => e = .returned (.tuple #[]) ∧ ∃ l', RyX w N fa 15 l' s ns w2 :=
  (rwindow_any w wr wr N l s h.inn).mono fun _ _ ⟨h1, _, _, h2⟩ => ⟨h1, _, h.next h2 rfl rfl h.ok.ref⟩
theorem RyX.f16 (h : RyX w N fa 16 l s ns wr) :
    Calls Tryz.prog 20 #[pt (w.heap.size + 3)] wr fun e w2 => e = .returned (.tuple #[]) ∧ ∃ l', RyX w N fa 17 l' s ns w2 :=
  (rref_any w wr wr N l s h.ok.ref h.inn).mono fun _ _ ⟨h1, _, hx, h2⟩ => ⟨h1, _, h.next h2 rfl rfl hx⟩
theorem RyX.f15 (hN : N ≤ 65536) (h : RyX w N fa 15 l s ns wr) :
    Calls Tryz.prog 19 #[pt (w.heap.size + 3)] wr fun e w2 => e = .returned (.tuple #[]) ∧ ∃ l' s', RyX w N fa 16 l' s' ns w2 := by
  obtain ⟨n0, n1, n2⟩ := h.nilC (Nat.le_refl _)
  have hs := h.inn.sz
  refine (rcells_any w wr wr N l s hN hs n0 n1 n2 h.inn).mono fun e w2 ⟨h1, zs, C, e', hz1, hz2, h2, h3⟩ => ⟨h1, { l with cells := zs }, { s with C := C, e := e' }, ?_⟩
  have hm := h.mem.of_blocks h2.msz h2.mem
  exact ⟨h2.rebase, ⟨hm.rule, hm.names, hm.moves, ownsRow_base' h3 (by omega)⟩, h.row.of_blocks h2.msz (h2.mem _ h.far h.row.1), h.far, ⟨h.ok.ref, hz2, hz1, h.ok.ser⟩, fun hk => absurd hk (by decide), fun hk => absurd hk (by decide)⟩
theorem RyX.f10 (hN : N ≤ 65536) (h : RyX w N fa 10 l s ns wr) :
    Calls Tryz.prog 17 #[pt (w.heap.size + 3)] wr fun e w2 => e = .returned (.tuple #[]) ∧ ∃ l' s' ns', RyX w N fa 11 l' s' ns' w2 := by
  obtain ⟨n0, n1, n2, n3, n4⟩ := h.nilS (Nat.le_refl _)
  have hs := h.inn.sz
  refine (rseries_any w wr wr N l s hN hs h.ok.ref n0 n1 n2 n3 n4 h.inn).mono fun e w2 ⟨h1, se, A, c, B, d, h2, h3⟩ => ⟨h1, { l with series := se }, { s with A := A, c := c, B := B, d := d }, ?_⟩
  have hm := h.mem.of_blocks h2.msz h2.mem
  rcases h3 with ⟨rfl, rfl, rfl, rfl, rfl⟩ | ⟨ns', hg, hr, e1, hru, hmv⟩
  · exact ⟨[], h2.rebase, ⟨⟨World.ownsRow_nil _ _ _ _, fun _ hx => nomatch hx⟩, rfl, World.ownsRow_nil _ _ _ _, hm.cells⟩, h.row.of_blocks h2.msz (h2.mem _ h.far h.row.1), h.far, ⟨h.ok.ref, h.ok.cells, h.ok.clen, .inl rfl⟩, fun hk => absurd hk (by decide), fun hk => h.nilC (by omega)⟩
  · exact ⟨ns', h2.rebase, ⟨hru.lower (by omega), e1.symm, ownsRow_base' hmv (by omega), hm.cells⟩, h.row.of_blocks h2.msz (h2.mem _ h.far h.row.1), h.far, ⟨h.ok.ref, h.ok.cells, h.ok.clen, .inr ⟨hg, hr⟩⟩, fun hk => absurd hk (by decide), fun hk => h.nilC (by omega)⟩
end
end Go.Proofs.YthhbbebabmemfaaGreat

/- The reader's start in letter.Read. -/
namespace Go.Proofs.YthhbbebabmemfaaGreat
open Go Go.RowKit

theorem LIn.start {w w1 : World} {o : Obj} {A : Option Addr} {bs : List UInt8} {c : Nat} (ho : o = .cells (ltVal zLt zSl) 37 (0, 0)) (hrb : RBlk w1 (w.heap.size + 2) (w.heap.size + 1) A bs.length c false) (hsz : w.heap.size + 2 + 3 ≤ w1.heap.size)
    (hb : Below (w.heap.size + 2) ((w.alloc o).alloc o) w1) (hl : bs.length ≤ c) (hc : c ≤ 9223372036854775807) (hby : BytesAt w w.heap.size A bs) (hn : A = none → c = 0) : LIn w w1 w1 zLt zSl bs := by
  subst ho
  have h2 : Below w.heap.size w w1 := (((Below.refl _ w).alloc (Nat.le_refl _) _).alloc (by simp) _).trans (hb.mono (by omega))
  exact ⟨(hb.block _ (by omega)).trans (heap_alloc2_new w _ _), ⟨A, c, hrb, hl, hc, hby.keep h2, hn⟩, (hb.block _ (by omega)).trans (heap_alloc2_old w _ _), h2, by omega, Nat.le_refl _, fun _ _ _ => rfl⟩
theorem newReader_rdL (w : World) (A : Option Addr) (bs : List UInt8) (c : Nat) (hl : bs.length ≤ c) (hc : c ≤ 9223372036854775807) (hby : BytesAt w w.heap.size A bs) (hn : A = none → c = 0) :
    Calls Tryz.prog 14 #[pt (w.heap.size + 1), .slice A bs.length c] ((w.alloc (.cells (ltVal zLt zSl) 37)).alloc (.cells (ltVal zLt zSl) 37)) fun e w1 =>
      e = .returned (.tuple #[pt (w.heap.size + 3), .func (.func 45) #[] #[pt (w.heap.size + 4), pt (w.heap.size + 2)]]) ∧ LIn w w1 w1 zLt zSl bs := by
  refine (newReader_any (w.heap.size + 1) A bs.length c _).mono fun e w1 ⟨h1, h2, h3, h4⟩ => ?_
  have hs : ((w.alloc (.cells (ltVal zLt zSl) 37)).alloc (.cells (ltVal zLt zSl) 37)).heap.size = w.heap.size + 2 := by rw [World.size_alloc, World.size_alloc]
  rw [hs] at h1 h2 h3 h4
  exact ⟨h1, LIn.start rfl h2 h3 h4 hl hc hby hn⟩
end Go.Proofs.YthhbbebabmemfaaGreat

/- letter.Read of any bytes. -/
namespace Go.Proofs.YthhbbebabmemfaaGreat
open Go Go.RowKit

def RyXRel (w : World) (N fa : Nat) (i : Value) (wr : World) : Prop :=
  ∃ (k : Nat) (l : Lt) (s : Sl) (ns : List NdV), k ≤ 17 ∧ i = .int .i64 k ∧ RyX w N fa k l s ns wr
/-- What letter.Read gives: a valid letter that has these bytes, or none and code 3. -/
def RxYes (w : World) (N : Nat) (bs : List UInt8) (e : Ending) (w' : World) : Prop :=
  ∃ l s ns, e = .returned (.tuple #[.agg (ltVal l s), I 0]) ∧ LtMem (w.heap.size + 5) w' l s ns ∧ LxOK N l ∧ vc l = 0 ∧ ltBytes l (sbOf l) = bs ∧ Below w.heap.size w w'
def RxNo (w : World) (e : Ending) (w' : World) : Prop := e = .returned (.tuple #[.agg (ltVal zLt zSl), I 3]) ∧ Below w.heap.size w w'
def RxPost (w : World) (N : Nat) (bs : List UInt8) (e : Ending) (w' : World) : Prop := RxYes w N bs e w' ∨ RxNo w e w'
attribute [local go_sem] ltVal_get lt_get0 lt_get1 lt_get2
set_option maxRecDepth 10000 in
set_option maxHeartbeats 8000000 in
theorem read_any (w : World) (A : Option Addr) (bs : List UInt8) (c N : Nat) (hN : bs.length ≤ N) (hN6 : N ≤ 65536) (hl : bs.length ≤ c) (hc : c ≤ 9223372036854775807) (hby : BytesAt w w.heap.size A bs) (hn : A = none → c = 0) :
    Calls Tryz.prog 5 #[.slice A bs.length c] w (RxPost w N bs) := by
  have HN := Lib.hid (newReader_rdL w A bs c hl hc hby hn)
  have HY := Lib.hid hby
  have HNL := Lib.hid hN
  have HN6 := Lib.hid hN6
  clear hby hn hN hN6
  go_enter Tryz.func5, Tryz.ntmps5
  go_wp2_with (first
    | (refine wpList_alloc_as rfl _ rfl (ltVal zLt zSl) lt_zero ?_)
    | (go_at_call 14; refine HN.out.mono ?_; rintro e w1 ⟨rfl, hi1⟩; have HI1 := Lib.hid (hi1.any HNL.out); clear hi1))
  refine HI1.out.number1.mono ?_
  rintro e w2 ⟨x, rfl, hi2⟩
  have hr2 := hi2.row.2
  have hf2 := hi2.froz
  have HI2 : Hid (LIb w w1 (w2.setCell ⟨w.heap.size + 1, 0, none⟩ (I x)) N { zLt with kind := x } zSl) := Lib.hid (hi2.store (set_kind zLt zSl x))
  clear hi2 HI1
  go_wp2_with fail
  clear hr2 hf2
  refine HI2.out.number1.mono ?_
  rintro e w3 ⟨y, rfl, hi3⟩
  have hr3 := hi3.row.2
  have hf3 := hi3.froz
  have HI3 : Hid (LIb w w1 (w3.setCell ⟨w.heap.size + 1, 1, none⟩ (I y)) N { zLt with kind := x, src := y } zSl) := Lib.hid (hi3.store (set_src { zLt with kind := x } zSl y))
  clear hi3 HI2
  go_wp2_with fail
  clear hr3 hf3
  refine HI3.out.number1.mono ?_
  rintro e w4 ⟨z, rfl, hi4⟩
  have hr4 := hi4.row.2
  have hf4 := hi4.froz
  have HI4 : Hid (LIb w (w4.setCell ⟨w.heap.size + 1, 2, none⟩ (I z)) (w4.setCell ⟨w.heap.size + 1, 2, none⟩ (I z)) N { zLt with kind := x, src := y, dst := z } zSl) := Lib.hid (LIb.rebase (hi4.store (set_dst { zLt with kind := x, src := y } zSl z)))
  have hs4 : (w4.setCell ⟨w.heap.size + 1, 2, none⟩ (I z)).heap.size = w4.heap.size := by simp [World.setCell]
  have HG4 : Hid (RyX w N w4.heap.size 0 { zLt with kind := x, src := y, dst := z } zSl [] ((w4.setCell ⟨w.heap.size + 1, 2, none⟩ (I z)).alloc (.cells (rFns (w.heap.size + 3)) 56))) := Lib.hid (by rw [← hs4]; exact RyX.start rfl HI4.out rfl rfl rfl)
  clear hi4 HI3 HI4 hs4
  go_wp2_with (first
    | (refine wpList_build_as rfl _ rfl (rFns (w.heap.size + 3)) (by kernel_rfl) ?_)
    | (refine wpList_var_row rfl rfl _ _ _ rfl rfl rfl rfl _ (rFns (w.heap.size + 3)) (rFns_info _) rfl rfl rfl (rFns_one _) ?_)
    | (go_at_call 21; refine (numbers_any _ _).mono ?_; rintro e w5 ⟨rfl, hb5⟩; have HY5 := Lib.hid (HG4.out.grow hb5); clear hb5))
  clear hr4 hf4 HG4
  obtain ⟨fa, hfa⟩ : ∃ x, w4.heap.size = x := ⟨_, rfl⟩
  rw [hfa] at HY5 ⊢
  clear hfa
  go_loopw [38] (fun i wr => RyXRel w N fa i wr) (fun i _ => 17 - (intOf i).toNat)
  case atStart => exact ⟨0, _, zSl, [], by omega, rfl, HY5.out⟩
  case round =>
    obtain ⟨k, l, s, ns, hk, rfl, hi⟩ := hrel
    have HI := Lib.hid hi
    clear hi HY5
    by_cases hlt : k < 17
    · have hk0 : wr.cell? ⟨w.heap.size + 1, 0, none⟩ = some (I l.kind) := HI.out.inn.row.2 0
      have hix := fun W => index_nums (w.heap.size + 1) k hlt W
      cases hu : usesB l.kind k
      · have HU := Lib.hid hu
        clear hu
        obtain ⟨q, hq⟩ : ∃ q, ptrAt (w.heap.size + 1) k = q := ⟨_, rfl⟩
        rw [hq] at hix
        clear hq
        go_wp2_with (go_at_call 22; refine (uses_any _ _ _ (by omega) (by omega)).mono ?_; rintro e w6 ⟨rfl, hb6⟩; have HI6 := Lib.hid (HI.out.grow hb6); rw [HU.out]; clear hb6)
        go_roundw
        case rel => exact ⟨k + 1, l, s, ns, by omega, by go_num, HI6.out.skip⟩
        case measure => simp [intOf]; omega
      have HU := Lib.hid hu
      clear hu
      cases ho : numOff k with
      | some o =>
        have hp : ptrAt (w.heap.size + 1) k = .pointer (some ⟨w.heap.size + 1, o, none⟩) := by unfold ptrAt; rw [ho]; rfl
        rw [hp] at hix
        have HO := Lib.hid ho
        clear ho hp
        go_wp2_with (go_at_call 22; refine (uses_any _ _ _ (by omega) (by omega)).mono ?_; rintro e w6 ⟨rfl, hb6⟩; have HI6 := Lib.hid (HI.out.grow hb6); rw [HU.out]; clear hb6)
        refine (HI6.out.num hlt HO.out).mono ?_
        rintro e w7 ⟨v, rfl, ⟨v0, hc7⟩, hf7, hi7⟩
        have HI7 := Lib.hid hi7
        clear hi7 hk0
        go_wp2
        go_roundw
        case rel => exact ⟨k + 1, _, s, ns, by omega, by go_num, HI7.out⟩
        case measure => simp [intOf]; omega
      | none =>
        have hp : ptrAt (w.heap.size + 1) k = .pointer none := by unfold ptrAt; rw [ho]
        rw [hp] at hix
        have hks : k = 9 ∨ k = 10 ∨ k = 14 ∨ k = 15 ∨ k = 16 := none_at k hlt ho
        clear ho hp
        rcases hks with rfl | rfl | rfl | rfl | rfl
        · -- field 9: move
          have hix' : ∀ W, (Instr.index 58 (.agg (numPtrs (w.heap.size + 1))) (.int .i64 9)).run Tryz.prog W = .ok (.pointer none) W := hix
          clear hix
          go_wp2_with (first
            | (go_at_call 22; refine (uses_any _ _ _ (by omega) (by omega)).mono ?_; rintro e w6 ⟨rfl, hb6⟩; have HI6 := Lib.hid (HI.out.grow hb6); have hf6 : w6.cell? ⟨fa, 9, none⟩ = some (.func (.func 16) #[pt (w.heap.size + 3)] #[]) := HI6.out.row.2 9; first | rw [HU.out] | rw [show usesB l.kind 9 = true from HU.out]; clear hb6)
            | (go_at_call 16; refine (HI6.out.f9).mono ?_; rintro e w7 ⟨rfl, l7, h7⟩; have HI7 := Lib.hid h7; clear h7))
          go_roundw
          case rel => exact ⟨10, _, _, _, by omega, by go_num, HI7.out⟩
          case measure => simp [intOf]
        · -- field 10: series
          have hix' : ∀ W, (Instr.index 58 (.agg (numPtrs (w.heap.size + 1))) (.int .i64 10)).run Tryz.prog W = .ok (.pointer none) W := hix
          clear hix
          go_wp2_with (first
            | (go_at_call 22; refine (uses_any _ _ _ (by omega) (by omega)).mono ?_; rintro e w6 ⟨rfl, hb6⟩; have HI6 := Lib.hid (HI.out.grow hb6); have hf6 : w6.cell? ⟨fa, 10, none⟩ = some (.func (.func 17) #[pt (w.heap.size + 3)] #[]) := HI6.out.row.2 10; first | rw [HU.out] | rw [show usesB l.kind 10 = true from HU.out]; clear hb6)
            | (go_at_call 17; refine (RyX.f10 HN6.out HI6.out).mono ?_; rintro e w7 ⟨rfl, l7, s7, ns7, h7⟩; have HI7 := Lib.hid h7; clear h7))
          go_roundw
          case rel => exact ⟨11, _, _, _, by omega, by go_num, HI7.out⟩
          case measure => simp [intOf]
        · -- field 14: window
          have hix' : ∀ W, (Instr.index 58 (.agg (numPtrs (w.heap.size + 1))) (.int .i64 14)).run Tryz.prog W = .ok (.pointer none) W := hix
          clear hix
          go_wp2_with (first
            | (go_at_call 22; refine (uses_any _ _ _ (by omega) (by omega)).mono ?_; rintro e w6 ⟨rfl, hb6⟩; have HI6 := Lib.hid (HI.out.grow hb6); have hf6 : w6.cell? ⟨fa, 14, none⟩ = some (.func (.func 18) #[pt (w.heap.size + 3)] #[]) := HI6.out.row.2 14; first | rw [HU.out] | rw [show usesB l.kind 14 = true from HU.out]; clear hb6)
            | (go_at_call 18; refine (HI6.out.f14).mono ?_; rintro e w7 ⟨rfl, l7, h7⟩; have HI7 := Lib.hid h7; clear h7))
          go_roundw
          case rel => exact ⟨15, _, _, _, by omega, by go_num, HI7.out⟩
          case measure => simp [intOf]
        · -- field 15: cells
          have hix' : ∀ W, (Instr.index 58 (.agg (numPtrs (w.heap.size + 1))) (.int .i64 15)).run Tryz.prog W = .ok (.pointer none) W := hix
          clear hix
          go_wp2_with (first
            | (go_at_call 22; refine (uses_any _ _ _ (by omega) (by omega)).mono ?_; rintro e w6 ⟨rfl, hb6⟩; have HI6 := Lib.hid (HI.out.grow hb6); have hf6 : w6.cell? ⟨fa, 15, none⟩ = some (.func (.func 19) #[pt (w.heap.size + 3)] #[]) := HI6.out.row.2 15; first | rw [HU.out] | rw [show usesB l.kind 15 = true from HU.out]; clear hb6)
            | (go_at_call 19; refine (RyX.f15 HN6.out HI6.out).mono ?_; rintro e w7 ⟨rfl, l7, s7, h7⟩; have HI7 := Lib.hid h7; clear h7))
          go_roundw
          case rel => exact ⟨16, _, _, _, by omega, by go_num, HI7.out⟩
          case measure => simp [intOf]
        · -- field 16: ref
          have hix' : ∀ W, (Instr.index 58 (.agg (numPtrs (w.heap.size + 1))) (.int .i64 16)).run Tryz.prog W = .ok (.pointer none) W := hix
          clear hix
          go_wp2_with (first
            | (go_at_call 22; refine (uses_any _ _ _ (by omega) (by omega)).mono ?_; rintro e w6 ⟨rfl, hb6⟩; have HI6 := Lib.hid (HI.out.grow hb6); have hf6 : w6.cell? ⟨fa, 16, none⟩ = some (.func (.func 20) #[pt (w.heap.size + 3)] #[]) := HI6.out.row.2 16; first | rw [HU.out] | rw [show usesB l.kind 16 = true from HU.out]; clear hb6)
            | (go_at_call 20; refine (HI6.out.f16).mono ?_; rintro e w7 ⟨rfl, l7, h7⟩; have HI7 := Lib.hid h7; clear h7))
          go_roundw
          case rel => exact ⟨17, _, _, _, by omega, by go_num, HI7.out⟩
          case measure => simp [intOf]
    · have hke : k = 17 := by omega
      subst hke
      clear hlt hk HN
      have HIN : Hid (LIb w wr wr N l s) := Lib.hid HI.out.inn
      have HM : Hid (LtMem (w.heap.size + 5) wr l s ns) := Lib.hid HI.out.mem
      have HOK : Hid (LxOK N l) := Lib.hid HI.out.ok
      have HW := Lib.hid HIN.out.row
      have HSZ := Lib.hid (size62 l s HOK.out.ref)
      clear HI
      go_wp2_with fail
      refine HIN.out.done.mono ?_
      rintro e w8 ⟨⟨q8, rfl⟩, rfl⟩
      cases q8
      · go_wp2_with (first
          | (with_reducible refine rb_build 37 ?_; refine wpList_build_as rfl _ rfl (ltVal zLt zSl) (by kernel_rfl) ?_)
          | (with_reducible refine g_store 37 ?_; refine wpList_store_row rfl _ _ _ rfl w.heap.size (ltVal zLt zSl) rfl rfl 37 (ltVal zLt zSl) HIN.out.res (size62 zLt zSl rfl) rfl (ltVal_one _ _) ?_))
        refine bodyPost_ret (v := .tuple #[.agg (ltVal zLt zSl), I 3]) (results_row_tmp rfl _ _ w.heap.size _ (ltVal zLt zSl) (0, 0) _ rfl (setRow_heap _ _ _ _ _ _ HIN.out.res) Tryz.underlying37 rfl (size62 _ _ rfl) _ rfl) rfl ?_
        exact .inr ⟨rfl, below_setRow HIN.out.lo (Nat.le_refl _) _⟩
      obtain ⟨out, hout⟩ : ∃ x, ltBytes l (sbOf l) = x := ⟨_, rfl⟩
      obtain ⟨cd, hcd⟩ : ∃ x, vc l = x := ⟨_, rfl⟩
      have HB : Hid (Calls Tryz.prog 6 #[.agg (ltVal l s)] wr (BytesPost wr cd out)) := Lib.hid (by rw [← hout, ← hcd]; exact bytes_lx HOK.out HN6.out HM.out (by omega))
      have HOUT := Lib.hid hout
      have HCD := Lib.hid hcd
      clear hout hcd
      go_wp2_with (with_reducible refine g_load 37 ?_; refine wpList_load_Row rfl _ _ rfl (w.heap.size + 1) rfl (ltVal l s) HW.out _ Tryz.underlying37 rfl HSZ.out ?_)
      refine HB.out.mono ?_
      rintro e w9 ⟨h9, hb9⟩
      have HI9 := Lib.hid (HIN.out.grow hb9)
      have HB9 := Lib.hid hb9
      clear hb9 HB
      by_cases hc0 : cd = 0
      · subst hc0
        rw [if_pos rfl] at h9
        obtain ⟨v, rfl, hv⟩ := h9
        obtain ⟨A9, c9, rfl, _, _, _, hby9⟩ := bytesAt_own hv
        have HY9 := Lib.hid hby9
        clear hv hby9
        obtain ⟨qe, hqe⟩ : ∃ q, (out == bs) = q := ⟨_, rfl⟩
        have HQE := Lib.hid hqe
        clear hqe
        go_wp2_with fail
        refine (bytesEqual_any _ A9 A out bs c9 c _ _ HY9.out (HY.out.keep HI9.out.lo)).mono ?_
        rintro e w10 ⟨rfl, rfl⟩
        rw [HQE.out]
        cases qe
        · go_wp2_with (first
            | (with_reducible refine rb_build 37 ?_; refine wpList_build_as rfl _ rfl (ltVal zLt zSl) (by kernel_rfl) ?_)
            | (with_reducible refine g_store 37 ?_; refine wpList_store_row rfl _ _ _ rfl w.heap.size (ltVal zLt zSl) rfl rfl 37 (ltVal zLt zSl) HI9.out.res (size62 zLt zSl rfl) rfl (ltVal_one _ _) ?_))
          refine bodyPost_ret (v := .tuple #[.agg (ltVal zLt zSl), I 3]) (results_row_tmp rfl _ _ w.heap.size _ (ltVal zLt zSl) (0, 0) _ rfl (setRow_heap _ _ _ _ _ _ HI9.out.res) Tryz.underlying37 rfl (size62 _ _ rfl) _ rfl) rfl ?_
          exact .inr ⟨rfl, below_setRow HI9.out.lo (Nat.le_refl _) _⟩
        · go_wp2_with (first
            | (with_reducible refine g_load 37 ?_; refine wpList_load_Row rfl _ _ rfl (w.heap.size + 1) rfl (ltVal l s) HI9.out.row _ Tryz.underlying37 rfl HSZ.out ?_)
            | (with_reducible refine g_store 37 ?_; refine wpList_store_row rfl _ _ _ rfl w.heap.size (ltVal l s) rfl rfl 37 (ltVal zLt zSl) HI9.out.res HSZ.out (sz_eq l s HOK.out.ref) (ltVal_one _ _) ?_))
          refine bodyPost_ret (v := .tuple #[.agg (ltVal l s), I 0]) (results_row_tmp rfl _ _ w.heap.size _ (ltVal l s) (0, 0) _ rfl (setRow_heap _ _ _ _ _ _ HI9.out.res) Tryz.underlying37 rfl (size62 _ _ HOK.out.ref) _ rfl) rfl ?_
          refine .inl ⟨l, s, ns, rfl, LtMem.of_blocks HM.out ?_ fun j h1 h2 => ?_, HOK.out, HCD.out, HOUT.out.trans (beq_iff_eq.1 HQE.out), below_setRow HI9.out.lo (Nat.le_refl _) _⟩
          · have h := HB9.out.size
            simpa [World.setRow] using h
          · rw [setRow_other _ _ j _ (by omega)]
            exact HB9.out.block j h2
      · rw [if_neg hc0] at h9
        subst h9
        have hcn : (cd == 0) = false := by rw [beq_dec]; exact decide_eq_false hc0
        have hcm : (cd != 0) = true := by rw [neq_dec]; exact decide_eq_true hc0
        clear hc0 HCD
        go_wp2_with (first
          | (with_reducible refine rb_build 37 ?_; refine wpList_build_as rfl _ rfl (ltVal zLt zSl) (by kernel_rfl) ?_)
          | (with_reducible refine g_store 37 ?_; refine wpList_store_row rfl _ _ _ rfl w.heap.size (ltVal zLt zSl) rfl rfl 37 (ltVal zLt zSl) HI9.out.res (size62 zLt zSl rfl) rfl (ltVal_one _ _) ?_))
        refine bodyPost_ret (v := .tuple #[.agg (ltVal zLt zSl), I 3]) (results_row_tmp rfl _ _ w.heap.size _ (ltVal zLt zSl) (0, 0) _ rfl (setRow_heap _ _ _ _ _ _ HI9.out.res) Tryz.underlying37 rfl (size62 _ _ rfl) _ rfl) rfl ?_
        exact .inr ⟨rfl, below_setRow HI9.out.lo (Nat.le_refl _) _⟩
end Go.Proofs.YthhbbebabmemfaaGreat

/- kalendslaw20.LetterCanonical: for every input it returns true (printed by gen_can.py). -/
namespace Go.Proofs.YthhbbebabmemfaaGreat
open Go Go.RowKit

theorem readLt_yes (w : World) (A : Option Addr) (bs : List UInt8) (c : Nat) (h : bs.length ≤ 3000) (hl : bs.length ≤ c) (hc : c ≤ 9223372036854775807) (hby : BytesAt w w.heap.size A bs) (hn : A = none → c = 0) :
    Calls Tryz.prog 5 #[.slice A bs.length c] w (RxPost w 65536 bs) :=
  read_any w A bs c 65536 (by omega) (Nat.le_refl _) hl hc hby hn
theorem bytes_take {w : World} {B k : Nat} {A : Option Addr} {bs : List UInt8} (h : BytesAt w B A bs) : BytesAt w B A (bs.take k) := by
  rcases h with h | ⟨b, off, hA, hb, hc⟩
  · exact .inl (by rw [List.length_take]; omega)
  · exact .inr ⟨b, off, hA, hb, fun j hj => by
      rw [List.length_take] at hj
      rw [hc j (by omega), List.getElem?_take_of_lt (by omega)]⟩
theorem own_cap {w : World} {base e size g n c : Nat} {xs : List Value} (h : w.ownsRow base e size (.slice (some ⟨g, 0, none⟩) n c) n xs) : n ≤ c ∧ c ≤ 9223372036854775807 := by
  rcases h.2 with ⟨h, _⟩ | ⟨g', cap, cur, hv, _, _, h1, h2, _⟩
  · cases h
  · injection hv with _ _ hc
    subst hc
    exact ⟨h1, h2⟩
theorem own_bytes {w : World} {base g n c : Nat} {bs : List UInt8} (h : w.ownsRow base 5 1 (.slice (some ⟨g, 0, none⟩) n c) n (bs.map Extern.Stop.cell)) (hn : bs.length = n) : BytesAt w w.heap.size (some ⟨g, 0, none⟩) bs := by
  subst hn
  obtain ⟨A, c', hv, _, _, _, hb⟩ := bytesAt_own h
  injection hv with hA _ _
  rw [hA]
  exact hb
section
variable {w : World} {L l : Lt} {ns ns' : List NdV} {lo : Nat}
/-- letter.Read of part of a made letter's bytes. -/
theorem read_part (hL : MadeLt L ns) (A : Option Addr) (bs cs : List UInt8) (n c : Nat) (hbl : bs.length = n) (hb : ltBytes L (sbOf L) = bs ++ cs) (h0 : cs ≠ []) (hl : n ≤ c) (hc : c ≤ 9223372036854775807) (hby : BytesAt w w.heap.size A bs) (hn : A = none → c = 0) :
    Calls Tryz.prog 5 #[.slice A n c] w (RxNo w) := by
  subst hbl
  have hsm := made_small hL
  have hlen : bs.length ≤ 65536 := by have h1 := congrArg List.length hb; rw [List.length_append] at h1; omega
  refine (read_any w A bs c 65536 hlen (Nat.le_refl _) hl hc hby hn).mono fun e w' hp => ?_
  rcases hp with ⟨l, s, ns', _, hm, hok, hv, hbs, _⟩ | hp
  · exfalso
    have h1 := lt_pref (R := cs) (R' := []) (hok.rd (Nat.le_refl _) hm.names hv) (VarOf.rd hL (VarOf.same hL) hL.vc) (by rw [hbs, hb, List.append_nil])
    exact h0 h1
  · exact hp
/-- letter.Read of more than a made letter's bytes. -/
theorem read_more (hL : MadeLt L ns) (A : Option Addr) (bs cs : List UInt8) (n c : Nat) (hbl : bs.length = n) (hb : bs = ltBytes L (sbOf L) ++ cs) (h0 : cs ≠ []) (h1 : cs.length ≤ 1000) (hl : n ≤ c) (hc : c ≤ 9223372036854775807) (hby : BytesAt w w.heap.size A bs) (hn : A = none → c = 0) :
    Calls Tryz.prog 5 #[.slice A n c] w (RxNo w) := by
  subst hbl
  have hsm := made_small hL
  have hlen : bs.length ≤ 65536 := by rw [hb, List.length_append]; omega
  refine (read_any w A bs c 65536 hlen (Nat.le_refl _) hl hc hby hn).mono fun e w' hp => ?_
  rcases hp with ⟨l, s, ns', _, hm, hok, hv, hbs, _⟩ | hp
  · exfalso
    have h2 := lt_pref (R := []) (R' := cs) (hok.rd (Nat.le_refl _) hm.names hv) (VarOf.rd hL (VarOf.same hL) hL.vc) (by rw [hbs, List.append_nil]; exact hb)
    exact h0 h2.symm
  · exact hp
end
attribute [local go_sem] ltVal_get
set_option maxRecDepth 10000 in
set_option maxHeartbeats 4000000 in
theorem letterCanonical_any (w : World) (A0 : Option Addr) (bs : List UInt8) (n0 c0 : Nat) (A : Option Addr) (n c : Nat) (xs : List Int) (at_ : Int) (hb0 : bs.length = n0) (hbc : n0 ≤ c0) (hbig0 : c0 ≤ 9223372036854775807) (hby : BytesAt w w.heap.size A0 bs) (hn0 : A0 = none → c0 = 0) (hn : xs.length = n) (hA : IntsAt w w.heap.size A xs) (hfit : ∀ j, j < xs.length → fits (xs[j]?.getD 0)) (hc : n ≤ c) (hbig : c ≤ 9223372036854775807) (fa : fits at_) :
    Calls Tryz.prog 3 #[.slice A0 n0 c0, .slice A n c, I at_] w (Gives (.bool true) w) := by
  have HM : Hid (∀ w', Below w.heap.size w w' → Calls Tryz.prog 8 #[.slice A n c] w' (MadeQ w')) := Lib.hid fun w' hb => refMade_any w' A n c xs hn ((hA.keep hb).more hb.size) hfit hc hbig
  have HY : Hid (∀ w', Below w.heap.size w w' → BytesAt w' w'.heap.size A0 bs) := Lib.hid fun w' hb => (hby.keep hb).more hb.size
  have HN0 := Lib.hid hn0
  have HB0 := Lib.hid hb0
  have HFA := Lib.hid fa
  have HCC : Hid (n0 ≤ c0 ∧ c0 ≤ 9223372036854775807) := Lib.hid ⟨hbc, hbig0⟩
  obtain ⟨i0, hi, hz0, hz1, hz2⟩ := info_parts info_u8
  have HI := Lib.hid hi
  have HZ0 := Lib.hid hz0
  have HZ1 := Lib.hid hz1
  have HZ2 := Lib.hid hz2
  clear hA hfit hn hc hbig hby hn0 hb0 fa hbc hbig0 hi hz0 hz1 hz2
  go_enter Tryz.func3, Tryz.ntmps3
  go_wp2_with fail
  refine (sanity_any _).mono ?_
  rintro e w1 ⟨rfl, hb1⟩
  have HB1 := Lib.hid hb1
  clear hb1
  by_cases hbigb : 3000 < n0
  · go_wp2_with fail
    go_ret
    exact ⟨rfl, HB1.out⟩
  have HBG := Lib.hid hbigb
  go_wp2_with fail
  refine (show Calls Tryz.prog 5 #[.slice A0 n0 c0] w1 (RxPost w1 65536 bs) from by
    have h := HB0.out
    subst h
    exact readLt_yes w1 A0 bs c0 (by have := HBG.out; omega) HCC.out.1 HCC.out.2 (HY.out w1 HB1.out) HN0.out).mono ?_
  rintro e w2 (⟨l, s, ns, rfl, hm2, hok2, hv2, hbs2, hb2⟩ | ⟨rfl, hb2⟩)
  · have HOK := Lib.hid hok2
    have HV := Lib.hid hv2
    have HBS := Lib.hid hbs2
    obtain ⟨lo, hlo⟩ : ∃ lo, lo = w1.heap.size + 5 := ⟨_, rfl⟩
    rw [← hlo] at hm2
    have HLO : Hid (0 < lo) := Lib.hid (by omega)
    have HMEM := Lib.hid hm2
    have HB2 := Lib.hid (below_trans HB1.out hb2)
    clear hm2 hok2 hv2 hbs2 hb2 hlo
    go_wp2_with (first
      | (with_reducible refine g_alloc 37 ?_; refine wpList_alloc_as rfl _ rfl (ltVal zLt zSl) lt_zero ?_)
      | (with_reducible refine g_store 37 ?_; refine wpList_store_newrow rfl _ _ _ rfl (ltVal l s) rfl rfl 37 (ltVal zLt zSl) rfl (size62 _ _ HOK.out.ref) (sz_eq _ _ HOK.out.ref) (ltVal_one _ _) ?_; intro w3 hb3 hl3 hr3; have HM3 := Lib.hid (HMEM.out.grow hb3 HLO.out); have HB3 := Lib.hid (below_trans HB2.out hb3); have HR3 := Lib.hid hr3; clear hb3 hl3 hr3)
      | (with_reducible refine g_load 37 ?_; refine wpList_load_Row rfl _ _ rfl w2.heap.size rfl (ltVal l s) HR3.out _ Tryz.underlying37 rfl (size62 _ _ HOK.out.ref) ?_))
    refine (bytes_lx HOK.out (Nat.le_refl _) HM3.out HLO.out).mono ?_
    intro e w4 hp
    unfold BytesPost at hp
    obtain ⟨hp, hb4⟩ := hp
    rw [HV.out, HBS.out, if_pos rfl] at hp
    obtain ⟨v4, rfl, hown4⟩ := hp
    obtain ⟨A4, c4, rfl, h41, h42, h43, hby4⟩ := bytesAt_own hown4
    have HB4 := Lib.hid (below_trans HB3.out hb4)
    have HSB : Hid (Calls Tryz.prog 7 #[.slice A4 n0 c4, .slice A0 n0 c0] w4 (Gives (.bool true) w4)) := Lib.hid (by
      have h := sameBytes_any A4 A0 c4 c0 bs bs w4 hby4 (HY.out w4 HB4.out) (by have h1 := HB0.out; have h2 := HBG.out; omega)
      rw [HB0.out] at h
      rwa [beq_self_eq_true] at h)
    rw [HB0.out]
    clear hown4 h41 h42 h43 hby4 hb4
    go_wp2_with fail
    refine HSB.out.mono ?_
    rintro e w4b ⟨rfl, hb4b⟩
    have HB4b := Lib.hid (below_trans HB4.out hb4b)
    clear hb4b HSB HM3 HR3
    go_wp2_with fail
    refine (HM.out _ HB4b.out).mono ?_
    rintro e w5 ⟨L, s5, ns5, rfl, hml, hmem5, hb5⟩
    have HML := Lib.hid hml
    have HB5 := Lib.hid (below_trans HB4b.out hb5)
    obtain ⟨lo5, hlo5⟩ : ∃ lo, lo = w4b.heap.size + 2 := ⟨_, rfl⟩
    rw [← hlo5] at hmem5
    have HL5 : Hid (0 < lo5) := Lib.hid (by omega)
    have HM5 := Lib.hid hmem5
    clear hml hmem5 hb5 hlo5
    go_wp2_with fail
    refine (bytes_var HML.out HM5.out HL5.out (VarOf.same HML.out)).mono ?_
    intro e w6 hp
    unfold BytesPost at hp
    obtain ⟨hp, hb6⟩ := hp
    rw [HML.out.vc, if_pos rfl] at hp
    obtain ⟨v6, rfl, hown⟩ := hp
    have hsm := made_small HML.out
    obtain ⟨cs, hcs⟩ : ∃ cs, ltBytes L (sbOf L) = cs := ⟨_, rfl⟩
    rw [hcs] at hown hsm
    obtain ⟨N, hN⟩ : ∃ N, cs.length = N := ⟨_, rfl⟩
    rw [hN] at hown hsm
    obtain ⟨g6, c6, rfl, hg6⟩ := own_form hown hsm.1
    have HCS := Lib.hid hcs
    have HN := Lib.hid hN
    have HOW6 := Lib.hid hown
    have HB6 := Lib.hid (below_trans HB5.out hb6)
    obtain ⟨hN1, hN2⟩ := hsm
    have hnz : ((N : Int) == 0) = false := by rw [beq_dec]; exact decide_eq_false (by omega)
    clear hcs hN hown hb6 hg6
    go_wp2_with fail
    refine (refMod_any at_ N _ (by omega) (by omega) HFA.out).mono ?_
    rintro e w7 ⟨rfl, rfl⟩
    obtain ⟨k, hk⟩ : ∃ k : Nat, at_ % (N : Int) = (k : Int) := ⟨(at_ % (N : Int)).toNat, by have := Int.emod_nonneg at_ (show (N : Int) ≠ 0 by omega); omega⟩
    have hkN : (k : Int) < (N : Int) := by rw [← hk]; exact Int.emod_lt_of_pos at_ (by omega)
    rw [hk]
    clear hk
    have hcap := own_cap HOW6.out
    obtain ⟨hcap1, hcap2⟩ := hcap
    have hk6 : (k : Int) ≤ (c6 : Int) := by omega
    have HCAP : Hid (N ≤ c6 ∧ c6 ≤ 9223372036854775807) := Lib.hid ⟨hcap1, hcap2⟩
    have HRD : Hid (Calls Tryz.prog 5 #[.slice (some ⟨g6, 0, none⟩) k c6] w7 (RxNo w7)) := Lib.hid (read_part HML.out _ (cs.take k) (cs.drop k) k c6 (by rw [List.length_take, HN.out]; omega) (by rw [HCS.out, List.take_append_drop]) (by intro h; have h2 := congrArg List.length h; rw [List.length_drop, HN.out] at h2; simp at h2; omega) (by omega) (by omega) (bytes_take (own_bytes HOW6.out HN.out)) (fun h => nomatch h))
    clear hcap1 hcap2
    go_wp2_with fail
    refine HRD.out.mono ?_
    rintro e w8 ⟨rfl, hb8⟩
    have HB8 := Lib.hid (below_trans HB6.out hb8)
    have HOW8 := Lib.hid (ownsRow_below HOW6.out hb8 (Nat.le_refl _))
    clear hb8 HRD hk6
    go_wp2_with (first
      | (with_reducible refine g_alloc 37 ?_; refine wpList_alloc_as rfl _ rfl (ltVal zLt zSl) lt_zero ?_)
      | (with_reducible refine g_store 37 ?_; refine wpList_store_newrow rfl _ _ _ rfl (ltVal zLt zSl) rfl rfl 37 (ltVal zLt zSl) rfl (size62 _ _ (show zLt.ref.length = 32 from rfl)) (sz_eq _ _ (show zLt.ref.length = 32 from rfl)) (ltVal_one _ _) ?_; intro w9 hb9 hl9 hr9; have HB9 := Lib.hid (below_trans HB8.out hb9); have HOW9 := Lib.hid (ownsRow_below HOW8.out hb9 (Nat.le_refl _)); have HOE := Lib.hid (own_noneB w9); clear hb9 hl9 hr9)
      | (at_builtin; refine wpList_append_own_at _ rfl _ _ 22 rfl w9.heap.size 5 i0 (.int .u8 0) 1 1 Tryz.underlying22 HI.out HZ0.out HZ1.out HZ2.out rfl (by decide) _ 0 [] rfl HOE.out ⟨g6, 0, none⟩ N c6 (cs.map Extern.Stop.cell) rfl (by rw [List.length_map, HN.out]; omega) ((ownsRow_below HOW9.out (below_var w9 _) (Nat.le_refl _)).cells rfl) (by intro u hu; obtain ⟨z, _, rfl⟩ := List.mem_map.1 hu; rfl) (by unfold maxLen; omega) (by omega) (by simp) ?_))
    intro v' w10 hown10 hg10 _ _
    have HB10' : Hid (Below w9.heap.size w9 w10) := Lib.hid (below_grown (below_var w9 _) HOE.out (by simp) hg10)
    have hsz10 := HB10'.out.size
    obtain ⟨g10, c10, rfl, _⟩ := own_form hown10 hN1
    have HOW10 := Lib.hid hown10
    clear hown10 hg10 HOE
    go_wp2_with (at_builtin; refine wpList_append_own_at _ rfl _ _ 22 rfl w9.heap.size 5 i0 (.int .u8 0) 1 1 Tryz.underlying22 HI.out HZ0.out HZ1.out HZ2.out rfl (by decide) _ _ _ rfl (HOW10.out.alloc _) ⟨w10.heap.size, 0, none⟩ 1 1 [Extern.Stop.cell (byteOf at_)] rfl rfl (by rw [byteOf_cell]; exact cell_one_new _ _ _) (by intro u hu; simp at hu; subst hu; rfl) (by unfold maxLen; omega) (by omega) (by simp; omega) ?_)
    intro v' w11 hown11 hg11 _ _
    have HB11' : Hid (Below w9.heap.size w9 w11) := Lib.hid (below_grown (HB10'.out.trans ((below_var w10 _).mono hsz10)) (HOW10.out.alloc _) (by simp; omega) hg11)
    have HB11 := Lib.hid (below_trans HB9.out HB11'.out)
    obtain ⟨g11, c11, rfl, _⟩ := own_form hown11 (Nat.succ_pos _)
    have hcap11 := own_cap hown11
    have HRM : Hid (Calls Tryz.prog 5 #[.slice (some ⟨g11, 0, none⟩) (N + 1) c11] w11 (RxNo w11)) := Lib.hid (read_more HML.out _ (cs ++ [byteOf at_]) [byteOf at_] (N + 1) c11 (by simp [HN.out]) (by rw [HCS.out]) (by simp) (by simp) hcap11.1 hcap11.2 (own_bytes (bs := cs ++ [byteOf at_]) (by rw [List.map_append]; exact hown11) (by simp [HN.out])) (fun h => nomatch h))
    clear hown11 hg11 hcap11 HB10' HOW10 hsz10 HB11'
    go_wp2_with fail
    refine HRM.out.mono ?_
    rintro e w12 ⟨rfl, hb12⟩
    have HB12 := Lib.hid (below_trans HB11.out hb12)
    clear hb12 HRM
    go_wp2_with (first
      | (with_reducible refine g_alloc 37 ?_; refine wpList_alloc_as rfl _ rfl (ltVal zLt zSl) lt_zero ?_)
      | (with_reducible refine g_store 37 ?_; refine wpList_store_newrow rfl _ _ _ rfl (ltVal zLt zSl) rfl rfl 37 (ltVal zLt zSl) rfl (size62 _ _ (show zLt.ref.length = 32 from rfl)) (sz_eq _ _ (show zLt.ref.length = 32 from rfl)) (ltVal_one _ _) ?_; intro w13 hb13 hl13 hr13; have HB13 := Lib.hid (below_trans HB12.out hb13); clear hb13 hl13 hr13))
    go_ret
    exact ⟨rfl, HB13.out⟩
  · have HB2 := Lib.hid (below_trans HB1.out hb2)
    clear hb2
    go_wp2_with (first
      | (with_reducible refine g_alloc 37 ?_; refine wpList_alloc_as rfl _ rfl (ltVal zLt zSl) lt_zero ?_)
      | (with_reducible refine g_store 37 ?_; refine wpList_store_newrow rfl _ _ _ rfl (ltVal zLt zSl) rfl rfl 37 (ltVal zLt zSl) rfl (size62 _ _ (show zLt.ref.length = 32 from rfl)) (sz_eq _ _ (show zLt.ref.length = 32 from rfl)) (ltVal_one _ _) ?_; intro w3 hb3 hl3 hr3; have HB3 := Lib.hid (below_trans HB2.out hb3); clear hb3 hl3 hr3))
    refine (HM.out _ HB3.out).mono ?_
    rintro e w5 ⟨L, s5, ns5, rfl, hml, hmem5, hb5⟩
    have HML := Lib.hid hml
    have HB5 := Lib.hid (below_trans HB3.out hb5)
    obtain ⟨lo5, hlo5⟩ : ∃ lo, lo = w3.heap.size + 2 := ⟨_, rfl⟩
    rw [← hlo5] at hmem5
    have HL5 : Hid (0 < lo5) := Lib.hid (by omega)
    have HM5 := Lib.hid hmem5
    clear hml hmem5 hb5 hlo5
    go_wp2_with fail
    refine (bytes_var HML.out HM5.out HL5.out (VarOf.same HML.out)).mono ?_
    intro e w6 hp
    unfold BytesPost at hp
    obtain ⟨hp, hb6⟩ := hp
    rw [HML.out.vc, if_pos rfl] at hp
    obtain ⟨v6, rfl, hown⟩ := hp
    have hsm := made_small HML.out
    obtain ⟨cs, hcs⟩ : ∃ cs, ltBytes L (sbOf L) = cs := ⟨_, rfl⟩
    rw [hcs] at hown hsm
    obtain ⟨N, hN⟩ : ∃ N, cs.length = N := ⟨_, rfl⟩
    rw [hN] at hown hsm
    obtain ⟨g6, c6, rfl, hg6⟩ := own_form hown hsm.1
    have HCS := Lib.hid hcs
    have HN := Lib.hid hN
    have HOW6 := Lib.hid hown
    have HB6 := Lib.hid (below_trans HB5.out hb6)
    obtain ⟨hN1, hN2⟩ := hsm
    have hnz : ((N : Int) == 0) = false := by rw [beq_dec]; exact decide_eq_false (by omega)
    clear hcs hN hown hb6 hg6
    go_wp2_with fail
    refine (refMod_any at_ N _ (by omega) (by omega) HFA.out).mono ?_
    rintro e w7 ⟨rfl, rfl⟩
    obtain ⟨k, hk⟩ : ∃ k : Nat, at_ % (N : Int) = (k : Int) := ⟨(at_ % (N : Int)).toNat, by have := Int.emod_nonneg at_ (show (N : Int) ≠ 0 by omega); omega⟩
    have hkN : (k : Int) < (N : Int) := by rw [← hk]; exact Int.emod_lt_of_pos at_ (by omega)
    rw [hk]
    clear hk
    have hcap := own_cap HOW6.out
    obtain ⟨hcap1, hcap2⟩ := hcap
    have hk6 : (k : Int) ≤ (c6 : Int) := by omega
    have HCAP : Hid (N ≤ c6 ∧ c6 ≤ 9223372036854775807) := Lib.hid ⟨hcap1, hcap2⟩
    have HRD : Hid (Calls Tryz.prog 5 #[.slice (some ⟨g6, 0, none⟩) k c6] w7 (RxNo w7)) := Lib.hid (read_part HML.out _ (cs.take k) (cs.drop k) k c6 (by rw [List.length_take, HN.out]; omega) (by rw [HCS.out, List.take_append_drop]) (by intro h; have h2 := congrArg List.length h; rw [List.length_drop, HN.out] at h2; simp at h2; omega) (by omega) (by omega) (bytes_take (own_bytes HOW6.out HN.out)) (fun h => nomatch h))
    clear hcap1 hcap2
    go_wp2_with fail
    refine HRD.out.mono ?_
    rintro e w8 ⟨rfl, hb8⟩
    have HB8 := Lib.hid (below_trans HB6.out hb8)
    have HOW8 := Lib.hid (ownsRow_below HOW6.out hb8 (Nat.le_refl _))
    clear hb8 HRD hk6
    go_wp2_with (first
      | (with_reducible refine g_alloc 37 ?_; refine wpList_alloc_as rfl _ rfl (ltVal zLt zSl) lt_zero ?_)
      | (with_reducible refine g_store 37 ?_; refine wpList_store_newrow rfl _ _ _ rfl (ltVal zLt zSl) rfl rfl 37 (ltVal zLt zSl) rfl (size62 _ _ (show zLt.ref.length = 32 from rfl)) (sz_eq _ _ (show zLt.ref.length = 32 from rfl)) (ltVal_one _ _) ?_; intro w9 hb9 hl9 hr9; have HB9 := Lib.hid (below_trans HB8.out hb9); have HOW9 := Lib.hid (ownsRow_below HOW8.out hb9 (Nat.le_refl _)); have HOE := Lib.hid (own_noneB w9); clear hb9 hl9 hr9)
      | (at_builtin; refine wpList_append_own_at _ rfl _ _ 22 rfl w9.heap.size 5 i0 (.int .u8 0) 1 1 Tryz.underlying22 HI.out HZ0.out HZ1.out HZ2.out rfl (by decide) _ 0 [] rfl HOE.out ⟨g6, 0, none⟩ N c6 (cs.map Extern.Stop.cell) rfl (by rw [List.length_map, HN.out]; omega) ((ownsRow_below HOW9.out (below_var w9 _) (Nat.le_refl _)).cells rfl) (by intro u hu; obtain ⟨z, _, rfl⟩ := List.mem_map.1 hu; rfl) (by unfold maxLen; omega) (by omega) (by simp) ?_))
    intro v' w10 hown10 hg10 _ _
    have HB10' : Hid (Below w9.heap.size w9 w10) := Lib.hid (below_grown (below_var w9 _) HOE.out (by simp) hg10)
    have hsz10 := HB10'.out.size
    obtain ⟨g10, c10, rfl, _⟩ := own_form hown10 hN1
    have HOW10 := Lib.hid hown10
    clear hown10 hg10 HOE
    go_wp2_with (at_builtin; refine wpList_append_own_at _ rfl _ _ 22 rfl w9.heap.size 5 i0 (.int .u8 0) 1 1 Tryz.underlying22 HI.out HZ0.out HZ1.out HZ2.out rfl (by decide) _ _ _ rfl (HOW10.out.alloc _) ⟨w10.heap.size, 0, none⟩ 1 1 [Extern.Stop.cell (byteOf at_)] rfl rfl (by rw [byteOf_cell]; exact cell_one_new _ _ _) (by intro u hu; simp at hu; subst hu; rfl) (by unfold maxLen; omega) (by omega) (by simp; omega) ?_)
    intro v' w11 hown11 hg11 _ _
    have HB11' : Hid (Below w9.heap.size w9 w11) := Lib.hid (below_grown (HB10'.out.trans ((below_var w10 _).mono hsz10)) (HOW10.out.alloc _) (by simp; omega) hg11)
    have HB11 := Lib.hid (below_trans HB9.out HB11'.out)
    obtain ⟨g11, c11, rfl, _⟩ := own_form hown11 (Nat.succ_pos _)
    have hcap11 := own_cap hown11
    have HRM : Hid (Calls Tryz.prog 5 #[.slice (some ⟨g11, 0, none⟩) (N + 1) c11] w11 (RxNo w11)) := Lib.hid (read_more HML.out _ (cs ++ [byteOf at_]) [byteOf at_] (N + 1) c11 (by simp [HN.out]) (by rw [HCS.out]) (by simp) (by simp) hcap11.1 hcap11.2 (own_bytes (bs := cs ++ [byteOf at_]) (by rw [List.map_append]; exact hown11) (by simp [HN.out])) (fun h => nomatch h))
    clear hown11 hg11 hcap11 HB10' HOW10 hsz10 HB11'
    go_wp2_with fail
    refine HRM.out.mono ?_
    rintro e w12 ⟨rfl, hb12⟩
    have HB12 := Lib.hid (below_trans HB11.out hb12)
    clear hb12 HRM
    go_wp2_with (first
      | (with_reducible refine g_alloc 37 ?_; refine wpList_alloc_as rfl _ rfl (ltVal zLt zSl) lt_zero ?_)
      | (with_reducible refine g_store 37 ?_; refine wpList_store_newrow rfl _ _ _ rfl (ltVal zLt zSl) rfl rfl 37 (ltVal zLt zSl) rfl (size62 _ _ (show zLt.ref.length = 32 from rfl)) (sz_eq _ _ (show zLt.ref.length = 32 from rfl)) (ltVal_one _ _) ?_; intro w13 hb13 hl13 hr13; have HB13 := Lib.hid (below_trans HB12.out hb13); clear hb13 hl13 hr13))
    go_ret
    exact ⟨rfl, HB13.out⟩
end Go.Proofs.YthhbbebabmemfaaGreat
