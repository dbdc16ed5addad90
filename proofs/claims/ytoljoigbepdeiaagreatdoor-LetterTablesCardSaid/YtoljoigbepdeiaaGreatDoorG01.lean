/- The texts BytesD, RdL, NumsW, Eql, Change, Valid, in this order. -/
import Derived.Test.YtoljoigbepdeiaaGreatDoorWriters2
import Derived.BigQuiet
import Derived.Deep.AppendLies
import Derived.Deep.CutBlock
import Derived.Deep.DeepCutAuto
import Derived.Deep.DrawnRows
import Derived.Deep.MidRow
import Derived.Deep.QuietTactic
import Derived.Deep.RegionHeld3
import Derived.Deep.RegionLaw
import Derived.Deep.WholeRow
import Derived.Great.BuildSlice
import Derived.Laws.BytesString
import Derived.Laws.CopyOwn
import Derived.Laws.EntriesVeiled
import Derived.Laws.MakeOwn
import Derived.Laws.ResultCell
import Derived.Laws.Rows
import Derived.Laws.Tables
import Derived.Lib.Hide
import Derived.LoopIn
import Derived.LoopNIn
import Derived.Maps.AppendAt
import Derived.Outline
import Derived.OwnWalkIn
import Derived.RangeFuncBound
import Derived.RangeFuncBox
import Derived.RangeFuncCalls
import Derived.RangeFuncLeaves
import Derived.RangeFuncNested
import Derived.Shelf.Abstract
import Derived.Shelf.Bytes.SlSmallAll
import Derived.Shelf.RegionOpen
import Derived.StillTailTactics
import Derived.Stop.BytesEq
import Derived.TacticsInMore
import Derived.WalkKit
import Derived.WalkLawsBesides
import Derived.WalkSpells
import Derived.Test.YtoljoigbepdeiaaGreatDoorReadNum
import Derived.Defers
import Derived.Laws.BitsAllLaws
import Derived.Laws.BytesArg
import Derived.Laws.Cover3
import Derived.Lib.AppendStr
import Derived.Lib.ByteType
import Derived.MapKept
import Derived.Recover
import Derived.Test.YtoljoigbepdeiaaGreatDoorCells
import Derived.Test.YtoljoigbepdeiaaGreatDoorNums
import Derived.Test.YtoljoigbepdeiaaGreatDoorProg
import Derived.Test.YtoljoigbepdeiaaGreatDoorData
/- letter.Bytes: the data, and words for the writer in memory. -/
namespace Go.Proofs.YtoljoigbepdeiaaGreatDoor
open Go Go.RowKit

/-- A field's bytes; sb: the series' bytes. -/
def fldBytes (l : Lt) (sb : List UInt8) (k : Nat) : List UInt8 :=
  if (numOff k).isSome then le (numF l k) 8 else if k = 9 then mvBytes l.move else if k = 10 then sb else if k = 14 then le l.wfrom 8 ++ le l.wto 8 else if k = 15 then le l.cells.length 4 ++ cellBytes l.cells else l.ref
def fldsTo (l : Lt) (sb : List UInt8) : Nat → List UInt8
  | 0 => []
  | k + 1 => fldsTo l sb k ++ (if usesB l.kind k then fldBytes l sb k else [])
def hdBytes (l : Lt) : List UInt8 := cellBytes [l.kind, l.src, l.dst]
def ltBytes (l : Lt) (sb : List UInt8) : List UInt8 := hdBytes l ++ fldsTo l sb 17
theorem mvBytes_length (m : Mv) : (mvBytes m).length = 33 := by simp [mvBytes, le_length]
theorem fldBytes_le (l : Lt) (sb : List UInt8) (k : Nat) (h1 : l.cells.length ≤ 65536) (h2 : l.ref.length = 32) : (fldBytes l sb k).length ≤ sb.length + 70000 := by
  unfold fldBytes
  repeat' split
  all_goals (try simp only [le_length, mvBytes_length, List.length_append, cellBytes_length])
  all_goals omega
theorem fldsTo_le (l : Lt) (sb : List UInt8) (k : Nat) (h1 : l.cells.length ≤ 65536) (h2 : l.ref.length = 32) : (fldsTo l sb k).length ≤ k * (sb.length + 70000) := by
  induction k with
  | zero => simp [fldsTo]
  | succ k ih =>
    have := fldBytes_le l sb k h1 h2
    simp only [fldsTo, List.length_append]
    rw [Nat.succ_mul]
    split
    · exact Nat.add_le_add ih this
    · rw [List.length_nil, Nat.add_zero]; exact Nat.le_trans ih (Nat.le_add_right _ _)
theorem hd_length (l : Lt) : (hdBytes l).length = 3 := by rw [hdBytes, cellBytes_length]; rfl
theorem pre_le (l : Lt) (sb : List UInt8) (k : Nat) (h1 : l.cells.length ≤ 65536) (h2 : l.ref.length = 32) (h3 : sb.length ≤ 1000000000) (hk : k ≤ 17) : (hdBytes l ++ fldsTo l sb k).length ≤ 100000000000 := by
  have := fldsTo_le l sb k h1 h2
  have h4 : k * (sb.length + 70000) ≤ 17 * (sb.length + 70000) := Nat.mul_le_mul_right _ hk
  rw [List.length_append, hd_length]
  omega

theorem ownsRow_below {M : Nat} {w w' : World} {base e size n : Nat} {v : Value} {xs : List Value} (h : w.ownsRow base e size v n xs) (hb : Below M w w') (hM : w.heap.size ≤ M) : w'.ownsRow base e size v n xs := by
  refine ⟨h.1, ?_⟩
  rcases h.2 with h | ⟨g, cap, cur, rfl, hg, hh, h1, h2, h3, h4⟩
  · exact .inl h
  · refine .inr ⟨g, cap, cur, rfl, hg, ?_, h1, h2, h3, h4⟩
    rw [hb.block g (Nat.lt_of_lt_of_le (Array.getElem?_eq_some_iff.1 hh).1 hM)]
    exact hh
theorem WIn.grow {w w' : World} {g b : Nat} {cs : Array Value} {v : Value} {bs : List UInt8} (h : WIn w g b cs v bs) (hb : Below w.heap.size w w') : WIn w' g b cs v bs :=
  ⟨⟨(hb.block g h.gl).trans h.st.1, ownsRow_below h.st.2 hb (Nat.le_refl _)⟩, h.row.keep hb, h.lt, Nat.lt_of_lt_of_le h.gl hb.size⟩
theorem Far.grow {w w' : World} {g k : Nat} {v : Value} {cs : Array Value} (h : Far w g v k cs) (hb : Below w.heap.size w w') : Far w' g v k cs := ⟨h.row.keep hb, h.ne, h.nv⟩
theorem WKeep.below {M g b : Nat} {cs : Array Value} {v v' : Value} {w w' : World} {bs : List UInt8} (h : WKeep g v w v' w') (hin : WIn w g b cs v bs) (hM : M ≤ b) : Below M w w' :=
  ⟨h.os, h.tape, h.output, h.size, fun k hk => h.block k (by have := hin.gl; have := hin.lt; omega) (by have := hin.lt; omega) (own_ge hin.st.2 k (by have := hin.lt; omega))⟩
theorem NumPost.out {w w' : World} {g b : Nat} {cs : Array Value} {v : Value} {bs bs' : List UInt8} {e : Ending} (h : NumPost w g (pt b) v bs' e w') (hin : WIn w g b cs v bs) :
    e = .returned (.tuple #[]) ∧ ∃ v', WIn w' g b cs v' bs' ∧ WKeep g v w v' w' := by
  obtain ⟨he, v', hs, hk⟩ := h
  exact ⟨he, v', hin.next hs hk, hk⟩
end Go.Proofs.YtoljoigbepdeiaaGreatDoor

/- The letter's reader: take, number, whatever the bytes' capacity (printed by gen_readerl.py from the texts Reader and ReadNum). -/
namespace Go.Proofs.YtoljoigbepdeiaaGreatDoor
open Go Go.RowKit Go.Shelf
attribute [local go_sem] Oper.semAt_some

set_option maxRecDepth 10000 in
set_option maxHeartbeats 1000000 in
theorem take_okL (w : World) (N b bb off n c size : Nat) (hr : RBlk w N b (some ⟨bb, off, none⟩) n c false) (hs : size ≤ n) (hn : n ≤ c) (_hc : c ≤ 9223372036854775807) (hne : c ≠ size) :
    Calls Tryz.prog 59 #[I size, pt (N + 2), pt N] w (takeGot N w (.slice (some ⟨bb, off, none⟩) size c) fun w' => RBlk w' N b (some ⟨bb, off + size, none⟩) (n - size) (c - size) false) := by
  have c0 : w.cell? ⟨N, 0, none⟩ = some (.slice (some ⟨bb, off, none⟩) n c) := cell_of_row w N 0 _ _ _ hr.rest
  have f0 := frozen_of_row w N 0 _ _ hr.rest
  have c1 : w.cell? ⟨N + 1, 2, none⟩ = some (.bool false) := cell_of_row w (N + 1) 2 _ _ _ hr.rd
  have f1 := frozen_of_row w (N + 1) 2 _ _ hr.rd
  have c2 : w.cell? ⟨N + 2, 0, none⟩ = some (pt (N + 1)) := cell_of_row w (N + 2) 0 _ _ _ hr.var
  have hd : decide ((n : Int) < (size : Int)) = false := decide_eq_false (by omega)
  have HR := Lib.hid hr
  clear hr
  go_enter Tryz.func59, Tryz.ntmps59
  go_wp2
  go_still_tail 13, (by kernel_rfl)
  go_wp2
  go_ret
  exact ⟨rfl, ((HR.out.setBad false).setRest).draw, (((RKeep.refl N w).set (p := ⟨N + 1, 2, none⟩) (.inr rfl) _).set (p := ⟨N, 0, none⟩) (.inl rfl) _).draw⟩
set_option maxRecDepth 10000 in
set_option maxHeartbeats 1000000 in
theorem take_allL (w : World) (N b bb off size : Nat) (hr : RBlk w N b (some ⟨bb, off, none⟩) size size false) (_hc : size ≤ 9223372036854775807) :
    Calls Tryz.prog 59 #[I size, pt (N + 2), pt N] w (takeGot N w (.slice (some ⟨bb, off, none⟩) size size) fun w' => RBlk w' N b (some ⟨bb, off, none⟩) 0 0 false) := by
  have c0 : w.cell? ⟨N, 0, none⟩ = some (.slice (some ⟨bb, off, none⟩) size size) := cell_of_row w N 0 _ _ _ hr.rest
  have f0 := frozen_of_row w N 0 _ _ hr.rest
  have c1 : w.cell? ⟨N + 1, 2, none⟩ = some (.bool false) := cell_of_row w (N + 1) 2 _ _ _ hr.rd
  have f1 := frozen_of_row w (N + 1) 2 _ _ hr.rd
  have c2 : w.cell? ⟨N + 2, 0, none⟩ = some (pt (N + 1)) := cell_of_row w (N + 2) 0 _ _ _ hr.var
  have hd : decide ((size : Int) < (size : Int)) = false := decide_eq_false (by omega)
  have HR := Lib.hid hr
  clear hr
  go_enter Tryz.func59, Tryz.ntmps59
  go_wp2
  go_still_tail 13, (by kernel_rfl)
  go_wp2
  go_ret
  exact ⟨rfl, ((HR.out.setBad false).setRest).draw, (((RKeep.refl N w).set (p := ⟨N + 1, 2, none⟩) (.inr rfl) _).set (p := ⟨N, 0, none⟩) (.inl rfl) _).draw⟩
/-- The reader: what is left to be read, and whether it has failed; the bytes lie below block B. -/
def RStL (w : World) (N b B : Nat) (rest : List UInt8) (bad : Bool) : Prop :=
  ∃ A c, RBlk w N b A rest.length c bad ∧ rest.length ≤ c ∧ c ≤ 9223372036854775807 ∧ BytesAt w B A rest ∧ (A = none → c = 0)
def TakePostL (w : World) (N b B : Nat) (rest : List UInt8) (bad : Bool) (size : Nat) (e : Ending) (w' : World) : Prop :=
  if bad = true ∨ rest.length < size then e = .returned (.slice none 0 0) ∧ RStL w' N b B rest true ∧ RKeep N w w'
  else ∃ A c, e = .returned (.slice A size c) ∧ size ≤ c ∧ c ≤ 9223372036854775807 ∧ BytesAt w' B A (rest.take size) ∧ RStL w' N b B (rest.drop size) false ∧ RKeep N w w'
theorem take_anyL (w : World) (N b B : Nat) (rest : List UInt8) (bad : Bool) (size : Nat) (hB : B ≤ N) (hN : N < w.heap.size) (hr : RStL w N b B rest bad) :
    Calls Tryz.prog 59 #[I size, pt (N + 2), pt N] w (TakePostL w N b B rest bad size) := by
  obtain ⟨A, c, hb, hc1, hc2, hby, hnil⟩ := hr
  by_cases hs : rest.length < size
  · have hpos : bad = true ∨ rest.length < size := .inr hs
    cases bad with
    | true => exact (take_bad w N b A _ c size hb).mono fun e w' ⟨he, hw, hk⟩ => by unfold TakePostL; rw [if_pos hpos]; exact ⟨he, ⟨A, c, hw, hc1, hc2, hby.rkeep hk hB hN, hnil⟩, hk⟩
    | false => exact (take_short w N b A _ c size hb (by omega)).mono fun e w' ⟨he, hw, hk⟩ => by unfold TakePostL; rw [if_pos hpos]; exact ⟨he, ⟨A, c, hw, hc1, hc2, hby.rkeep hk hB hN, hnil⟩, hk⟩
  · cases bad with
    | true => exact (take_bad w N b A _ c size hb).mono fun e w' ⟨he, hw, hk⟩ => by unfold TakePostL; rw [if_pos (.inl rfl)]; exact ⟨he, ⟨A, c, hw, hc1, hc2, hby.rkeep hk hB hN, hnil⟩, hk⟩
    | false =>
      have hneg : ¬ (false = true ∨ rest.length < size) := by simp [hs]
      have htl : (rest.take size).length = size := by simp; omega
      have hdl : (rest.drop size).length = rest.length - size := by simp
      cases A with
      | none =>
        have h0 : c = 0 := hnil rfl
        have hl0 : rest.length = 0 := by omega
        have hs0 : size = 0 := by omega
        subst h0 hs0
        have hr0 := List.eq_nil_of_length_eq_zero hl0
        subst hr0
        refine (take_nil w N b hb).mono fun e w' ⟨he, hw, hk⟩ => ?_
        unfold TakePostL
        rw [if_neg hneg]
        exact ⟨none, 0, he, Nat.le_refl _, by omega, .inl rfl, ⟨none, 0, hw, Nat.le_refl _, by omega, .inl rfl, fun _ => rfl⟩, hk⟩
      | some a =>
        by_cases h0 : rest.length = 0
        · have hs0 : size = 0 := by omega
          subst hs0
          have hr0 := List.eq_nil_of_length_eq_zero h0
          subst hr0
          refine (take_zero w N b a c hb).mono fun e w' ⟨he, hw, hk⟩ => ?_
          unfold TakePostL
          rw [if_neg hneg]
          exact ⟨some a, c, he, Nat.zero_le _, hc2, .inl rfl, ⟨some a, c, hw, Nat.zero_le _, hc2, .inl rfl, fun h => by cases h⟩, hk⟩
        · rcases hby with h | ⟨bb, off, e, hbB, hcl⟩
          · exact absurd h h0
          · injection e with e
            subst e
            have got : ∀ w', RKeep N w w' → BytesAt w' B (some ⟨bb, off, none⟩) (rest.take size) := fun w' hk =>
              BytesAt.rkeep (.inr ⟨bb, off, rfl, hbB, fun j hj => by rw [hcl j (by omega)]; rw [List.getElem?_take_of_lt (by omega)]⟩) hk hB hN
            by_cases hcs : c = size
            · have hls : rest.length = size := by omega
              subst hcs
              rw [hls] at hb
              refine (take_allL w N b bb off c hb hc2).mono fun e w' ⟨he, hw, hk⟩ => ?_
              unfold TakePostL
              rw [if_neg hneg]
              have hd0 : (rest.drop c).length = 0 := by omega
              exact ⟨_, c, he, Nat.le_refl _, hc2, got w' hk, ⟨some ⟨bb, off, none⟩, 0, by rw [hd0]; exact hw, by omega, by omega, .inl hd0, fun h => by cases h⟩, hk⟩
            · refine (take_okL w N b bb off _ c size hb (by omega) hc1 hc2 hcs).mono fun e w' ⟨he, hw, hk⟩ => ?_
              unfold TakePostL
              rw [if_neg hneg]
              refine ⟨_, c, he, by omega, hc2, got w' hk, ⟨some ⟨bb, off + size, none⟩, c - size, by rw [hdl]; exact hw, by omega, by omega, ?_, fun h => by cases h⟩, hk⟩
              exact BytesAt.rkeep (.inr ⟨bb, off + size, rfl, hbB, fun j hj => by rw [show off + size + j = off + (size + j) by omega, hcl (size + j) (by omega), List.getElem?_drop]⟩) hk hB hN
theorem RStL.below {M : Nat} {w w' : World} {N b B : Nat} {rest : List UInt8} {bad : Bool} (h : RStL w N b B rest bad) (hb : Below M w w') (hB : B ≤ N) (hN : N + 2 < M) : RStL w' N b B rest bad := by
  obtain ⟨A, c, hr, h1, h2, h3, h4⟩ := h
  exact ⟨A, c, ⟨(hb.block N (by omega)).trans hr.rest, (hb.block (N + 1) (by omega)).trans hr.rd, (hb.block (N + 2) (by omega)).trans hr.var⟩, h1, h2, h3.keep (hb.mono (by omega)), h4⟩
theorem take_genL (w : World) (N b B : Nat) (rest : List UInt8) (bad : Bool) (size : Nat) (hB : B ≤ N) (hN : N < w.heap.size) (hr : RStL w N b B rest bad) :
    Calls Tryz.prog 59 #[I size, pt (N + 2), pt N] w fun e w' => ∃ A c, e = .returned (.slice A (tk rest bad size).length c) ∧ BytesAt w' B A (tk rest bad size) ∧ RStL w' N b B (tkR rest bad size) (tkB rest bad size) ∧ RKeep N w w' := by
  refine (take_anyL w N b B rest bad size hB hN hr).mono fun e w' h => ?_
  unfold TakePostL at h
  by_cases ht : bad = true ∨ rest.length < size
  · rw [if_pos ht] at h
    have e1 : tkB rest bad size = true := by unfold tkB; simpa using ht
    have e2 : tk rest bad size = [] := by unfold tk; rw [if_pos e1]
    have e3 : tkR rest bad size = rest := by unfold tkR; rw [if_pos e1]
    rw [e1, e2, e3]
    exact ⟨none, 0, h.1, .inl rfl, h.2.1, h.2.2⟩
  · rw [if_neg ht] at h
    have e1 : tkB rest bad size = false := by unfold tkB; simpa using ht
    have e2 : tk rest bad size = rest.take size := by unfold tk; rw [e1]; simp
    have e3 : tkR rest bad size = rest.drop size := by unfold tkR; rw [e1]; simp
    have e4 : (rest.take size).length = size := by have := not_or.1 ht; simp; omega
    rw [e1, e2, e3, e4]
    obtain ⟨A, c, h1, _, _, h4, h5, h6⟩ := h
    exact ⟨A, c, h1, h4, h5, h6⟩
def NumGotL (w : World) (N b B : Nat) (rest : List UInt8) (bad : Bool) (size : Nat) (e : Ending) (w' : World) : Prop :=
  e = .returned (I (rdN rest bad size)) ∧ RStL w' N b B (tkR rest bad size) (tkB rest bad size) ∧ RKeep N w w'
set_option maxRecDepth 100000 in
set_option maxHeartbeats 2000000 in
theorem rnumber_anyL (w : World) (N b B size : Nat) (rest : List UInt8) (bad : Bool) (hBN : B ≤ N) (hN : N + 2 < w.heap.size) (hr : RStL w N b B rest bad) (h8 : size ≤ 8) :
    Calls Tryz.prog 33 #[pt (N + 1), I size] w (NumGotL w N b B rest bad size) := by
  refine (callsIn_wide (n := 3)).1 ?_
  have hro : Fence.wide.round = none := rfl
  have h1 : 1 ≤ 3 := by omega
  have hB0 : Below w.heap.size w (w.alloc (.cells #[.int .i64 0] 3)) := (Below.refl _ w).alloc (Nat.le_refl _) _
  have hr1 : RStL (w.alloc (.cells #[.int .i64 0] 3)) N b B rest bad := hr.below hB0 hBN hN
  have hf1 : (w.alloc (.cells #[.int .i64 0] 3)).cell? ⟨N + 1, 1, none⟩ = some (.func (.func 59) #[] #[pt (N + 2), pt N]) := by obtain ⟨A, c, h, _⟩ := hr1; exact cell_of_row _ (N + 1) 1 _ _ _ h.rd
  have bS := Boxed.new w 3 (.int .i64 0)
  have HT0 := take_genL (w.alloc (.cells #[.int .i64 0] 3)) N b B rest bad size hBN (by simp; omega) hr1
  obtain ⟨bs, hbs⟩ : ∃ bs, tk rest bad size = bs := ⟨_, rfl⟩
  have HL := Lib.hid (show bs.length ≤ size from hbs ▸ tk_le rest bad size)
  rw [hbs] at HT0
  have HBS2 := Lib.hid hbs
  have HT := Lib.hid HT0
  have HR := Lib.hid hr
  have HR1 := Lib.hid hr1
  have HB0 := Lib.hid hB0
  have HBS := Lib.hid bS
  clear hr hr1 hB0 bS HT0 hbs
  refine callsIn_of_wp_marks Tryz.func33 rfl trivial ?_ hro
  simp only [Tryz.ntmps33, List.size_toArray, List.length_cons, List.length_nil, Nat.reduceAdd, Nat.reduceSub, Array.replicate_succ, Array.replicate_zero, List.push_toArray, List.append_toArray, List.nil_append, List.cons_append]
  gi_wp2_with first
    | (refine ⟨trivial, ?_⟩; gi_at_call 59; refine (callsIn_wide.2 HT.out).mono ?_; rintro e w2 ⟨A, c, rfl, hby, hrs, hk⟩; have HBY := Lib.hid hby; have HRS := Lib.hid hrs; have HK := Lib.hid hk; clear hby hrs hk)
    | (refine ⟨trivial, ?_⟩; gi_at_call 61; refine (back_in Fence.wide 2 trivial hro _ _ _ _).mono ?_; rintro e w' ⟨rfl, rfl⟩)
  have hw2 : w.heap.size < w2.heap.size := Nat.lt_of_lt_of_le (by simp) HK.out.size
  have bS2 : Boxed w2 w.heap.size 3 (.int .i64 0) := (HK.out.block w.heap.size (by simp) (by omega) (by omega)).trans HBS.out
  have bN := Boxed.new w2 24 (.slice A bs.length c)
  have hB1 : Below w.heap.size w2 (w2.alloc (.cells #[.slice A bs.length c] 24)) := ((Below.refl _ w2).alloc (Nat.le_refl _) _).mono (by omega)
  have hby1 : BytesAt (w2.alloc (.cells #[.slice A bs.length c] 24)) w.heap.size A bs := (HBY.out.more (by omega)).keep hB1
  have hcl : (w2.alloc (.cells #[.slice A bs.length c] 24)).cell? ⟨w2.heap.size, 0, none⟩ = some (.slice A bs.length c) := bN.cell
  have hst := back_stops Fence.wide (3 - 1) trivial hro (by omega) w2.heap.size w.heap.size A c bs (by have := HL.out; omega) (w2.alloc (.cells #[.slice A bs.length c] 24)) (by simp) (by simp; omega) hcl hby1
  refine wpIn_rangeFunc_ownG hro h1 (gf := 86) (lb := #[.pointer (some ⟨w2.heap.size, 0, none⟩)]) rfl trivial (enters_of Tryz.func86 (by kernel_rfl) rfl)
    hst (fun h k => h.trans k) (bk_b (by simp; omega) (by simp)) (Below.refl _ _) (fun _ => rfl)
    (fun pre W => Boxed W w.heap.size 3 (I (unle pre)) ∧ Below w.heap.size w2 W)
    (fun _ _ _ => False)
    (OwnFrom.and (Own.from (boxed_own _ _ _) _) (ownFrom_below (by omega) (by simp; omega)))
    (fun _ _ _ _ _ hs _ _ => hs)
    ⟨bS2.alloc _, hB1⟩
    (fun x => { tmps := #[pt (N + 1), I size, undef, undef, .int .i64 0, .pointer (some ⟨w.heap.size, 0, none⟩), undef, Extern.Stop.cell x.2, pt (N + 1), .pointer (some ⟨N + 1, 0, none⟩), .pointer (some ⟨N + 1, 1, none⟩), .func (.func 59) #[] #[pt (N + 2), pt N], I size, .slice A bs.length c, .func (.func 86) #[] #[.pointer (some ⟨w2.heap.size, 0, none⟩)], .int .i64 (x.1 : Int), Extern.Stop.cell x.2, undef, undef, undef, undef, undef, undef], defers := [] }) ?assign ?body ?done ?stop
  case assign =>
    intro l x W K hK
    gi_wp2
    exact hK
  case body =>
    rintro l pre ⟨xi, xc⟩ W ⟨hbx, hB⟩ _
    have hc := hbx.cell
    have hx1 : (xc.toNat : Int) < 256 := by have := xc.toNat_lt; omega
    have hx2 : (0 : Int) ≤ xc.toNat := by omega
    simp only [Extern.Stop.cell]
    have hf := hbx.frozen
    gi_wp2
    exact ⟨(KeepsOthers.setCell _ _ _).from _, ⟨(Below.refl w.heap.size W).setCell (p := ⟨w.heap.size, 0, none⟩) (Nat.le_refl _) _, World.cell?_setCell_other _ _ _ _ (by intro e; have := congrArg Addr.block e; simp only at this; omega)⟩, by rw [unle_snoc]; exact hbx.set _, hB.setCell (p := ⟨w.heap.size, 0, none⟩) (Nat.le_refl _) _⟩
  case done =>
    rintro D ys W hD rfl ⟨hbx, hB⟩ hK
    have hc := hbx.cell
    gi_wp2
    refine ⟨by simp, .inl ⟨_, _, rfl, run_takeDeferred hK, ?_⟩⟩
    refine ⟨_, results_tmp rfl _ _ _, ?_⟩
    have hB2 := hB.trans (belowK_b (w := w2) (n₀ := w.heap.size) (by omega) W D _ (.deferred none) (by simp at hD; omega) hK rfl rfl)
    unfold NumGotL rdN
    rw [HBS2.out]
    exact ⟨rfl, HRS.out.below hB2 hBN hN, rkeep_mix HB0.out HK.out hB2⟩
  case stop =>
    rintro D c pre W _ _ h _
    exact h.elim
end Go.Proofs.YtoljoigbepdeiaaGreatDoor

/- letter.validNumbers, walked. -/
namespace Go.Proofs.YtoljoigbepdeiaaGreatDoor
open Go Go.RowKit

attribute [local go_sem] lt_get0 lt_get7 lt_get8 lt_get17 lt_get18 lt_get19 lt_get20 lt_get21 lt_get22 lt_get23
def NumsRel (l : Lt) (cs : Array Value) (bare : Bool) (w : World) (i : Value) (wr : World) : Prop :=
  ∃ k : Nat, k ≤ 17 ∧ i = .int .i64 k ∧ Row wr w.heap.size cs ∧ Below w.heap.size w wr ∧ ∀ j, j < k → numOK l bare j = true

set_option maxRecDepth 10000 in
set_option maxHeartbeats 1000000 in
theorem validNumbers_not8 (l : Lt) (vr vm vc : Value) (n m : Nat) (w : World) (h8 : l.kind ≠ 8) :
    Calls Tryz.prog 48 #[.agg (ltCells l vr vm vc)] w (Gives (.bool (vNums l (bareB l.kind n m l.series))) w) := by
  have hbare : bareB l.kind n m l.series = false := by unfold bareB; rw [decide_eq_false h8]; rfl
  rw [hbare]
  clear hbare
  have b8 : (l.kind == 8) = false := by rw [beq_dec]; exact decide_eq_false h8
  have R0 := Row.new w (ltCells l vr vm vc) 57
  have B0 := below_var w (.cells (ltCells l vr vm vc) 57)
  have H0 := Lib.hid R0
  have HB0 := Lib.hid B0
  clear R0 B0 h8
  go_enter Tryz.func48, Tryz.ntmps48
  go_wp2_with (go_at_call 30; refine (numbers_any _ _).mono ?_; rintro e w1 ⟨rfl, hb1⟩)
  have H1 := Lib.hid (H0.out.keep hb1)
  have HB1 := Lib.hid (below_trans HB0.out hb1)
  clear H0 HB0 hb1
  go_loopw [18] (fun i wr => NumsRel l (ltCells l vr vm vc) false w i wr) (fun i _ => 17 - (intOf i).toNat)
  case atStart => exact ⟨0, by omega, rfl, H1.out, HB1.out, fun j hj => absurd hj (by omega)⟩
  case round =>
    obtain ⟨k, hk, rfl, hrow, hbel, hall⟩ := hrel
    have HR := Lib.hid hrow
    have HB := Lib.hid hbel
    have HA := Lib.hid hall
    clear hrow hbel hall
    by_cases hlt : k < 17
    · have hix := fun W => index_nums w.heap.size k hlt W
      cases ho : numOff k with
      | none =>
        have hp : ptrAt w.heap.size k = .pointer none := by unfold ptrAt; rw [ho]
        rw [hp] at hix
        have HO := Lib.hid ho
        clear ho hp
        go_wp2
        go_roundw
        case rel => exact ⟨k + 1, by omega, by go_num, HR.out, HB.out, fun j hj => by
          rcases Nat.lt_succ_iff_lt_or_eq.1 hj with h | h
          · exact HA.out j h
          · subst h; exact numOK_nil HO.out⟩
        case measure => simp [intOf]; omega
      | some o =>
        have hp : ptrAt w.heap.size k = .pointer (some ⟨w.heap.size, o, none⟩) := by unfold ptrAt; rw [ho]; rfl
        rw [hp] at hix
        have hcell := lt_num l vr vm vc k o hlt ho
        have HO := Lib.hid ho
        clear ho hp
        obtain ⟨x, hx⟩ : ∃ x, numF l k = x := ⟨_, rfl⟩
        rw [hx] at hcell
        have HX := Lib.hid hx
        clear hx
        obtain ⟨u, hu⟩ : ∃ u, usesB l.kind k = u := ⟨_, rfl⟩
        have HU := Lib.hid hu
        clear hu
        obtain ⟨lo, hlo⟩ : ∃ x, limLow l.kind k = x := ⟨_, rfl⟩
        obtain ⟨hi, hhi⟩ : ∃ x, limHigh l.kind k = x := ⟨_, rfl⟩
        have HL := Lib.hid hlo
        have HH := Lib.hid hhi
        clear hlo hhi
        have hr0 := HR.out.2
        cases u with
        | true =>
          go_wp2_with (first
            | (go_at_call 67; refine (limits_any _ _ _ (by omega) (by omega)).mono ?_; rintro e w2 ⟨rfl, hb2⟩; have HR2 := Lib.hid (HR.out.keep hb2); have HB2 := Lib.hid (below_trans HB.out hb2); have hr2 := HR2.out.2; rw [HL.out, HH.out]; clear hb2)
            | (go_at_call 31; refine (uses_any _ _ _ (by omega) (by omega)).mono ?_; rintro e w3 ⟨rfl, hb3⟩; have HR3 := Lib.hid (HR2.out.keep hb3); have HB3 := Lib.hid (below_trans HB2.out hb3); have hr3 := HR3.out.2; rw [HU.out]; clear hb3))
          all_goals first
            | (go_roundw
               case rel => exact ⟨k + 1, by omega, by go_num, HR3.out, HB3.out, fun j hj => by
                 rcases Nat.lt_succ_iff_lt_or_eq.1 hj with h | h
                 · exact HA.out j h
                 · subst h; rw [numOK_lim HO.out (by rw [HU.out]; rfl), HX.out, HL.out, HH.out, decide_eq_true (by omega), decide_eq_true (by omega)]; rfl⟩
               case measure => simp [intOf]; omega)
            | (go_ret
               refine ⟨ret_bool (vNums_no hlt ?_).symm, HB3.out⟩
               rw [numOK_lim HO.out (by rw [HU.out]; rfl), HX.out, HL.out, HH.out]
               rw [Bool.and_eq_false_iff, decide_eq_false_iff_not, decide_eq_false_iff_not]
               omega)
        | false =>
          go_wp2_with (first
            | (go_at_call 67; refine (limits_any _ _ _ (by omega) (by omega)).mono ?_; rintro e w2 ⟨rfl, hb2⟩; have HR2 := Lib.hid (HR.out.keep hb2); have HB2 := Lib.hid (below_trans HB.out hb2); have hr2 := HR2.out.2; rw [HL.out, HH.out]; clear hb2)
            | (go_at_call 31; refine (uses_any _ _ _ (by omega) (by omega)).mono ?_; rintro e w3 ⟨rfl, hb3⟩; have HR3 := Lib.hid (HR2.out.keep hb3); have HB3 := Lib.hid (below_trans HB2.out hb3); have hr3 := HR3.out.2; rw [HU.out]; clear hb3))
          all_goals first
            | (go_roundw
               case rel => exact ⟨k + 1, by omega, by go_num, HR3.out, HB3.out, fun j hj => by
                 rcases Nat.lt_succ_iff_lt_or_eq.1 hj with h | h
                 · exact HA.out j h
                 · subst h; rw [numOK_zero HO.out (by rw [HU.out]; rfl), HX.out, decide_eq_true (by omega), decide_eq_true (by omega)]; rfl⟩
               case measure => simp [intOf]; omega)
            | (go_ret
               refine ⟨ret_bool (vNums_no hlt ?_).symm, HB3.out⟩
               rw [numOK_zero HO.out (by rw [HU.out]; rfl), HX.out]
               rw [Bool.and_eq_false_iff, decide_eq_false_iff_not, decide_eq_false_iff_not]
               omega)
    · have HE := Lib.hid (vNums_end (l := l) (bare := false) (fun j hj => HA.out j (by omega)))
      have hr0 := HR.out.2
      have b5 : (l.kind != 5) = decide (l.kind ≠ 5) := neq_dec _ _
      have b6 : (l.other != l.person) = decide (l.other ≠ l.person) := neq_dec _ _
      cases e5 : decide (l.kind ≠ 5)
      all_goals
        rw [e5] at b5 HE
        have H5 := Lib.hid e5
        clear e5
        go_wp2
        go_ret
        exact ⟨ret_bool (by rw [HE.out]; first | rfl | simp), HB.out⟩

set_option maxRecDepth 10000 in
set_option maxHeartbeats 1000000 in
theorem validNumbers_8f (l : Lt) (A B : Option Addr) (n m c d : Nat) (vc : Value) (w : World) (h8 : l.kind = 8) (hn : n ≤ 140737488355328) (hm : m ≤ 140737488355328) (hz : l.series.zone.size ≤ 140737488355328) (hbare : noSer n m l.series = false) :
    Calls Tryz.prog 48 #[.agg (ltCells l (.slice A n c) (.slice B m d) vc)] w (Gives (.bool (vNums l false)) w) := by
  have b8 : (l.kind == 8) = true := by rw [beq_dec]; exact decide_eq_true h8
  have HBR := Lib.hid hbare
  have H0 := Lib.hid (Row.new w (ltCells l (.slice A n c) (.slice B m d) vc) 57)
  have HB0 := Lib.hid (below_var w (.cells (ltCells l (.slice A n c) (.slice B m d) vc) 57))
  clear h8 hbare
  go_enter Tryz.func48, Tryz.ntmps48
  go_wp2_with (first
    | (go_at_call 50; refine (noSeries_ex _ _ _ _ _ _ _ _ hn hm hz).mono ?_; rintro e wn ⟨rfl, hbn⟩; have HN := Lib.hid (H0.out.keep hbn); have HBN := Lib.hid (below_trans HB0.out hbn); rw [HBR.out]; clear hbn)
    | (go_at_call 30; refine (numbers_any _ _).mono ?_; rintro e w1 ⟨rfl, hb1⟩))
  have H1 := Lib.hid (HN.out.keep hb1)
  have HB1 := Lib.hid (below_trans HBN.out hb1)
  clear HN HBN hb1
  go_loopw [18] (fun i wr => NumsRel l (ltCells l (.slice A n c) (.slice B m d) vc) false w i wr) (fun i _ => 17 - (intOf i).toNat)
  case atStart => exact ⟨0, by omega, rfl, H1.out, HB1.out, fun j hj => absurd hj (by omega)⟩
  case round =>
    obtain ⟨k, hk, rfl, hrow, hbel, hall⟩ := hrel
    have HR := Lib.hid hrow
    have HB := Lib.hid hbel
    have HA := Lib.hid hall
    clear hrow hbel hall
    by_cases hlt : k < 17
    · have hix := fun W => index_nums w.heap.size k hlt W
      cases ho : numOff k with
      | none =>
        have hp : ptrAt w.heap.size k = .pointer none := by unfold ptrAt; rw [ho]
        rw [hp] at hix
        have HO := Lib.hid ho
        clear ho hp
        go_wp2
        go_roundw
        case rel => exact ⟨k + 1, by omega, by go_num, HR.out, HB.out, fun j hj => by
          rcases Nat.lt_succ_iff_lt_or_eq.1 hj with h | h
          · exact HA.out j h
          · subst h; exact numOK_nil HO.out⟩
        case measure => simp [intOf]; omega
      | some o =>
        have hp : ptrAt w.heap.size k = .pointer (some ⟨w.heap.size, o, none⟩) := by unfold ptrAt; rw [ho]; rfl
        rw [hp] at hix
        have hcell := lt_num l (.slice A n c) (.slice B m d) vc k o hlt ho
        have HO := Lib.hid ho
        clear ho hp
        obtain ⟨x, hx⟩ : ∃ x, numF l k = x := ⟨_, rfl⟩
        rw [hx] at hcell
        have HX := Lib.hid hx
        clear hx
        obtain ⟨u, hu⟩ : ∃ u, usesB l.kind k = u := ⟨_, rfl⟩
        have HU := Lib.hid hu
        clear hu
        obtain ⟨lo, hlo⟩ : ∃ x, limLow l.kind k = x := ⟨_, rfl⟩
        obtain ⟨hi, hhi⟩ : ∃ x, limHigh l.kind k = x := ⟨_, rfl⟩
        have HL := Lib.hid hlo
        have HH := Lib.hid hhi
        clear hlo hhi
        have hr0 := HR.out.2
        cases u with
        | true =>
          go_wp2_with (first
            | (go_at_call 67; refine (limits_any _ _ _ (by omega) (by omega)).mono ?_; rintro e w2 ⟨rfl, hb2⟩; have HR2 := Lib.hid (HR.out.keep hb2); have HB2 := Lib.hid (below_trans HB.out hb2); have hr2 := HR2.out.2; rw [HL.out, HH.out]; clear hb2)
            | (go_at_call 31; refine (uses_any _ _ _ (by omega) (by omega)).mono ?_; rintro e w3 ⟨rfl, hb3⟩; have HR3 := Lib.hid (HR2.out.keep hb3); have HB3 := Lib.hid (below_trans HB2.out hb3); have hr3 := HR3.out.2; rw [HU.out]; clear hb3))
          all_goals first
            | (go_roundw
               case rel => exact ⟨k + 1, by omega, by go_num, HR3.out, HB3.out, fun j hj => by
                 rcases Nat.lt_succ_iff_lt_or_eq.1 hj with h | h
                 · exact HA.out j h
                 · subst h; rw [numOK_lim HO.out (by rw [HU.out]; rfl), HX.out, HL.out, HH.out, decide_eq_true (by omega), decide_eq_true (by omega)]; rfl⟩
               case measure => simp [intOf]; omega)
            | (go_ret
               refine ⟨ret_bool (vNums_no hlt ?_).symm, HB3.out⟩
               rw [numOK_lim HO.out (by rw [HU.out]; rfl), HX.out, HL.out, HH.out]
               rw [Bool.and_eq_false_iff, decide_eq_false_iff_not, decide_eq_false_iff_not]
               omega)
        | false =>
          go_wp2_with (first
            | (go_at_call 67; refine (limits_any _ _ _ (by omega) (by omega)).mono ?_; rintro e w2 ⟨rfl, hb2⟩; have HR2 := Lib.hid (HR.out.keep hb2); have HB2 := Lib.hid (below_trans HB.out hb2); have hr2 := HR2.out.2; rw [HL.out, HH.out]; clear hb2)
            | (go_at_call 31; refine (uses_any _ _ _ (by omega) (by omega)).mono ?_; rintro e w3 ⟨rfl, hb3⟩; have HR3 := Lib.hid (HR2.out.keep hb3); have HB3 := Lib.hid (below_trans HB2.out hb3); have hr3 := HR3.out.2; rw [HU.out]; clear hb3))
          all_goals first
            | (go_roundw
               case rel => exact ⟨k + 1, by omega, by go_num, HR3.out, HB3.out, fun j hj => by
                 rcases Nat.lt_succ_iff_lt_or_eq.1 hj with h | h
                 · exact HA.out j h
                 · subst h; rw [numOK_zero HO.out (by rw [HU.out]; rfl), HX.out, decide_eq_true (by omega), decide_eq_true (by omega)]; rfl⟩
               case measure => simp [intOf]; omega)
            | (go_ret
               refine ⟨ret_bool (vNums_no hlt ?_).symm, HB3.out⟩
               rw [numOK_zero HO.out (by rw [HU.out]; rfl), HX.out]
               rw [Bool.and_eq_false_iff, decide_eq_false_iff_not, decide_eq_false_iff_not]
               omega)
    · have HE := Lib.hid (vNums_end (l := l) (bare := false) (fun j hj => HA.out j (by omega)))
      have hr0 := HR.out.2
      have b5 : (l.kind != 5) = decide (l.kind ≠ 5) := neq_dec _ _
      have b6 : (l.other != l.person) = decide (l.other ≠ l.person) := neq_dec _ _
      cases e5 : decide (l.kind ≠ 5)
      all_goals
        rw [e5] at b5 HE
        have H5 := Lib.hid e5
        clear e5
        go_wp2
        go_ret
        exact ⟨ret_bool (by rw [HE.out]; first | rfl | simp), HB.out⟩

set_option maxRecDepth 10000 in
set_option maxHeartbeats 1000000 in
theorem validNumbers_8t (l : Lt) (A B : Option Addr) (n m c d : Nat) (vc : Value) (w : World) (h8 : l.kind = 8) (hn : n ≤ 140737488355328) (hm : m ≤ 140737488355328) (hz : l.series.zone.size ≤ 140737488355328) (hbare : noSer n m l.series = true) :
    Calls Tryz.prog 48 #[.agg (ltCells l (.slice A n c) (.slice B m d) vc)] w (Gives (.bool (vNums l true)) w) := by
  have b8 : (l.kind == 8) = true := by rw [beq_dec]; exact decide_eq_true h8
  have HBR := Lib.hid hbare
  have H0 := Lib.hid (Row.new w (ltCells l (.slice A n c) (.slice B m d) vc) 57)
  have HB0 := Lib.hid (below_var w (.cells (ltCells l (.slice A n c) (.slice B m d) vc) 57))
  clear h8 hbare
  go_enter Tryz.func48, Tryz.ntmps48
  go_wp2_with (first
    | (go_at_call 50; refine (noSeries_ex _ _ _ _ _ _ _ _ hn hm hz).mono ?_; rintro e wn ⟨rfl, hbn⟩; have HN := Lib.hid (H0.out.keep hbn); have HBN := Lib.hid (below_trans HB0.out hbn); rw [HBR.out]; clear hbn)
    | (go_at_call 30; refine (numbers_any _ _).mono ?_; rintro e w1 ⟨rfl, hb1⟩))
  have H1 := Lib.hid (HN.out.keep hb1)
  have HB1 := Lib.hid (below_trans HBN.out hb1)
  clear HN HBN hb1
  go_loopw [18] (fun i wr => NumsRel l (ltCells l (.slice A n c) (.slice B m d) vc) true w i wr) (fun i _ => 17 - (intOf i).toNat)
  case atStart => exact ⟨0, by omega, rfl, H1.out, HB1.out, fun j hj => absurd hj (by omega)⟩
  case round =>
    obtain ⟨k, hk, rfl, hrow, hbel, hall⟩ := hrel
    have HR := Lib.hid hrow
    have HB := Lib.hid hbel
    have HA := Lib.hid hall
    clear hrow hbel hall
    by_cases hlt : k < 17
    · have hix := fun W => index_nums w.heap.size k hlt W
      cases ho : numOff k with
      | none =>
        have hp : ptrAt w.heap.size k = .pointer none := by unfold ptrAt; rw [ho]
        rw [hp] at hix
        have HO := Lib.hid ho
        clear ho hp
        go_wp2
        go_roundw
        case rel => exact ⟨k + 1, by omega, by go_num, HR.out, HB.out, fun j hj => by
          rcases Nat.lt_succ_iff_lt_or_eq.1 hj with h | h
          · exact HA.out j h
          · subst h; exact numOK_nil HO.out⟩
        case measure => simp [intOf]; omega
      | some o =>
        have hp : ptrAt w.heap.size k = .pointer (some ⟨w.heap.size, o, none⟩) := by unfold ptrAt; rw [ho]; rfl
        rw [hp] at hix
        have hcell := lt_num l (.slice A n c) (.slice B m d) vc k o hlt ho
        have HO := Lib.hid ho
        clear ho hp
        obtain ⟨x, hx⟩ : ∃ x, numF l k = x := ⟨_, rfl⟩
        rw [hx] at hcell
        have HX := Lib.hid hx
        clear hx
        obtain ⟨u, hu⟩ : ∃ u, usesB l.kind k = u := ⟨_, rfl⟩
        have HU := Lib.hid hu
        clear hu
        obtain ⟨lo, hlo⟩ : ∃ x, limLow l.kind k = x := ⟨_, rfl⟩
        obtain ⟨hi, hhi⟩ : ∃ x, limHigh l.kind k = x := ⟨_, rfl⟩
        have HL := Lib.hid hlo
        have HH := Lib.hid hhi
        clear hlo hhi
        have hr0 := HR.out.2
        cases u with
        | true =>
          by_cases hsp : k = 4 ∨ k = 5 ∨ k = 6 ∨ k = 12
          · rcases hsp with rfl | rfl | rfl | rfl
            · have hix' : ∀ W, (Instr.index 88 (.agg (numPtrs w.heap.size)) (.int .i64 4)).run Tryz.prog W = .ok (.pointer (some ⟨w.heap.size, o, none⟩)) W := hix
              go_wp2_with (first
                | (go_at_call 67; refine (limits_any _ _ _ (by omega) (by omega)).mono ?_; rintro e w2 ⟨rfl, hb2⟩; have HR2 := Lib.hid (HR.out.keep hb2); have HB2 := Lib.hid (below_trans HB.out hb2); have hr2 := HR2.out.2; clear hb2)
                | (go_at_call 31; refine (uses_any _ _ _ (by omega) (by omega)).mono ?_; rintro e w3 ⟨rfl, hb3⟩; have HR3 := Lib.hid (HR2.out.keep hb3); have HB3 := Lib.hid (below_trans HB2.out hb3); have hr3 := HR3.out.2; rw [show usesB l.kind 4 = true from HU.out]; clear hb3))
              all_goals first
                | (go_ret
                   refine ⟨ret_bool (vNums_no hlt ?_).symm, HB3.out⟩
                   rw [numOK_zero HO.out (by rw [HU.out]; rfl), HX.out]
                   rw [Bool.and_eq_false_iff, decide_eq_false_iff_not, decide_eq_false_iff_not]
                   omega)
                | (go_roundw
                   case rel => exact ⟨5, by omega, by first | rfl | go_num, HR3.out, HB3.out, fun j hj => by
                     rcases Nat.lt_succ_iff_lt_or_eq.1 hj with h | h
                     · exact HA.out j h
                     · subst h; rw [numOK_zero HO.out (by rw [HU.out]; rfl), HX.out, decide_eq_true (by omega), decide_eq_true (by omega)]; rfl⟩
                   case measure => simp [intOf])
            · have hix' : ∀ W, (Instr.index 88 (.agg (numPtrs w.heap.size)) (.int .i64 5)).run Tryz.prog W = .ok (.pointer (some ⟨w.heap.size, o, none⟩)) W := hix
              go_wp2_with (first
                | (go_at_call 67; refine (limits_any _ _ _ (by omega) (by omega)).mono ?_; rintro e w2 ⟨rfl, hb2⟩; have HR2 := Lib.hid (HR.out.keep hb2); have HB2 := Lib.hid (below_trans HB.out hb2); have hr2 := HR2.out.2; clear hb2)
                | (go_at_call 31; refine (uses_any _ _ _ (by omega) (by omega)).mono ?_; rintro e w3 ⟨rfl, hb3⟩; have HR3 := Lib.hid (HR2.out.keep hb3); have HB3 := Lib.hid (below_trans HB2.out hb3); have hr3 := HR3.out.2; rw [show usesB l.kind 5 = true from HU.out]; clear hb3))
              all_goals first
                | (go_ret
                   refine ⟨ret_bool (vNums_no hlt ?_).symm, HB3.out⟩
                   rw [numOK_zero HO.out (by rw [HU.out]; rfl), HX.out]
                   rw [Bool.and_eq_false_iff, decide_eq_false_iff_not, decide_eq_false_iff_not]
                   omega)
                | (go_roundw
                   case rel => exact ⟨6, by omega, by first | rfl | go_num, HR3.out, HB3.out, fun j hj => by
                     rcases Nat.lt_succ_iff_lt_or_eq.1 hj with h | h
                     · exact HA.out j h
                     · subst h; rw [numOK_zero HO.out (by rw [HU.out]; rfl), HX.out, decide_eq_true (by omega), decide_eq_true (by omega)]; rfl⟩
                   case measure => simp [intOf])
            · have hix' : ∀ W, (Instr.index 88 (.agg (numPtrs w.heap.size)) (.int .i64 6)).run Tryz.prog W = .ok (.pointer (some ⟨w.heap.size, o, none⟩)) W := hix
              go_wp2_with (first
                | (go_at_call 67; refine (limits_any _ _ _ (by omega) (by omega)).mono ?_; rintro e w2 ⟨rfl, hb2⟩; have HR2 := Lib.hid (HR.out.keep hb2); have HB2 := Lib.hid (below_trans HB.out hb2); have hr2 := HR2.out.2; clear hb2)
                | (go_at_call 31; refine (uses_any _ _ _ (by omega) (by omega)).mono ?_; rintro e w3 ⟨rfl, hb3⟩; have HR3 := Lib.hid (HR2.out.keep hb3); have HB3 := Lib.hid (below_trans HB2.out hb3); have hr3 := HR3.out.2; rw [show usesB l.kind 6 = true from HU.out]; clear hb3))
              all_goals first
                | (go_ret
                   refine ⟨ret_bool (vNums_no hlt ?_).symm, HB3.out⟩
                   rw [numOK_zero HO.out (by rw [HU.out]; rfl), HX.out]
                   rw [Bool.and_eq_false_iff, decide_eq_false_iff_not, decide_eq_false_iff_not]
                   omega)
                | (go_roundw
                   case rel => exact ⟨7, by omega, by first | rfl | go_num, HR3.out, HB3.out, fun j hj => by
                     rcases Nat.lt_succ_iff_lt_or_eq.1 hj with h | h
                     · exact HA.out j h
                     · subst h; rw [numOK_zero HO.out (by rw [HU.out]; rfl), HX.out, decide_eq_true (by omega), decide_eq_true (by omega)]; rfl⟩
                   case measure => simp [intOf])
            · have hix' : ∀ W, (Instr.index 88 (.agg (numPtrs w.heap.size)) (.int .i64 12)).run Tryz.prog W = .ok (.pointer (some ⟨w.heap.size, o, none⟩)) W := hix
              go_wp2_with (first
                | (go_at_call 67; refine (limits_any _ _ _ (by omega) (by omega)).mono ?_; rintro e w2 ⟨rfl, hb2⟩; have HR2 := Lib.hid (HR.out.keep hb2); have HB2 := Lib.hid (below_trans HB.out hb2); have hr2 := HR2.out.2; clear hb2)
                | (go_at_call 31; refine (uses_any _ _ _ (by omega) (by omega)).mono ?_; rintro e w3 ⟨rfl, hb3⟩; have HR3 := Lib.hid (HR2.out.keep hb3); have HB3 := Lib.hid (below_trans HB2.out hb3); have hr3 := HR3.out.2; rw [show usesB l.kind 12 = true from HU.out]; clear hb3))
              all_goals first
                | (go_ret
                   refine ⟨ret_bool (vNums_no hlt ?_).symm, HB3.out⟩
                   rw [numOK_zero HO.out (by rw [HU.out]; rfl), HX.out]
                   rw [Bool.and_eq_false_iff, decide_eq_false_iff_not, decide_eq_false_iff_not]
                   omega)
                | (go_roundw
                   case rel => exact ⟨13, by omega, by first | rfl | go_num, HR3.out, HB3.out, fun j hj => by
                     rcases Nat.lt_succ_iff_lt_or_eq.1 hj with h | h
                     · exact HA.out j h
                     · subst h; rw [numOK_zero HO.out (by rw [HU.out]; rfl), HX.out, decide_eq_true (by omega), decide_eq_true (by omega)]; rfl⟩
                   case measure => simp [intOf])
          have e4 : ((k : Int) == 4) = false := by rw [beq_dec]; exact decide_eq_false (by omega)
          have e5 : ((k : Int) == 5) = false := by rw [beq_dec]; exact decide_eq_false (by omega)
          have e6 : ((k : Int) == 6) = false := by rw [beq_dec]; exact decide_eq_false (by omega)
          have e12 : ((k : Int) == 12) = false := by rw [beq_dec]; exact decide_eq_false (by omega)
          have hspB : specialB k = false := by simp [specialB]; omega
          have HSP := Lib.hid hspB
          clear hspB
          go_wp2_with (first
            | (go_at_call 67; refine (limits_any _ _ _ (by omega) (by omega)).mono ?_; rintro e w2 ⟨rfl, hb2⟩; have HR2 := Lib.hid (HR.out.keep hb2); have HB2 := Lib.hid (below_trans HB.out hb2); have hr2 := HR2.out.2; rw [HL.out, HH.out]; clear hb2)
            | (go_at_call 31; refine (uses_any _ _ _ (by omega) (by omega)).mono ?_; rintro e w3 ⟨rfl, hb3⟩; have HR3 := Lib.hid (HR2.out.keep hb3); have HB3 := Lib.hid (below_trans HB2.out hb3); have hr3 := HR3.out.2; rw [HU.out]; clear hb3))
          all_goals first
            | (go_roundw
               case rel => exact ⟨k + 1, by omega, by go_num, HR3.out, HB3.out, fun j hj => by
                 rcases Nat.lt_succ_iff_lt_or_eq.1 hj with h | h
                 · exact HA.out j h
                 · subst h; rw [numOK_lim HO.out (by rw [HU.out, HSP.out]; rfl), HX.out, HL.out, HH.out, decide_eq_true (by omega), decide_eq_true (by omega)]; rfl⟩
               case measure => simp [intOf]; omega)
            | (go_ret
               refine ⟨ret_bool (vNums_no hlt ?_).symm, HB3.out⟩
               rw [numOK_lim HO.out (by rw [HU.out, HSP.out]; rfl), HX.out, HL.out, HH.out]
               rw [Bool.and_eq_false_iff, decide_eq_false_iff_not, decide_eq_false_iff_not]
               omega)
        | false =>
          go_wp2_with (first
            | (go_at_call 67; refine (limits_any _ _ _ (by omega) (by omega)).mono ?_; rintro e w2 ⟨rfl, hb2⟩; have HR2 := Lib.hid (HR.out.keep hb2); have HB2 := Lib.hid (below_trans HB.out hb2); have hr2 := HR2.out.2; rw [HL.out, HH.out]; clear hb2)
            | (go_at_call 31; refine (uses_any _ _ _ (by omega) (by omega)).mono ?_; rintro e w3 ⟨rfl, hb3⟩; have HR3 := Lib.hid (HR2.out.keep hb3); have HB3 := Lib.hid (below_trans HB2.out hb3); have hr3 := HR3.out.2; rw [HU.out]; clear hb3))
          all_goals first
            | (go_roundw
               case rel => exact ⟨k + 1, by omega, by go_num, HR3.out, HB3.out, fun j hj => by
                 rcases Nat.lt_succ_iff_lt_or_eq.1 hj with h | h
                 · exact HA.out j h
                 · subst h; rw [numOK_zero HO.out (by rw [HU.out]; rfl), HX.out, decide_eq_true (by omega), decide_eq_true (by omega)]; rfl⟩
               case measure => simp [intOf]; omega)
            | (go_ret
               refine ⟨ret_bool (vNums_no hlt ?_).symm, HB3.out⟩
               rw [numOK_zero HO.out (by rw [HU.out]; rfl), HX.out]
               rw [Bool.and_eq_false_iff, decide_eq_false_iff_not, decide_eq_false_iff_not]
               omega)
    · have HE := Lib.hid (vNums_end (l := l) (bare := true) (fun j hj => HA.out j (by omega)))
      have hr0 := HR.out.2
      have b5 : (l.kind != 5) = decide (l.kind ≠ 5) := neq_dec _ _
      have b6 : (l.other != l.person) = decide (l.other ≠ l.person) := neq_dec _ _
      cases e5 : decide (l.kind ≠ 5)
      all_goals
        rw [e5] at b5 HE
        have H5 := Lib.hid e5
        clear e5
        go_wp2
        go_ret
        exact ⟨ret_bool (by rw [HE.out]; first | rfl | simp), HB.out⟩

theorem validNumbers_any (l : Lt) (A B : Option Addr) (n m c d : Nat) (vc : Value) (w : World) (hn : n ≤ 140737488355328) (hm : m ≤ 140737488355328) (hz : l.series.zone.size ≤ 140737488355328) :
    Calls Tryz.prog 48 #[.agg (ltCells l (.slice A n c) (.slice B m d) vc)] w (Gives (.bool (vNums l (bareB l.kind n m l.series))) w) := by
  by_cases h8 : l.kind = 8
  · have e : bareB l.kind n m l.series = noSer n m l.series := by unfold bareB; rw [decide_eq_true h8]; rfl
    rw [e]
    cases hb : noSer n m l.series with
    | true => exact validNumbers_8t l A B n m c d vc w h8 hn hm hz hb
    | false => exact validNumbers_8f l A B n m c d vc w h8 hn hm hz hb
  · exact validNumbers_not8 l _ _ _ n m w h8
end Go.Proofs.YtoljoigbepdeiaaGreatDoor

/- '==' between whole values: moves, spans. -/
namespace Go.Proofs.YtoljoigbepdeiaaGreatDoor
open Go Go.RowKit

theorem eql_move (d t n l d' t' n' l' : Int) (b b' : Bool) (W : World) :
    (binOp .eql 48 (.agg #[I d, .bool b, I t, I n, I l]) (.agg #[I d', .bool b', I t', I n', I l'])).run Tryz.prog W =
      .ok (.bool (decide (d = d') && (b == b') && decide (t = t') && decide (n = n') && decide (l = l'))) W := by
  by_cases h1 : d = d' <;> by_cases h2 : b = b' <;> by_cases h3 : t = t' <;> by_cases h4 : n = n' <;> by_cases h5 : l = l'
  all_goals simp [go_sem, h1, h2, h3, h4, h5]
theorem eql_span (a b a' b' : Int) (W : World) :
    (binOp .eql 55 (.agg #[I a, I b]) (.agg #[I a', I b'])).run Tryz.prog W = .ok (.bool (decide (a = a') && decide (b = b'))) W := by
  by_cases h1 : a = a' <;> by_cases h2 : b = b'
  all_goals simp [go_sem, h1, h2]
end Go.Proofs.YtoljoigbepdeiaaGreatDoor

/- letter.validChange. -/
namespace Go.Proofs.YtoljoigbepdeiaaGreatDoor
open Go Go.RowKit

def mvZ (m : Mv) : Bool := decide (m.day = 0) && (m.drop == false) && decide (m.toDay = 0) && decide (m.minute = 0) && decide (m.length = 0)
def vChange (l : Lt) (nz : Bool) : Bool :=
  if l.scope = 1 then vMove l.move && decide (l.move.day = l.day) && nz else if l.scope = 3 then mvZ l.move && decide (l.day = 0) else mvZ l.move
theorem validMove_ex (m : Mv) (w : World) : Calls Tryz.prog 68 #[.agg #[I m.day, .bool m.drop, I m.toDay, I m.minute, I m.length]] w (Gives (.bool (vMove m)) w) := validMove_any m w

attribute [local go_sem] lt_get10 lt_get11 lt_get12 lt_get13 lt_get14 lt_get15 lt_get16 lt_get17 lt_get18 lt_get19 lt_get20 lt_get21 lt_get22 lt_get23
set_option maxRecDepth 10000 in
set_option maxHeartbeats 1000000 in
theorem validChange_any (l : Lt) (A B : Option Addr) (n m c d : Nat) (vc : Value) (w : World) (hn : n ≤ 140737488355328) (hm : m ≤ 140737488355328) (hz : l.series.zone.size ≤ 140737488355328) :
    Calls Tryz.prog 69 #[.agg (ltCells l (.slice A n c) (.slice B m d) vc)] w (Gives (.bool (vChange l (noSer n m l.series))) w) := by
  have heqm := fun W => eql_move l.move.day l.move.toDay l.move.minute l.move.length 0 0 0 0 l.move.drop false W
  obtain ⟨mz, hmz⟩ : ∃ x, mvZ l.move = x := ⟨_, rfl⟩
  rw [show (decide (l.move.day = 0) && (l.move.drop == false) && decide (l.move.toDay = 0) && decide (l.move.minute = 0) && decide (l.move.length = 0)) = mz from hmz] at heqm
  obtain ⟨vm', hvm⟩ : ∃ x, vMove l.move = x := ⟨_, rfl⟩
  obtain ⟨nz, hnz⟩ : ∃ x, noSer n m l.series = x := ⟨_, rfl⟩
  have HM := Lib.hid hmz
  have HV := Lib.hid hvm
  have HN := Lib.hid hnz
  clear hmz hvm hnz
  have H0 := Lib.hid (Row.new w (ltCells l (.slice A n c) (.slice B m d) vc) 57)
  have HB0 := Lib.hid (below_var w (.cells (ltCells l (.slice A n c) (.slice B m d) vc) 57))
  by_cases h1 : l.scope = 1
  · have b1 : (l.scope == 1) = true := by rw [beq_dec]; exact decide_eq_true h1
    have bd : (l.move.day == l.day) = decide (l.move.day = l.day) := beq_dec _ _
    have HE : Hid (vChange l (noSer n m l.series) = (vm' && decide (l.move.day = l.day) && nz)) := by unfold vChange; rw [if_pos h1, HV.out, HN.out]; exact rfl
    rw [HE.out]
    clear h1 heqm HE
    cases vm' <;> cases hd : decide (l.move.day = l.day)
    all_goals
      rw [hd] at bd
      clear hd
      go_enter Tryz.func69, Tryz.ntmps69
      go_wp2_with (first
        | (go_at_call 68; refine (validMove_ex _ _).mono ?_; rintro e w1 ⟨rfl, hb1⟩; have H1 := Lib.hid (H0.out.keep hb1); have HB1 := Lib.hid (below_trans HB0.out hb1); have hr1 := H1.out.2; rw [HV.out]; clear hb1)
        | (go_at_call 50; refine (noSeries_ex _ _ _ _ _ _ _ _ hn hm hz).mono ?_; rintro e w2 ⟨rfl, hb2⟩; have HB2 := Lib.hid (below_trans HB1.out hb2); rw [HN.out]; clear hb2))
      go_ret
      first | exact ⟨rfl, HB2.out⟩ | exact ⟨rfl, HB1.out⟩
  · have b1 : (l.scope == 1) = false := by rw [beq_dec]; exact decide_eq_false h1
    by_cases h3 : l.scope = 3
    · have b3 : (l.scope == 3) = true := by rw [beq_dec]; exact decide_eq_true h3
      have bd : (l.day == 0) = decide (l.day = 0) := beq_dec _ _
      have HE : Hid (vChange l (noSer n m l.series) = (mz && decide (l.day = 0))) := by unfold vChange; rw [if_neg h1, if_pos h3, HM.out]; exact rfl
      rw [HE.out]
      clear h1 h3 HE
      cases mz
      all_goals
        go_enter Tryz.func69, Tryz.ntmps69
        go_wp2
        go_ret
        refine ⟨ret_bool ?_, HB0.out⟩
        first | rfl | (rw [Bool.true_and]; rfl) | simp
    · have b3 : (l.scope == 3) = false := by rw [beq_dec]; exact decide_eq_false h3
      have HE : Hid (vChange l (noSer n m l.series) = mz) := by unfold vChange; rw [if_neg h1, if_neg h3, HM.out]; exact rfl
      rw [HE.out]
      clear h1 h3 HE
      go_enter Tryz.func69, Tryz.ntmps69
      go_wp2
      go_ret
      exact ⟨rfl, HB0.out⟩
end Go.Proofs.YtoljoigbepdeiaaGreatDoor

/- letter.Valid: the code that it returns. -/
namespace Go.Proofs.YtoljoigbepdeiaaGreatDoor
open Go Go.RowKit

def srvIn (n : Int) : Bool := decide (0 ≤ n ∧ n < 16)
set_option maxRecDepth 10000 in
set_option maxHeartbeats 400000 in
theorem server_any (n : Int) (w : World) :
    Calls Tryz.prog 47 #[I n] w fun e w' => e = .returned (.bool (srvIn n)) ∧ w = w' := by
  by_cases h1 : 0 ≤ n
  all_goals
    go_enter Tryz.func47, Tryz.ntmps47
    go_wp2
    go_ret
    refine ⟨ret_bool ?_, rfl⟩
    unfold srvIn
    first | exact (decide_eq_false (by omega)).symm | (rw [Bool.eq_iff_iff]; simp only [decide_eq_true_eq]; omega)
section
variable {P : Program} {ops : Array Oper} {Q : Exit → Act → World → Prop} {a : Act} {w : World} {rest : List Oper} {o : Oper}
/-- A whole struct loaded out of its variable, under a guard that is met. -/
theorem wpList_load_Row (hw : Region.wanted o (yielded ops a.tmps) = true) (ty : TypeId) (x : Operand) (ho : o.op = .load ty x) (g : Nat) (hx : a.eval x = .pointer (some ⟨g, 0, none⟩)) (cs : Array Value) (hr : Row w g cs)
    (d : TypeDesc) (hu : P.underlying ty = some d) (hd : d.isRow = true) (hi : (P.info? ty).map (·.size) = some cs.size)
    (h : wpList P ops Q rest (a.put o.dst (.agg cs)) w) : wpList P ops Q (o :: rest) a w := by
  unfold wpList
  rw [if_pos hw]
  have hc : w.rangeAt g 0 cs.toList := fun j v hv => by rw [Nat.zero_add, hr.2 j]; simpa using hv
  refine .inl (wp_load_mid ty x ho g 0 hx cs.toList d hc hu hd (by rw [hi]; simp) ?_)
  simpa using h
end
end Go.Proofs.YtoljoigbepdeiaaGreatDoor
