/- letter.newReader and its two closures. -/
import Derived.Test.YthhbbebabmemfaaGreatBytesEq
import Derived.Test.YthhbbebabmemfaaGreatWriters
import Derived.BigQuiet
import Derived.Deep.AppendLies
import Derived.Deep.CutBlock
import Derived.Deep.DeepCutAuto
import Derived.Deep.DrawnRows
import Derived.Deep.MidRow
import Derived.Deep.QuietTactic
import Derived.Deep.RegionHeld3
import Derived.Deep.RegionLaw
import Derived.Deep.WholeRow
import Derived.Great.BuildSlice
import Derived.Laws.BytesString
import Derived.Laws.CopyOwn
import Derived.Laws.EntriesVeiled
import Derived.Laws.MakeOwn
import Derived.Laws.ResultCell
import Derived.Laws.Rows
import Derived.Laws.Tables
import Derived.Lib.Hide
import Derived.LoopIn
import Derived.LoopNIn
import Derived.Maps.AppendAt
import Derived.Outline
import Derived.OwnWalkIn
import Derived.RangeFuncBound
import Derived.RangeFuncBox
import Derived.RangeFuncCalls
import Derived.RangeFuncLeaves
import Derived.RangeFuncNested
import Derived.Shelf.Abstract
import Derived.Shelf.Bytes.SlSmallAll
import Derived.Shelf.RegionOpen
import Derived.StillTailTactics
import Derived.Stop.BytesEq
import Derived.TacticsInMore
import Derived.WalkKit
import Derived.WalkLawsBesides
import Derived.WalkSpells
namespace Go.Proofs.YthhbbebabmemfaaGreat
open Go Go.RowKit

def takeFn (N : Nat) : Value := .func (.func 44) #[] #[pt (N + 2), pt N]
def doneFn (N : Nat) : Value := .func (.func 45) #[] #[pt (N + 2), pt N]
/-- The reader's three blocks: the bytes that are left, the reader, the variable r. -/
structure RBlk (w : World) (N b : Nat) (A : Option Addr) (n c : Nat) (bad : Bool) : Prop where
  rest : w.heap[N]? = some (.cells #[.slice A n c] 22 (0, 0))
  rd : w.heap[N + 1]? = some (.cells #[pt b, takeFn N, .bool bad] 86 (0, 0))
  var : w.heap[N + 2]? = some (.cells #[pt (N + 1)] 51 (0, 0))

theorem heap3 (w : World) (o0 o1 o2 : Obj) : (((w.alloc o0).alloc o1).alloc o2).heap[w.heap.size]? = some o0 ∧ (((w.alloc o0).alloc o1).alloc o2).heap[w.heap.size + 1]? = some o1 ∧ (((w.alloc o0).alloc o1).alloc o2).heap[w.heap.size + 2]? = some o2 := by
  refine ⟨?_, ?_, ?_⟩
  · rw [Below.heap_alloc _ o2 _ (by simp; omega), Below.heap_alloc _ o1 _ (by simp), heap_alloc_last]
  · rw [Below.heap_alloc _ o2 _ (by simp)]
    have := heap_alloc_last (w.alloc o0) o1
    simpa using this
  · have := heap_alloc_last ((w.alloc o0).alloc o1) o2
    simpa using this
/-- Only the reader's first two blocks have changed. -/
structure RKeep (N : Nat) (w w' : World) : Prop where
  os : w'.os = w.os
  tape : w'.tape = w.tape
  output : w'.output = w.output
  size : w.heap.size ≤ w'.heap.size
  block : ∀ k, k < w.heap.size → k ≠ N → k ≠ N + 1 → w'.heap[k]? = w.heap[k]?
theorem RKeep.refl (N : Nat) (w : World) : RKeep N w w := ⟨rfl, rfl, rfl, Nat.le_refl _, fun _ _ _ _ => rfl⟩
theorem RKeep.trans {N : Nat} {w w1 w2 : World} (h : RKeep N w w1) (k : RKeep N w1 w2) : RKeep N w w2 :=
  ⟨k.os.trans h.os, k.tape.trans h.tape, k.output.trans h.output, Nat.le_trans h.size k.size, fun b hb h1 h2 => (k.block b (Nat.lt_of_lt_of_le hb h.size) h1 h2).trans (h.block b hb h1 h2)⟩
theorem RKeep.set {N : Nat} {w w1 : World} (h : RKeep N w w1) {p : Addr} (hp : p.block = N ∨ p.block = N + 1) (u : Value) : RKeep N w (w1.setCell p u) :=
  ⟨h.os, h.tape, h.output, by simpa [World.setCell] using h.size, fun b hb h1 h2 => (heap_setCell_other w1 p b u (by rcases hp with e | e <;> omega)).trans (h.block b hb h1 h2)⟩
theorem RKeep.draw {N : Nat} {w w1 : World} (h : RKeep N w w1) : RKeep N w w1.drew := ⟨h.os, h.tape, h.output, h.size, h.block⟩

set_option maxRecDepth 10000 in
set_option maxHeartbeats 1000000 in
theorem newReader_any (b : Nat) (A : Option Addr) (n c : Nat) (w : World) :
    Calls Tryz.prog 14 #[pt b, .slice A n c] w fun e w' => e = .returned (.tuple #[pt (w.heap.size + 1), doneFn w.heap.size]) ∧ RBlk w' w.heap.size b A n c false ∧ w.heap.size + 3 ≤ w'.heap.size ∧ Below w.heap.size w w' := by
  go_enter Tryz.func14, Tryz.ntmps14
  go_wp2
  go_ret2
  obtain ⟨h0, h1, h2⟩ := heap3 w (.cells #[.slice A n c] 22) (.cells #[pt b, takeFn w.heap.size, .bool false] 86) (.cells #[pt (w.heap.size + 1)] 51)
  exact ⟨rfl, ⟨h0, h1, h2⟩, by simp, (((Below.refl _ _).alloc (Nat.le_refl _) _).alloc (by simp) _).alloc (by simp; omega) _⟩

theorem RBlk.setBad {w : World} {N b : Nat} {A : Option Addr} {n c : Nat} {bad : Bool} (h : RBlk w N b A n c bad) (x : Bool) : RBlk (w.setCell ⟨N + 1, 2, none⟩ (.bool x)) N b A n c x :=
  ⟨(heap_setCell_other w _ N _ (by simp)).trans h.rest, by rw [heap_setCell_same w (N + 1) 2 _ _ _ h.rd]; rfl, (heap_setCell_other w _ (N + 2) _ (by simp)).trans h.var⟩
theorem RBlk.setRest {w : World} {N b : Nat} {A A' : Option Addr} {n c n' c' : Nat} {bad : Bool} (h : RBlk w N b A n c bad) : RBlk (w.setCell ⟨N, 0, none⟩ (.slice A' n' c')) N b A' n' c' bad :=
  ⟨by rw [heap_setCell_same w N 0 _ _ _ h.rest]; rfl, (heap_setCell_other w _ (N + 1) _ (by simp)).trans h.rd, (heap_setCell_other w _ (N + 2) _ (by simp)).trans h.var⟩
theorem RBlk.draw {w : World} {N b : Nat} {A : Option Addr} {n c : Nat} {bad : Bool} (h : RBlk w N b A n c bad) : RBlk w.drew N b A n c bad := ⟨h.rest, h.rd, h.var⟩

def takeGot (N : Nat) (w : World) (v : Value) (P : World → Prop) (e : Ending) (w' : World) : Prop := e = .returned v ∧ P w' ∧ RKeep N w w'
set_option maxRecDepth 10000 in
set_option maxHeartbeats 1000000 in
theorem take_bad (w : World) (N b : Nat) (A : Option Addr) (n c : Nat) (size : Int) (hr : RBlk w N b A n c true) :
    Calls Tryz.prog 44 #[I size, pt (N + 2), pt N] w (takeGot N w (.slice none 0 0) fun w' => RBlk w' N b A n c true) := by
  have c0 : w.cell? ⟨N, 0, none⟩ = some (.slice A n c) := cell_of_row w N 0 _ _ _ hr.rest
  have c1 : w.cell? ⟨N + 1, 2, none⟩ = some (.bool true) := cell_of_row w (N + 1) 2 _ _ _ hr.rd
  have f1 := frozen_of_row w (N + 1) 2 _ _ hr.rd
  have c2 : w.cell? ⟨N + 2, 0, none⟩ = some (pt (N + 1)) := cell_of_row w (N + 2) 0 _ _ _ hr.var
  have HR := Lib.hid hr
  clear hr
  go_enter Tryz.func44, Tryz.ntmps44
  go_wp2
  go_still_tail 13, (by kernel_rfl)
  go_wp2
  go_ret
  exact ⟨rfl, (HR.out.setBad true).draw, ((RKeep.refl N w).set (p := ⟨N + 1, 2, none⟩) (.inr rfl) _).draw⟩
set_option maxRecDepth 10000 in
set_option maxHeartbeats 1000000 in
theorem take_short (w : World) (N b : Nat) (A : Option Addr) (n c : Nat) (size : Int) (hr : RBlk w N b A n c false) (hs : (n : Int) < size) :
    Calls Tryz.prog 44 #[I size, pt (N + 2), pt N] w (takeGot N w (.slice none 0 0) fun w' => RBlk w' N b A n c true) := by
  have c0 : w.cell? ⟨N, 0, none⟩ = some (.slice A n c) := cell_of_row w N 0 _ _ _ hr.rest
  have c1 : w.cell? ⟨N + 1, 2, none⟩ = some (.bool false) := cell_of_row w (N + 1) 2 _ _ _ hr.rd
  have f1 := frozen_of_row w (N + 1) 2 _ _ hr.rd
  have c2 : w.cell? ⟨N + 2, 0, none⟩ = some (pt (N + 1)) := cell_of_row w (N + 2) 0 _ _ _ hr.var
  have hd : decide ((n : Int) < size) = true := decide_eq_true hs
  have HR := Lib.hid hr
  clear hr
  go_enter Tryz.func44, Tryz.ntmps44
  go_wp2
  go_still_tail 13, (by kernel_rfl)
  go_wp2
  go_ret
  exact ⟨rfl, (HR.out.setBad true).draw, ((RKeep.refl N w).set (p := ⟨N + 1, 2, none⟩) (.inr rfl) _).draw⟩
set_option maxRecDepth 10000 in
set_option maxHeartbeats 1000000 in
theorem take_ok (w : World) (N b bb off n c size : Nat) (hr : RBlk w N b (some ⟨bb, off, none⟩) n c false) (hs : size ≤ n) (hn : n ≤ c) (_hc : c ≤ 140737488355328) (hne : c ≠ size) :
    Calls Tryz.prog 44 #[I size, pt (N + 2), pt N] w (takeGot N w (.slice (some ⟨bb, off, none⟩) size c) fun w' => RBlk w' N b (some ⟨bb, off + size, none⟩) (n - size) (c - size) false) := by
  have c0 : w.cell? ⟨N, 0, none⟩ = some (.slice (some ⟨bb, off, none⟩) n c) := cell_of_row w N 0 _ _ _ hr.rest
  have f0 := frozen_of_row w N 0 _ _ hr.rest
  have c1 : w.cell? ⟨N + 1, 2, none⟩ = some (.bool false) := cell_of_row w (N + 1) 2 _ _ _ hr.rd
  have f1 := frozen_of_row w (N + 1) 2 _ _ hr.rd
  have c2 : w.cell? ⟨N + 2, 0, none⟩ = some (pt (N + 1)) := cell_of_row w (N + 2) 0 _ _ _ hr.var
  have hd : decide ((n : Int) < (size : Int)) = false := decide_eq_false (by omega)
  have HR := Lib.hid hr
  clear hr
  go_enter Tryz.func44, Tryz.ntmps44
  go_wp2
  go_still_tail 13, (by kernel_rfl)
  go_wp2
  go_ret
  exact ⟨rfl, ((HR.out.setBad false).setRest).draw, (((RKeep.refl N w).set (p := ⟨N + 1, 2, none⟩) (.inr rfl) _).set (p := ⟨N, 0, none⟩) (.inl rfl) _).draw⟩
set_option maxRecDepth 10000 in
set_option maxHeartbeats 1000000 in
theorem take_all (w : World) (N b bb off size : Nat) (hr : RBlk w N b (some ⟨bb, off, none⟩) size size false) (_hc : size ≤ 140737488355328) :
    Calls Tryz.prog 44 #[I size, pt (N + 2), pt N] w (takeGot N w (.slice (some ⟨bb, off, none⟩) size size) fun w' => RBlk w' N b (some ⟨bb, off, none⟩) 0 0 false) := by
  have c0 : w.cell? ⟨N, 0, none⟩ = some (.slice (some ⟨bb, off, none⟩) size size) := cell_of_row w N 0 _ _ _ hr.rest
  have f0 := frozen_of_row w N 0 _ _ hr.rest
  have c1 : w.cell? ⟨N + 1, 2, none⟩ = some (.bool false) := cell_of_row w (N + 1) 2 _ _ _ hr.rd
  have f1 := frozen_of_row w (N + 1) 2 _ _ hr.rd
  have c2 : w.cell? ⟨N + 2, 0, none⟩ = some (pt (N + 1)) := cell_of_row w (N + 2) 0 _ _ _ hr.var
  have hd : decide ((size : Int) < (size : Int)) = false := decide_eq_false (by omega)
  have HR := Lib.hid hr
  clear hr
  go_enter Tryz.func44, Tryz.ntmps44
  go_wp2
  go_still_tail 13, (by kernel_rfl)
  go_wp2
  go_ret
  exact ⟨rfl, ((HR.out.setBad false).setRest).draw, (((RKeep.refl N w).set (p := ⟨N + 1, 2, none⟩) (.inr rfl) _).set (p := ⟨N, 0, none⟩) (.inl rfl) _).draw⟩
set_option maxRecDepth 10000 in
set_option maxHeartbeats 1000000 in
theorem take_nil (w : World) (N b : Nat) (hr : RBlk w N b none 0 0 false) :
    Calls Tryz.prog 44 #[I 0, pt (N + 2), pt N] w (takeGot N w (.slice none 0 0) fun w' => RBlk w' N b none 0 0 false) := by
  have c0 : w.cell? ⟨N, 0, none⟩ = some (.slice none 0 0) := cell_of_row w N 0 _ _ _ hr.rest
  have f0 := frozen_of_row w N 0 _ _ hr.rest
  have c1 : w.cell? ⟨N + 1, 2, none⟩ = some (.bool false) := cell_of_row w (N + 1) 2 _ _ _ hr.rd
  have f1 := frozen_of_row w (N + 1) 2 _ _ hr.rd
  have c2 : w.cell? ⟨N + 2, 0, none⟩ = some (pt (N + 1)) := cell_of_row w (N + 2) 0 _ _ _ hr.var
  have HR := Lib.hid hr
  clear hr
  go_enter Tryz.func44, Tryz.ntmps44
  go_wp2
  go_still_tail 13, (by kernel_rfl)
  go_wp2
  go_ret
  exact ⟨rfl, ((HR.out.setBad false).setRest).draw, (((RKeep.refl N w).set (p := ⟨N + 1, 2, none⟩) (.inr rfl) _).set (p := ⟨N, 0, none⟩) (.inl rfl) _).draw⟩
set_option maxRecDepth 10000 in
set_option maxHeartbeats 1000000 in
theorem take_zero (w : World) (N b : Nat) (a : Addr) (c : Nat) (hr : RBlk w N b (some a) 0 c false) :
    Calls Tryz.prog 44 #[I 0, pt (N + 2), pt N] w (takeGot N w (.slice (some a) 0 c) fun w' => RBlk w' N b (some a) 0 c false) := by
  have c0 : w.cell? ⟨N, 0, none⟩ = some (.slice (some a) 0 c) := cell_of_row w N 0 _ _ _ hr.rest
  have f0 := frozen_of_row w N 0 _ _ hr.rest
  have c1 : w.cell? ⟨N + 1, 2, none⟩ = some (.bool false) := cell_of_row w (N + 1) 2 _ _ _ hr.rd
  have f1 := frozen_of_row w (N + 1) 2 _ _ hr.rd
  have c2 : w.cell? ⟨N + 2, 0, none⟩ = some (pt (N + 1)) := cell_of_row w (N + 2) 0 _ _ _ hr.var
  have HR := Lib.hid hr
  clear hr
  go_enter Tryz.func44, Tryz.ntmps44
  go_wp2
  go_still_tail 13, (by kernel_rfl)
  go_wp2
  go_ret
  exact ⟨rfl, ((HR.out.setBad false).setRest).draw, (((RKeep.refl N w).set (p := ⟨N + 1, 2, none⟩) (.inr rfl) _).set (p := ⟨N, 0, none⟩) (.inl rfl) _).draw⟩
set_option maxRecDepth 10000 in
set_option maxHeartbeats 1000000 in
theorem done_any (w : World) (N b : Nat) (A : Option Addr) (n c : Nat) (bad : Bool) (hr : RBlk w N b A n c bad) :
    Calls Tryz.prog 45 #[pt (N + 2), pt N] w fun e w' => e = .returned (.bool (!bad && ((n : Int) == 0))) ∧ w = w' := by
  have c0 : w.cell? ⟨N, 0, none⟩ = some (.slice A n c) := cell_of_row w N 0 _ _ _ hr.rest
  have c1 : w.cell? ⟨N + 1, 2, none⟩ = some (.bool bad) := cell_of_row w (N + 1) 2 _ _ _ hr.rd
  have c2 : w.cell? ⟨N + 2, 0, none⟩ = some (pt (N + 1)) := cell_of_row w (N + 2) 0 _ _ _ hr.var
  clear hr
  cases bad
  all_goals
    go_enter Tryz.func45, Tryz.ntmps45
    go_wp2
    go_ret
    exact ⟨rfl, rfl⟩

/-- The reader: what is left to be read, and whether it has failed; the bytes lie below block B. -/
def RSt (w : World) (N b B : Nat) (rest : List UInt8) (bad : Bool) : Prop :=
  ∃ A c, RBlk w N b A rest.length c bad ∧ rest.length ≤ c ∧ c ≤ 140737488355328 ∧ BytesAt w B A rest ∧ (A = none → c = 0)
def TakePost (w : World) (N b B : Nat) (rest : List UInt8) (bad : Bool) (size : Nat) (e : Ending) (w' : World) : Prop :=
  if bad = true ∨ rest.length < size then e = .returned (.slice none 0 0) ∧ RSt w' N b B rest true ∧ RKeep N w w'
  else ∃ A c, e = .returned (.slice A size c) ∧ size ≤ c ∧ c ≤ 140737488355328 ∧ BytesAt w' B A (rest.take size) ∧ RSt w' N b B (rest.drop size) false ∧ RKeep N w w'
theorem BytesAt.rkeep {w w' : World} {N B : Nat} {A : Option Addr} {bs : List UInt8} (h : BytesAt w B A bs) (hk : RKeep N w w') (hB : B ≤ N) (hN : N < w.heap.size) : BytesAt w' B A bs := by
  rcases h with h | ⟨b, off, hA, hbB, hc⟩
  · exact .inl h
  · exact .inr ⟨b, off, hA, hbB, fun j hj => (World.cell?_of_block (a := ⟨b, off + j, none⟩) (hk.block b (by omega) (by omega) (by omega))).trans (hc j hj)⟩
theorem take_any (w : World) (N b B : Nat) (rest : List UInt8) (bad : Bool) (size : Nat) (hB : B ≤ N) (hN : N < w.heap.size) (hr : RSt w N b B rest bad) :
    Calls Tryz.prog 44 #[I size, pt (N + 2), pt N] w (TakePost w N b B rest bad size) := by
  obtain ⟨A, c, hb, hc1, hc2, hby, hnil⟩ := hr
  by_cases hs : rest.length < size
  · have hpos : bad = true ∨ rest.length < size := .inr hs
    cases bad with
    | true => exact (take_bad w N b A _ c size hb).mono fun e w' ⟨he, hw, hk⟩ => by unfold TakePost; rw [if_pos hpos]; exact ⟨he, ⟨A, c, hw, hc1, hc2, hby.rkeep hk hB hN, hnil⟩, hk⟩
    | false => exact (take_short w N b A _ c size hb (by omega)).mono fun e w' ⟨he, hw, hk⟩ => by unfold TakePost; rw [if_pos hpos]; exact ⟨he, ⟨A, c, hw, hc1, hc2, hby.rkeep hk hB hN, hnil⟩, hk⟩
  · cases bad with
    | true => exact (take_bad w N b A _ c size hb).mono fun e w' ⟨he, hw, hk⟩ => by unfold TakePost; rw [if_pos (.inl rfl)]; exact ⟨he, ⟨A, c, hw, hc1, hc2, hby.rkeep hk hB hN, hnil⟩, hk⟩
    | false =>
      have hneg : ¬ (false = true ∨ rest.length < size) := by simp [hs]
      have htl : (rest.take size).length = size := by simp; omega
      have hdl : (rest.drop size).length = rest.length - size := by simp
      cases A with
      | none =>
        have h0 : c = 0 := hnil rfl
        have hl0 : rest.length = 0 := by omega
        have hs0 : size = 0 := by omega
        subst h0 hs0
        have hr0 := List.eq_nil_of_length_eq_zero hl0
        subst hr0
        refine (take_nil w N b hb).mono fun e w' ⟨he, hw, hk⟩ => ?_
        unfold TakePost
        rw [if_neg hneg]
        exact ⟨none, 0, he, Nat.le_refl _, by omega, .inl rfl, ⟨none, 0, hw, Nat.le_refl _, by omega, .inl rfl, fun _ => rfl⟩, hk⟩
      | some a =>
        by_cases h0 : rest.length = 0
        · have hs0 : size = 0 := by omega
          subst hs0
          have hr0 := List.eq_nil_of_length_eq_zero h0
          subst hr0
          refine (take_zero w N b a c hb).mono fun e w' ⟨he, hw, hk⟩ => ?_
          unfold TakePost
          rw [if_neg hneg]
          exact ⟨some a, c, he, Nat.zero_le _, hc2, .inl rfl, ⟨some a, c, hw, Nat.zero_le _, hc2, .inl rfl, fun h => by cases h⟩, hk⟩
        · rcases hby with h | ⟨bb, off, e, hbB, hcl⟩
          · exact absurd h h0
          · injection e with e
            subst e
            have got : ∀ w', RKeep N w w' → BytesAt w' B (some ⟨bb, off, none⟩) (rest.take size) := fun w' hk =>
              BytesAt.rkeep (.inr ⟨bb, off, rfl, hbB, fun j hj => by rw [hcl j (by omega)]; rw [List.getElem?_take_of_lt (by omega)]⟩) hk hB hN
            by_cases hcs : c = size
            · have hls : rest.length = size := by omega
              subst hcs
              rw [hls] at hb
              refine (take_all w N b bb off c hb hc2).mono fun e w' ⟨he, hw, hk⟩ => ?_
              unfold TakePost
              rw [if_neg hneg]
              have hd0 : (rest.drop c).length = 0 := by omega
              exact ⟨_, c, he, Nat.le_refl _, hc2, got w' hk, ⟨some ⟨bb, off, none⟩, 0, by rw [hd0]; exact hw, by omega, by omega, .inl hd0, fun h => by cases h⟩, hk⟩
            · refine (take_ok w N b bb off _ c size hb (by omega) hc1 hc2 hcs).mono fun e w' ⟨he, hw, hk⟩ => ?_
              unfold TakePost
              rw [if_neg hneg]
              refine ⟨_, c, he, by omega, hc2, got w' hk, ⟨some ⟨bb, off + size, none⟩, c - size, by rw [hdl]; exact hw, by omega, by omega, ?_, fun h => by cases h⟩, hk⟩
              exact BytesAt.rkeep (.inr ⟨bb, off + size, rfl, hbB, fun j hj => by rw [show off + size + j = off + (size + j) by omega, hcl (size + j) (by omega), List.getElem?_drop]⟩) hk hB hN
end Go.Proofs.YthhbbebabmemfaaGreat
