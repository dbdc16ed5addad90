/- letter.Bytes: the data, and words for the writer in memory. -/
import Derived.Test.YthhbbebabmemfaaGreatWriters2
import Derived.BigQuiet
import Derived.Deep.AppendLies
import Derived.Deep.CutBlock
import Derived.Deep.DeepCutAuto
import Derived.Deep.DrawnRows
import Derived.Deep.MidRow
import Derived.Deep.QuietTactic
import Derived.Deep.RegionHeld3
import Derived.Deep.RegionLaw
import Derived.Deep.WholeRow
import Derived.Great.BuildSlice
import Derived.Laws.BytesString
import Derived.Laws.CopyOwn
import Derived.Laws.EntriesVeiled
import Derived.Laws.MakeOwn
import Derived.Laws.ResultCell
import Derived.Laws.Rows
import Derived.Laws.Tables
import Derived.Lib.Hide
import Derived.LoopIn
import Derived.LoopNIn
import Derived.Maps.AppendAt
import Derived.Outline
import Derived.OwnWalkIn
import Derived.RangeFuncBound
import Derived.RangeFuncBox
import Derived.RangeFuncCalls
import Derived.RangeFuncLeaves
import Derived.RangeFuncNested
import Derived.Shelf.Abstract
import Derived.Shelf.Bytes.SlSmallAll
import Derived.Shelf.RegionOpen
import Derived.StillTailTactics
import Derived.Stop.BytesEq
import Derived.TacticsInMore
import Derived.WalkKit
import Derived.WalkLawsBesides
import Derived.WalkSpells
namespace Go.Proofs.YthhbbebabmemfaaGreat
open Go Go.RowKit

/-- A field's bytes; sb: the series' bytes. -/
def fldBytes (l : Lt) (sb : List UInt8) (k : Nat) : List UInt8 :=
  if (numOff k).isSome then le (numF l k) 8 else if k = 9 then mvBytes l.move else if k = 10 then sb else if k = 14 then le l.wfrom 8 ++ le l.wto 8 else if k = 15 then le l.cells.length 4 ++ cellBytes l.cells else l.ref
def fldsTo (l : Lt) (sb : List UInt8) : Nat → List UInt8
  | 0 => []
  | k + 1 => fldsTo l sb k ++ (if usesB l.kind k then fldBytes l sb k else [])
def hdBytes (l : Lt) : List UInt8 := cellBytes [l.kind, l.src, l.dst]
def ltBytes (l : Lt) (sb : List UInt8) : List UInt8 := hdBytes l ++ fldsTo l sb 17
theorem mvBytes_length (m : Mv) : (mvBytes m).length = 33 := by simp [mvBytes, le_length]
theorem fldBytes_le (l : Lt) (sb : List UInt8) (k : Nat) (h1 : l.cells.length ≤ 65536) (h2 : l.ref.length = 32) : (fldBytes l sb k).length ≤ sb.length + 70000 := by
  unfold fldBytes
  repeat' split
  all_goals (try simp only [le_length, mvBytes_length, List.length_append, cellBytes_length])
  all_goals omega
theorem fldsTo_le (l : Lt) (sb : List UInt8) (k : Nat) (h1 : l.cells.length ≤ 65536) (h2 : l.ref.length = 32) : (fldsTo l sb k).length ≤ k * (sb.length + 70000) := by
  induction k with
  | zero => simp [fldsTo]
  | succ k ih =>
    have := fldBytes_le l sb k h1 h2
    simp only [fldsTo, List.length_append]
    rw [Nat.succ_mul]
    split
    · exact Nat.add_le_add ih this
    · rw [List.length_nil, Nat.add_zero]; exact Nat.le_trans ih (Nat.le_add_right _ _)
theorem hd_length (l : Lt) : (hdBytes l).length = 3 := by rw [hdBytes, cellBytes_length]; rfl
theorem pre_le (l : Lt) (sb : List UInt8) (k : Nat) (h1 : l.cells.length ≤ 65536) (h2 : l.ref.length = 32) (h3 : sb.length ≤ 1000000000) (hk : k ≤ 17) : (hdBytes l ++ fldsTo l sb k).length ≤ 100000000000 := by
  have := fldsTo_le l sb k h1 h2
  have h4 : k * (sb.length + 70000) ≤ 17 * (sb.length + 70000) := Nat.mul_le_mul_right _ hk
  rw [List.length_append, hd_length]
  omega

theorem ownsRow_below {M : Nat} {w w' : World} {base e size n : Nat} {v : Value} {xs : List Value} (h : w.ownsRow base e size v n xs) (hb : Below M w w') (hM : w.heap.size ≤ M) : w'.ownsRow base e size v n xs := by
  refine ⟨h.1, ?_⟩
  rcases h.2 with h | ⟨g, cap, cur, rfl, hg, hh, h1, h2, h3, h4⟩
  · exact .inl h
  · refine .inr ⟨g, cap, cur, rfl, hg, ?_, h1, h2, h3, h4⟩
    rw [hb.block g (Nat.lt_of_lt_of_le (Array.getElem?_eq_some_iff.1 hh).1 hM)]
    exact hh
theorem WIn.grow {w w' : World} {g b : Nat} {cs : Array Value} {v : Value} {bs : List UInt8} (h : WIn w g b cs v bs) (hb : Below w.heap.size w w') : WIn w' g b cs v bs :=
  ⟨⟨(hb.block g h.gl).trans h.st.1, ownsRow_below h.st.2 hb (Nat.le_refl _)⟩, h.row.keep hb, h.lt, Nat.lt_of_lt_of_le h.gl hb.size⟩
theorem Far.grow {w w' : World} {g k : Nat} {v : Value} {cs : Array Value} (h : Far w g v k cs) (hb : Below w.heap.size w w') : Far w' g v k cs := ⟨h.row.keep hb, h.ne, h.nv⟩
theorem WKeep.below {M g b : Nat} {cs : Array Value} {v v' : Value} {w w' : World} {bs : List UInt8} (h : WKeep g v w v' w') (hin : WIn w g b cs v bs) (hM : M ≤ b) : Below M w w' :=
  ⟨h.os, h.tape, h.output, h.size, fun k hk => h.block k (by have := hin.gl; have := hin.lt; omega) (by have := hin.lt; omega) (own_ge hin.st.2 k (by have := hin.lt; omega))⟩
theorem NumPost.out {w w' : World} {g b : Nat} {cs : Array Value} {v : Value} {bs bs' : List UInt8} {e : Ending} (h : NumPost w g (pt b) v bs' e w') (hin : WIn w g b cs v bs) :
    e = .returned (.tuple #[]) ∧ ∃ v', WIn w' g b cs v' bs' ∧ WKeep g v w v' w' := by
  obtain ⟨he, v', hs, hk⟩ := h
  exact ⟨he, v', hin.next hs hk, hk⟩
end Go.Proofs.YthhbbebabmemfaaGreat
