/- The methods of letter.writer: window, move, cells. -/
import Derived.Test.YthhbbebabmemfaaGreatCells
import Derived.Test.YthhbbebabmemfaaGreatNums
import Derived.Test.YthhbbebabmemfaaGreatWriter
import Derived.BigQuiet
import Derived.Deep.AppendLies
import Derived.Deep.CutBlock
import Derived.Deep.DeepCutAuto
import Derived.Deep.DrawnRows
import Derived.Deep.MidRow
import Derived.Deep.QuietTactic
import Derived.Deep.RegionHeld3
import Derived.Deep.RegionLaw
import Derived.Deep.WholeRow
import Derived.Great.BuildSlice
import Derived.Laws.BytesString
import Derived.Laws.CopyOwn
import Derived.Laws.EntriesVeiled
import Derived.Laws.MakeOwn
import Derived.Laws.ResultCell
import Derived.Laws.Rows
import Derived.Laws.Tables
import Derived.Lib.Hide
import Derived.LoopIn
import Derived.LoopNIn
import Derived.Maps.AppendAt
import Derived.Outline
import Derived.OwnWalkIn
import Derived.RangeFuncBound
import Derived.RangeFuncBox
import Derived.RangeFuncCalls
import Derived.RangeFuncLeaves
import Derived.RangeFuncNested
import Derived.Shelf.Abstract
import Derived.Shelf.Bytes.SlSmallAll
import Derived.Shelf.RegionOpen
import Derived.StillTailTactics
import Derived.Stop.BytesEq
import Derived.TacticsInMore
import Derived.WalkKit
import Derived.WalkLawsBesides
import Derived.WalkSpells
namespace Go.Proofs.YthhbbebabmemfaaGreat
open Go Go.RowKit

abbrev pt (b : Nat) : Value := .pointer (some ⟨b, 0, none⟩)
theorem number8 (w : World) (g : Nat) (lp v : Value) (bs : List UInt8) (n : Int) (hn : -9223372036854775808 ≤ n ∧ n ≤ 9223372036854775807) (hl : bs.length ≤ 1099511627776) (hg : g < w.heap.size) (hst : WSt w g lp v bs) :
    Calls Tryz.prog 24 #[pt g, I n, I 8] w (NumPost w g lp v (bs ++ le n 8)) := number_any w g lp v bs n 8 hn.1 hn.2 (by omega) hl hg hst
theorem number4 (w : World) (g : Nat) (lp v : Value) (bs : List UInt8) (n : Int) (hn : -9223372036854775808 ≤ n ∧ n ≤ 9223372036854775807) (hl : bs.length ≤ 1099511627776) (hg : g < w.heap.size) (hst : WSt w g lp v bs) :
    Calls Tryz.prog 24 #[pt g, I n, I 4] w (NumPost w g lp v (bs ++ le n 4)) := number_any w g lp v bs n 4 hn.1 hn.2 (by omega) hl hg hst
theorem number1 (w : World) (g : Nat) (lp v : Value) (bs : List UInt8) (n : Int) (hn : -9223372036854775808 ≤ n ∧ n ≤ 9223372036854775807) (hl : bs.length ≤ 1099511627776) (hg : g < w.heap.size) (hst : WSt w g lp v bs) :
    Calls Tryz.prog 24 #[pt g, I n, I 1] w (NumPost w g lp v (bs ++ le n 1)) := number_any w g lp v bs n 1 hn.1 hn.2 (by omega) hl hg hst

/-- What a method of the writer is given: the writer at g, the letter at b. -/
structure WIn (w : World) (g b : Nat) (cs : Array Value) (v : Value) (bs : List UInt8) : Prop where
  st : WSt w g (pt b) v bs
  row : Row w b cs
  lt : b < g
  gl : g < w.heap.size
theorem WKeep.old {g : Nat} {lp v v' : Value} {w w' : World} {bs : List UInt8} (h : WKeep g v w v' w') (hst : WSt w g lp v bs) (k : Nat) (hk : k < g) (hkw : k < w.heap.size) : w'.heap[k]? = w.heap[k]? :=
  h.block k hkw (by omega) (own_ge hst.2 k (by omega))
theorem WIn.next {w w' : World} {g b : Nat} {cs : Array Value} {v v' : Value} {bs bs' : List UInt8} (h : WIn w g b cs v bs) (hst : WSt w' g (pt b) v' bs') (hk : WKeep g v w v' w') : WIn w' g b cs v' bs' :=
  ⟨hst, ⟨Nat.lt_of_lt_of_le h.row.1 hk.size, fun i => (World.cell?_of_block (a := ⟨b, i, none⟩) (hk.old h.st b h.lt h.row.1)).trans (h.row.2 i)⟩, h.lt, Nat.lt_of_lt_of_le h.gl hk.size⟩
theorem WKeep.ints {g : Nat} {lp v v' : Value} {w w' : World} {bs : List UInt8} {B : Nat} {A : Option Addr} {zs : List Int} (h : WKeep g v w v' w') (hst : WSt w g lp v bs) (hB : B ≤ g) (hg : g < w.heap.size) (hi : IntsAt w B A zs) : IntsAt w' B A zs := by
  rcases hi with hi | ⟨b, off, hA, hbB, hc⟩
  · exact .inl hi
  · exact .inr ⟨b, off, hA, hbB, fun j hj => (World.cell?_of_block (a := ⟨b, off + j, none⟩) (h.old hst b (by omega) (by omega))).trans (hc j hj)⟩
def fits (n : Int) : Prop := -9223372036854775808 ≤ n ∧ n ≤ 9223372036854775807

attribute [local go_sem] lt_get27 lt_get28 lt_get29
set_option maxRecDepth 10000 in
set_option maxHeartbeats 1000000 in
theorem window_any (w : World) (g b : Nat) (l : Lt) (vr vm vc v : Value) (bs : List UInt8) (hin : WIn w g b (ltCells l vr vm vc) v bs) (hl : bs.length ≤ 1099511627760) (h1 : fits l.wfrom) (h2 : fits l.wto) :
    Calls Tryz.prog 27 #[pt g] w (NumPost w g (pt b) v (bs ++ (le l.wfrom 8 ++ le l.wto 8))) := by
  have HI := Lib.hid hin
  have hc0 := cell_of_row w g 0 _ _ _ hin.st.1
  have hr0 := hin.row.2
  have hl2 : (bs ++ le l.wfrom 8).length ≤ 1099511627776 := by rw [List.length_append, le_length]; omega
  have HL2 := Lib.hid hl2
  clear hin hl2
  go_enter Tryz.func27, Tryz.ntmps27
  go_wp2_with fail
  refine (number8 _ _ _ _ bs _ h1 (by omega) HI.out.gl HI.out.st).mono ?_
  rintro e w1 ⟨rfl, v1, hs1, hk1⟩
  have HI1 := Lib.hid (HI.out.next hs1 hk1)
  have HK1 := Lib.hid hk1
  have hc1 := cell_of_row w1 g 0 _ _ _ hs1.1
  have hr1 := HI1.out.row.2
  clear hs1 hk1
  go_wp2_with fail
  refine (number8 _ _ _ _ _ _ h2 HL2.out HI1.out.gl HI1.out.st).mono ?_
  rintro e w2 ⟨rfl, v2, hs2, hk2⟩
  have HS2 := Lib.hid hs2
  have HK2 := Lib.hid hk2
  clear hs2 hk2
  go_wp2
  go_end0
  exact ⟨rfl, v2, by rw [← List.append_assoc]; exact HS2.out, HK1.out.trans HK2.out⟩
end Go.Proofs.YthhbbebabmemfaaGreat
