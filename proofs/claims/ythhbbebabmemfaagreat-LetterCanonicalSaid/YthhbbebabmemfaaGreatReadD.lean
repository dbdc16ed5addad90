/- letter.Read: the data. -/
import Derived.Test.YthhbbebabmemfaaGreatReadNum
import Derived.Test.YthhbbebabmemfaaGreatValidW
import Derived.BigQuiet
import Derived.Deep.AppendLies
import Derived.Deep.CutBlock
import Derived.Deep.DeepCutAuto
import Derived.Deep.DrawnRows
import Derived.Deep.MidRow
import Derived.Deep.QuietTactic
import Derived.Deep.RegionHeld3
import Derived.Deep.RegionLaw
import Derived.Deep.WholeRow
import Derived.Great.BuildSlice
import Derived.Laws.BytesString
import Derived.Laws.CopyOwn
import Derived.Laws.EntriesVeiled
import Derived.Laws.MakeOwn
import Derived.Laws.ResultCell
import Derived.Laws.Rows
import Derived.Laws.Tables
import Derived.Lib.Hide
import Derived.LoopIn
import Derived.LoopNIn
import Derived.Maps.AppendAt
import Derived.Outline
import Derived.OwnWalkIn
import Derived.RangeFuncBound
import Derived.RangeFuncBox
import Derived.RangeFuncCalls
import Derived.RangeFuncLeaves
import Derived.RangeFuncNested
import Derived.Shelf.Abstract
import Derived.Shelf.Bytes.SlSmallAll
import Derived.Shelf.RegionOpen
import Derived.StillTailTactics
import Derived.Stop.BytesEq
import Derived.TacticsInMore
import Derived.WalkKit
import Derived.WalkLawsBesides
import Derived.WalkSpells
namespace Go.Proofs.YthhbbebabmemfaaGreat
open Go Go.RowKit

def setNum (l : Lt) (k : Nat) (x : Int) : Lt :=
  match k with
  | 0 => { l with meeting := x }
  | 1 => { l with edition := x }
  | 2 => { l with issuer := x }
  | 3 => { l with version := x }
  | 4 => { l with person := x }
  | 5 => { l with other := x }
  | 6 => { l with resource := x }
  | 7 => { l with scope := x }
  | 8 => { l with day := x }
  | 11 => { l with deadline := x }
  | 12 => { l with state := x }
  | 13 => { l with grain := x }
  | _ => l
theorem setNum_cells (l : Lt) (vr vm vc : Value) (x : Int) (k o : Nat) (hk : k < 17) (h : numOff k = some o) : ltCells (setNum l k x) vr vm vc = (ltCells l vr vm vc).setIfInBounds o (I x) :=
  all17 (p := fun k => ∀ o, numOff k = some o → ltCells (setNum l k x) vr vm vc = (ltCells l vr vm vc).setIfInBounds o (I x)) (by refine ⟨?_, ?_, ?_, ?_, ?_, ?_, ?_, ?_, ?_, ?_, ?_, ?_, ?_, ?_, ?_, ?_, ?_⟩ <;> (intro o h; first | (cases h; done) | (cases h; rfl))) k hk o h
theorem Row.set {w : World} {b o : Nat} {cs : Array Value} {u v : Value} (h : Row w b cs) (ho : cs[o]? = some u) : Row (w.setCell ⟨b, o, none⟩ v) b (cs.setIfInBounds o v) := by
  refine ⟨by simpa [World.setCell] using h.1, fun i => ?_⟩
  by_cases e : i = o
  · subst e
    rw [World.cell?_setCell_same' _ _ _ (by rw [h.2, ho]; rfl), Array.getElem?_setIfInBounds]
    have : i < cs.size := (Array.getElem?_eq_some_iff.1 ho).1
    simp [this]
  · rw [World.cell?_setCell_other _ _ _ _ (by intro h'; injection h' with h1 h2; exact e h2.symm), h.2, Array.getElem?_setIfInBounds_ne (fun h' => e h'.symm)]
/-- The letter read so far, what is left, and whether the reader has failed. -/
structure RS where
  l : Lt
  rest : List UInt8
  bad : Bool
def RS.num (r : RS) (size : Nat) : Int := rdN r.rest r.bad size
def RS.after (r : RS) (size : Nat) (l : Lt) : RS := ⟨l, tkR r.rest r.bad size, tkB r.rest r.bad size⟩
def rdKind (r : RS) : RS := r.after 1 { r.l with kind := r.num 1 }
def rdSrc (r : RS) : RS := r.after 1 { r.l with src := r.num 1 }
def rdDst (r : RS) : RS := r.after 1 { r.l with dst := r.num 1 }
def rdNum (r : RS) (k : Nat) : RS := r.after 8 (setNum r.l k (r.num 8))
def zMv : Mv := ⟨0, false, 0, 0, 0⟩
def zSer : Ser := ⟨[], 0, 0, ByteArray.empty, 0, 0, []⟩
def zLt : Lt := ⟨0, 0, 0, 0, 0, 0, 0, 0, 0, 0, 0, 0, zMv, zSer, 0, 0, 0, 0, 0, [], List.replicate 32 0⟩
def zSl : Sl := ⟨none, none, none, 0, 0, 0⟩
def rdHead (bs : List UInt8) : RS := rdDst (rdSrc (rdKind ⟨zLt, bs, false⟩))
/-- The fields of a letter that has numbers alone. -/
def rdTo (r : RS) : Nat → RS
  | 0 => r
  | k + 1 => if usesB r.l.kind k = true then rdNum (rdTo r k) k else rdTo r k
theorem setNum_kind (l : Lt) (k : Nat) (x : Int) : (setNum l k x).kind = l.kind := by unfold setNum; split <;> rfl
theorem rdTo_kind (r : RS) (k : Nat) : (rdTo r k).l.kind = r.l.kind := by
  induction k with
  | zero => rfl
  | succ k ih =>
    unfold rdTo
    split
    · exact (setNum_kind _ _ _).trans ih
    · exact ih
end Go.Proofs.YthhbbebabmemfaaGreat
