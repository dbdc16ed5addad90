/- The data of letters as Lean values, and how they lie in cells; words for memory. -/
import Derived.Test.YtbdkalpljhpnmaaGreatAid
import Derived.Deep.WholeRow
import Derived.Laws.Rows
import Derived.Laws.Tables
import Derived.Lib.Hide
import Derived.Outline
import Derived.Stop.BytesEq
import Derived.WalkKit
import Derived.WalkLawsBesides
import Derived.WalkSpells
namespace Go.Proofs.YtbdkalpljhpnmaaGreat
open Go Go.RowKit

structure Mv where
  day : Int
  drop : Bool
  toDay : Int
  minute : Int
  length : Int
structure Nd where
  kind : Int
  cal : Int
  l : Int
  r : Int
  n : Int
  m : Int
  list : List Int
  name : ByteArray
structure Ser where
  rule : List Nd
  minute : Int
  length : Int
  zone : ByteArray
  gap : Int
  fold : Int
  moves : List Mv
structure Lt where
  kind : Int
  src : Int
  dst : Int
  meeting : Int
  edition : Int
  issuer : Int
  version : Int
  person : Int
  other : Int
  resource : Int
  scope : Int
  day : Int
  move : Mv
  series : Ser
  deadline : Int
  state : Int
  grain : Int
  wfrom : Int
  wto : Int
  cells : List Int
  ref : List UInt8

abbrev I (n : Int) : Value := .int .i64 n
def mvCells (m : Mv) : Array Value := #[I m.day, .bool m.drop, I m.toDay, I m.minute, I m.length]
def serCells (s : Ser) (vr vm : Value) : Array Value := #[vr, I s.minute, I s.length, .string s.zone, I s.gap, I s.fold, vm]
def refCells (r : List UInt8) : List Value := r.map Extern.Stop.cell
def ltCells (l : Lt) (vr vm vc : Value) : Array Value :=
  ([I l.kind, I l.src, I l.dst, I l.meeting, I l.edition, I l.issuer, I l.version, I l.person, I l.other, I l.resource, I l.scope, I l.day,
    I l.move.day, .bool l.move.drop, I l.move.toDay, I l.move.minute, I l.move.length,
    vr, I l.series.minute, I l.series.length, .string l.series.zone, I l.series.gap, I l.series.fold, vm,
    I l.deadline, I l.state, I l.grain, I l.wfrom, I l.wto, vc] ++ refCells l.ref).toArray

section
variable (l : Lt) (vr vm vc : Value)
theorem lt_get0 : (ltCells l vr vm vc)[0]? = some (I l.kind) := rfl
theorem lt_get1 : (ltCells l vr vm vc)[1]? = some (I l.src) := rfl
theorem lt_get2 : (ltCells l vr vm vc)[2]? = some (I l.dst) := rfl
theorem lt_get3 : (ltCells l vr vm vc)[3]? = some (I l.meeting) := rfl
theorem lt_get4 : (ltCells l vr vm vc)[4]? = some (I l.edition) := rfl
theorem lt_get5 : (ltCells l vr vm vc)[5]? = some (I l.issuer) := rfl
theorem lt_get6 : (ltCells l vr vm vc)[6]? = some (I l.version) := rfl
theorem lt_get7 : (ltCells l vr vm vc)[7]? = some (I l.person) := rfl
theorem lt_get8 : (ltCells l vr vm vc)[8]? = some (I l.other) := rfl
theorem lt_get9 : (ltCells l vr vm vc)[9]? = some (I l.resource) := rfl
theorem lt_get10 : (ltCells l vr vm vc)[10]? = some (I l.scope) := rfl
theorem lt_get11 : (ltCells l vr vm vc)[11]? = some (I l.day) := rfl
theorem lt_get12 : (ltCells l vr vm vc)[12]? = some (I l.move.day) := rfl
theorem lt_get13 : (ltCells l vr vm vc)[13]? = some (.bool l.move.drop) := rfl
theorem lt_get14 : (ltCells l vr vm vc)[14]? = some (I l.move.toDay) := rfl
theorem lt_get15 : (ltCells l vr vm vc)[15]? = some (I l.move.minute) := rfl
theorem lt_get16 : (ltCells l vr vm vc)[16]? = some (I l.move.length) := rfl
theorem lt_get17 : (ltCells l vr vm vc)[17]? = some vr := rfl
theorem lt_get18 : (ltCells l vr vm vc)[18]? = some (I l.series.minute) := rfl
theorem lt_get19 : (ltCells l vr vm vc)[19]? = some (I l.series.length) := rfl
theorem lt_get20 : (ltCells l vr vm vc)[20]? = some (.string l.series.zone) := rfl
theorem lt_get21 : (ltCells l vr vm vc)[21]? = some (I l.series.gap) := rfl
theorem lt_get22 : (ltCells l vr vm vc)[22]? = some (I l.series.fold) := rfl
theorem lt_get23 : (ltCells l vr vm vc)[23]? = some vm := rfl
theorem lt_get24 : (ltCells l vr vm vc)[24]? = some (I l.deadline) := rfl
theorem lt_get25 : (ltCells l vr vm vc)[25]? = some (I l.state) := rfl
theorem lt_get26 : (ltCells l vr vm vc)[26]? = some (I l.grain) := rfl
theorem lt_get27 : (ltCells l vr vm vc)[27]? = some (I l.wfrom) := rfl
theorem lt_get28 : (ltCells l vr vm vc)[28]? = some (I l.wto) := rfl
theorem lt_get29 : (ltCells l vr vm vc)[29]? = some vc := rfl
theorem lt_getRef (j : Nat) : (ltCells l vr vm vc)[30 + j]? = (refCells l.ref)[j]? := by
  unfold ltCells; rw [List.getElem?_toArray, List.getElem?_append_right (by simp)]; simp
theorem lt_size (h : l.ref.length = 32) : (ltCells l vr vm vc).size = 62 := by simp [ltCells, refCells, h]
end

/-- It returns this, and nothing that was there has changed. -/
def Gives (v : Value) (w : World) (e : Ending) (w' : World) : Prop := e = .returned v ∧ Below w.heap.size w w'
end Go.Proofs.YtbdkalpljhpnmaaGreat
