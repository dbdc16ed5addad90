/- letter.validNumbers. -/
import Derived.Test.YthhbbebabmemfaaGreatLimits
import Derived.Test.YthhbbebabmemfaaGreatNumbers
import Derived.BigQuiet
import Derived.Deep.QuietTactic
import Derived.Deep.WholeRow
import Derived.Laws.Rows
import Derived.Laws.Tables
import Derived.Lib.Hide
import Derived.Outline
import Derived.StillTailTactics
import Derived.Stop.BytesEq
import Derived.WalkKit
import Derived.WalkLawsBesides
import Derived.WalkSpells
namespace Go.Proofs.YthhbbebabmemfaaGreat
open Go Go.RowKit

def numOff (k : Nat) : Option Nat := ([some 3, some 4, some 5, some 6, some 7, some 8, some 9, some 10, some 11, none, none, some 24, some 25, some 26, none, none, none][k]?).getD none
def numF (l : Lt) (k : Nat) : Int := ([l.meeting, l.edition, l.issuer, l.version, l.person, l.other, l.resource, l.scope, l.day, 0, 0, l.deadline, l.state, l.grain, 0, 0, 0][k]?).getD 0
def ptrAt (b k : Nat) : Value := match numOff k with | some o => np b o | none => .pointer none
theorem all17 {p : Nat → Prop} (h : p 0 ∧ p 1 ∧ p 2 ∧ p 3 ∧ p 4 ∧ p 5 ∧ p 6 ∧ p 7 ∧ p 8 ∧ p 9 ∧ p 10 ∧ p 11 ∧ p 12 ∧ p 13 ∧ p 14 ∧ p 15 ∧ p 16) (k : Nat) (hk : k < 17) : p k := by
  obtain ⟨h0, h1, h2, h3, h4, h5, h6, h7, h8, h9, h10, h11, h12, h13, h14, h15, h16⟩ := h
  match k, hk with
  | 0, _ => exact h0
  | 1, _ => exact h1
  | 2, _ => exact h2
  | 3, _ => exact h3
  | 4, _ => exact h4
  | 5, _ => exact h5
  | 6, _ => exact h6
  | 7, _ => exact h7
  | 8, _ => exact h8
  | 9, _ => exact h9
  | 10, _ => exact h10
  | 11, _ => exact h11
  | 12, _ => exact h12
  | 13, _ => exact h13
  | 14, _ => exact h14
  | 15, _ => exact h15
  | 16, _ => exact h16
  | n + 17, h => exact absurd h (by omega)
theorem numPtrs_at (b k : Nat) (hk : k < 17) : (numPtrs b)[k]? = some (ptrAt b k) := by
  exact all17 (p := fun k => (numPtrs b)[k]? = some (ptrAt b k)) (by refine ⟨?_, ?_, ?_, ?_, ?_, ?_, ?_, ?_, ?_, ?_, ?_, ?_, ?_, ?_, ?_, ?_, ?_⟩ <;> rfl) k hk
theorem index_nums (b k : Nat) (hk : k < 17) (w : World) : (Instr.index 58 (.agg (numPtrs b)) (.int .i64 (k : Int))).run Tryz.prog w = .ok (ptrAt b k) w := by
  exact all17 (p := fun k => (Instr.index 58 (.agg (numPtrs b)) (.int .i64 (k : Int))).run Tryz.prog w = .ok (ptrAt b k) w) (by refine ⟨?_, ?_, ?_, ?_, ?_, ?_, ?_, ?_, ?_, ?_, ?_, ?_, ?_, ?_, ?_, ?_, ?_⟩ <;> kernel_rfl) k hk
theorem lt_num (l : Lt) (vr vm vc : Value) (k o : Nat) (hk : k < 17) (h : numOff k = some o) : (ltCells l vr vm vc)[o]? = some (I (numF l k)) := by
  exact all17 (p := fun k => ∀ o, numOff k = some o → (ltCells l vr vm vc)[o]? = some (I (numF l k))) (by refine ⟨?_, ?_, ?_, ?_, ?_, ?_, ?_, ?_, ?_, ?_, ?_, ?_, ?_, ?_, ?_, ?_, ?_⟩ <;> (intro o h; first | (cases h; done) | (cases h; rfl))) k hk o h

def specialB (k : Nat) : Bool := k == 4 || k == 5 || k == 6 || k == 12
def numLow (kind : Int) (bare : Bool) (k : Nat) : Int := if usesB kind k && !(bare && specialB k) then limLow kind k else 0
def numHigh (kind : Int) (bare : Bool) (k : Nat) : Int := if usesB kind k && !(bare && specialB k) then limHigh kind k else 0
def numOK (l : Lt) (bare : Bool) (k : Nat) : Bool := (numOff k).isNone || (decide (numLow l.kind bare k ≤ numF l k) && decide (numF l k ≤ numHigh l.kind bare k))
def vNums (l : Lt) (bare : Bool) : Bool := (List.range 17).all (numOK l bare) && (decide (l.kind ≠ 5) || decide (l.other ≠ l.person))
theorem vNums_no {l : Lt} {bare : Bool} {j : Nat} (hj : j < 17) (h : numOK l bare j = false) : vNums l bare = false := by
  unfold vNums
  have : (List.range 17).all (numOK l bare) = false := by
    rw [Bool.eq_false_iff]; intro h'; rw [List.all_eq_true] at h'
    have := h' j (List.mem_range.2 hj); rw [h] at this; cases this
  rw [this]; rfl
theorem vNums_end {l : Lt} {bare : Bool} (h : ∀ j, j < 17 → numOK l bare j = true) : vNums l bare = (decide (l.kind ≠ 5) || decide (l.other ≠ l.person)) := by
  unfold vNums
  have : (List.range 17).all (numOK l bare) = true := by
    rw [List.all_eq_true]; intro j hj; exact h j (List.mem_range.1 hj)
  rw [this]; rfl
theorem numOK_zero {l : Lt} {bare : Bool} {k o : Nat} (ho : numOff k = some o) (h : (usesB l.kind k && !(bare && specialB k)) = false) : numOK l bare k = (decide (0 ≤ numF l k) && decide (numF l k ≤ 0)) := by
  unfold numOK numLow numHigh; rw [ho, h]; rfl
theorem numOK_lim {l : Lt} {bare : Bool} {k o : Nat} (ho : numOff k = some o) (h : (usesB l.kind k && !(bare && specialB k)) = true) : numOK l bare k = (decide (limLow l.kind k ≤ numF l k) && decide (numF l k ≤ limHigh l.kind k)) := by
  unfold numOK numLow numHigh; rw [ho, h]; rfl
theorem numOK_nil {l : Lt} {bare : Bool} {k : Nat} (ho : numOff k = none) : numOK l bare k = true := by
  simp [numOK, ho]

theorem noSeries_ex (s : Ser) (A B : Option Addr) (n m c d : Nat) (w : World) (hn : n ≤ 140737488355328) (hm : m ≤ 140737488355328) (hz : s.zone.size ≤ 140737488355328) :
    Calls Tryz.prog 41 #[.agg #[.slice A n c, I s.minute, I s.length, .string s.zone, I s.gap, I s.fold, .slice B m d]] w (Gives (.bool (noSer n m s)) w) :=
  noSeries_any s A B n m c d w hn hm hz

def bareB (kind : Int) (n m : Nat) (s : Ser) : Bool := decide (kind = 8) && noSer n m s
/-- The cells of a block, all of them. -/
def Row (w : World) (b : Nat) (cs : Array Value) : Prop := b < w.heap.size ∧ ∀ i, w.cell? ⟨b, i, none⟩ = cs[i]?
theorem Row.keep {w w' : World} {b : Nat} {cs : Array Value} (h : Row w b cs) (hb : Below w.heap.size w w') : Row w' b cs :=
  ⟨Nat.lt_of_lt_of_le h.1 hb.size, fun i => (hb.cell (p := ⟨b, i, none⟩) h.1).trans (h.2 i)⟩
theorem Row.new (w : World) (cs : Array Value) (t : TypeId) : Row (w.alloc (.cells cs t)) w.heap.size cs :=
  ⟨by simp, fun i => by rw [World.cell?_alloc_at _ _ _ _ rfl]⟩
theorem below_trans {w w1 w2 : World} (h : Below w.heap.size w w1) (h2 : Below w1.heap.size w1 w2) : Below w.heap.size w w2 := h.trans (h2.mono h.size)
end Go.Proofs.YthhbbebabmemfaaGreat
