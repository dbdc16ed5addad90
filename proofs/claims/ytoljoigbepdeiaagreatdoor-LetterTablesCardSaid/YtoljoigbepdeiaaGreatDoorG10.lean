/- The texts LtT, Same, Closed, Name, San, in this order. -/
import Derived.Test.YtoljoigbepdeiaaGreatDoorG09
import Derived.BigQuiet
import Derived.Deep.AppendLies
import Derived.Deep.CutBlock
import Derived.Deep.DeepCutAuto
import Derived.Deep.DrawnRows
import Derived.Deep.MidRow
import Derived.Deep.QuietTactic
import Derived.Deep.RegionHeld3
import Derived.Deep.RegionLaw
import Derived.Deep.WholeRow
import Derived.Great.BuildSlice
import Derived.Laws.BytesString
import Derived.Laws.CopyOwn
import Derived.Laws.EntriesVeiled
import Derived.Laws.MakeOwn
import Derived.Laws.ResultCell
import Derived.Laws.Rows
import Derived.Laws.Tables
import Derived.Lib.Hide
import Derived.LoopIn
import Derived.LoopNIn
import Derived.Maps.AppendAt
import Derived.Outline
import Derived.OwnWalkIn
import Derived.RangeFuncBound
import Derived.RangeFuncBox
import Derived.RangeFuncCalls
import Derived.RangeFuncLeaves
import Derived.RangeFuncNested
import Derived.Shelf.Abstract
import Derived.Shelf.Bytes.SlSmallAll
import Derived.Shelf.RegionOpen
import Derived.StillTailTactics
import Derived.Stop.BytesEq
import Derived.TacticsInMore
import Derived.WalkKit
import Derived.WalkLawsBesides
import Derived.WalkSpells
import Derived.Test.YtoljoigbepdeiaaGreatDoorG02
import Derived.Test.YtoljoigbepdeiaaGreatDoorWriters
import Derived.Test.YtoljoigbepdeiaaGreatDoorG06
import Derived.Test.YtoljoigbepdeiaaGreatDoorProg
import Derived.Test.YtoljoigbepdeiaaGreatDoorAid
/- The letter of kind 17: letter.Valid, letter.Bytes and letter.Read. -/
namespace Go.Proofs.YtoljoigbepdeiaaGreatDoor
open Go Go.RowKit

def tbLt (iss : Int) (zs : List Int) (mac : List UInt8) : Lt := { zLt with kind := 17, src := 1, dst := 2, issuer := iss, version := 1, cells := zs, ref := mac }
section
variable {iss : Int} {zs : List Int} {mac : List UInt8}
theorem tbLt_num (h : 0 ≤ iss ∧ iss < 16) (k : Nat) (hk : k < 17) : fits (numF (tbLt iss zs mac) k) :=
  all17 (p := fun k => fits (numF (tbLt iss zs mac) k)) (by refine ⟨?_, ?_, ?_, ?_, ?_, ?_, ?_, ?_, ?_, ?_, ?_, ?_, ?_, ?_, ?_, ?_, ?_⟩ <;> (simp [numF, tbLt, zLt, fits]; try omega)) k hk
theorem rd7_tb (h : 0 ≤ iss ∧ iss < 16) (hz : ∀ z ∈ zs, 0 ≤ z ∧ z ≤ 255) (hl : zs.length ≤ 65536) (hm : mac.length = 32) : Rd7 (tbLt iss zs mac) [] where
  kind := by show (0 : Int) ≤ 17 ∧ (17 : Int) < 256; decide
  src := by show (0 : Int) ≤ 1 ∧ (1 : Int) < 256; decide
  dst := by show (0 : Int) ≤ 2 ∧ (2 : Int) < 256; decide
  num := tbLt_num h
  ref := hm
  cells := hz
  clen := hl
  zero := fun k hk => all17 (p := fun k => usesB (tbLt iss zs mac).kind k = false → FldZ (tbLt iss zs mac) k) (by refine ⟨?_, ?_, ?_, ?_, ?_, ?_, ?_, ?_, ?_, ?_, ?_, ?_, ?_, ?_, ?_, ?_, ?_⟩ <;> (intro h; first | exact absurd (show usesB 17 _ = false from h) (by decide) | (simp [FldZ, numOff, numF, tbLt, zLt]; done))) k hk
  no := by show usesB 17 9 = false ∧ usesB 17 10 = false ∧ usesB 17 14 = false; decide
theorem head_tb : headOK (tbLt iss zs mac) = true := rfl
theorem num2_tb (h : 0 ≤ iss ∧ iss < 16) : numOK (tbLt iss zs mac) false 2 = true := by
  rw [numOK_lim (o := 5) rfl (show (usesB 17 2 && !(false && specialB 2)) = true by decide)]
  show (decide (limLow 17 2 ≤ iss) && decide (iss ≤ limHigh 17 2)) = true
  rw [show limLow 17 2 = 0 by decide, show limHigh 17 2 = 15 by decide, decide_eq_true h.1, decide_eq_true (show iss ≤ 15 by omega)]
  rfl
theorem num_tb (k : Nat) (o : Nat) (ho : numOff k = some o) (hk : numF (tbLt iss zs mac) k = 0) (hu : usesB 17 k = false) : numOK (tbLt iss zs mac) false k = true := by
  rw [numOK_zero ho (show (usesB 17 k && !(false && specialB k)) = false by rw [hu]; rfl), hk]
  rfl
theorem numN_tb (k : Nat) (h : numOff k = none) : numOK (tbLt iss zs mac) false k = true := by
  unfold numOK
  rw [h]
  rfl
theorem num3_tb : numOK (tbLt iss zs mac) false 3 = true := by
  rw [numOK_lim (o := 6) rfl (show (usesB 17 3 && !(false && specialB 3)) = true by decide)]
  show (decide (limLow 17 3 ≤ 1) && decide (1 ≤ limHigh 17 3)) = true
  decide
theorem body_tb (h : 0 ≤ iss ∧ iss < 16) (h0 : 0 < zs.length) (hz : ∀ z ∈ zs, 0 ≤ z ∧ z ≤ 255) : bodyOK (tbLt iss zs mac) = true := by
  have hn : ∀ j, j < 17 → numOK (tbLt iss zs mac) false j = true := fun j hj =>
    all17 (p := fun j => numOK (tbLt iss zs mac) false j = true) ⟨num_tb 0 3 rfl rfl (by decide), num_tb 1 4 rfl rfl (by decide), num2_tb h, num3_tb, num_tb 4 7 rfl rfl (by decide), num_tb 5 8 rfl rfl (by decide), num_tb 6 9 rfl rfl (by decide), num_tb 7 10 rfl rfl (by decide), num_tb 8 11 rfl rfl (by decide), numN_tb 9 rfl, numN_tb 10 rfl, num_tb 11 24 rfl rfl (by decide), num_tb 12 25 rfl rfl (by decide), num_tb 13 26 rfl rfl (by decide), numN_tb 14 rfl, numN_tb 15 rfl, numN_tb 16 rfl⟩ j hj
  unfold bodyOK
  rw [show bareB (tbLt iss zs mac).kind (tbLt iss zs mac).series.rule.length (tbLt iss zs mac).series.moves.length (tbLt iss zs mac).series = false from rfl, vNums_end hn]
  have hc : vCells 17 zs = true := by
    unfold vCells
    rw [Bool.and_eq_true, List.all_eq_true]
    refine ⟨fun j hj => ?_, by simpa using h0⟩
    have hj2 : j < zs.length := List.mem_range.1 hj
    have := hz zs[j] (List.getElem_mem hj2)
    simp [cellOK, srvB, hj2]
    omega
  have e : oth (tbLt iss zs mac) = (zerosOK 17 true true true ((zs.length : Int) == 0) (mac == zero32) && vCells 17 zs) := by
    unfold oth vOthers
    simp [tbLt, zLt, mvZ, zMv, nzOf, noSer, zSer, spanB]
  have hzk : ∀ a b, zerosOK 17 true true true a b = true := by decide
  rw [e, hc, hzk]
  rfl
theorem LcMem.ints {lo : Nat} {w : World} {l : Lt} {s : Sl} (h : LcMem lo w l s) : IntsAt w w.heap.size s.C l.cells := by
  by_cases h0 : l.cells.length = 0
  · exact .inl h0
  · obtain ⟨g, c, hv, hg⟩ := own_form h.cells (by omega)
    have hc := h.cells
    injection hv with e1 e2 e3
    rw [e1] at hc ⊢
    refine .inr ⟨g, 0, rfl, hg, fun j hj => ?_⟩
    rw [Nat.zero_add]
    have h2 := World.ownsRow.cells hc (g := g) rfl j (I (l.cells[j]?.getD 0)) (by rw [List.getElem?_map, List.getElem?_eq_getElem hj]; rfl)
    rw [addr_add] at h2
    exact h2
theorem vcode_tb (h : 0 ≤ iss ∧ iss < 16) (h0 : 0 < zs.length) (hz : ∀ z ∈ zs, 0 ≤ z ∧ z ≤ 255) (hl : zs.length ≤ 65536) : vCode (tbLt iss zs mac) 0 = 0 := by
  have h2 : ¬ 65536 < (tbLt iss zs mac).cells.length := Nat.not_lt.2 hl
  unfold vCode
  rw [if_neg (by rw [head_tb]; decide), if_neg (by rw [body_tb h h0 hz]; decide), if_neg h2]
  split <;> rfl
theorem valid17 (h : 0 ≤ iss ∧ iss < 16) (h0 : 0 < zs.length) (hz : ∀ z ∈ zs, 0 ≤ z ∧ z ≤ 255) (hl : zs.length ≤ 65536) (hm : mac.length = 32) (s : Sl) (w : World) (hi : IntsAt w w.heap.size s.C zs) :
    Calls Tryz.prog 19 #[.agg (ltVal (tbLt iss zs mac) s)] w (Gives (I 0) w) := by
  have hv := valid_nos (tbLt iss zs mac) s w ⟨Nat.zero_le _, Nat.zero_le _, Nat.zero_le _, hm, Nat.le_trans hl (by decide)⟩ hi head_tb (fun _ _ => by show (!(usesB 17 10) || _) = true; rw [show usesB 17 10 = false by decide]; rfl)
  rw [vcode_tb h h0 hz hl] at hv
  exact hv
theorem bytes17 (h : 0 ≤ iss ∧ iss < 16) (h0 : 0 < zs.length) (hz : ∀ z ∈ zs, 0 ≤ z ∧ z ≤ 255) (hl : zs.length ≤ 65536) (hm : mac.length = 32) (s : Sl) (w : World) (hi : IntsAt w w.heap.size s.C zs) :
    Calls Tryz.prog 8 #[.agg (ltVal (tbLt iss zs mac) s)] w (BytesPost w 0 (ltBytes (tbLt iss zs mac) [])) := by
  have f0 : fits 0 := by unfold fits; omega
  refine bytes_yes _ s [] w ⟨hm, hl, by simp, ?_, ?_, ?_, tbLt_num h, f0, f0, f0, f0, f0, f0, ?_, hi, fun w' hb => valid17 h h0 hz hl hm s w' ((hi.keep hb).more hb.size), fun hu => absurd (show usesB 17 10 = true from hu) (by decide)⟩
  · show fits 17
    unfold fits
    omega
  · show fits 1
    unfold fits
    omega
  · show fits 2
    unfold fits
    omega
  · intro j hj
    have hj2 : j < zs.length := hj
    have h3 := hz zs[j] (List.getElem_mem hj2)
    have e : (tbLt iss zs mac).cells[j]?.getD 0 = zs[j] := by show zs[j]?.getD 0 = _; rw [List.getElem?_eq_getElem hj2]; rfl
    rw [e]
    unfold fits
    omega
theorem read17 (h : 0 ≤ iss ∧ iss < 16) (h0 : 0 < zs.length) (hz : ∀ z ∈ zs, 0 ≤ z ∧ z ≤ 255) (hl : zs.length ≤ 65536) (hm : mac.length = 32) (A : Option Addr) (bs : List UInt8) (c : Nat) (w : World) (hbs : bs = ltBytes (tbLt iss zs mac) []) (hlc : bs.length ≤ c) (hc : c ≤ 9223372036854775807) (hby : BytesAt w w.heap.size A bs) (hn : A = none → c = 0) :
    Calls Tryz.prog 9 #[.slice A bs.length c] w (Ry7Post w (tbLt iss zs mac)) :=
  read_yes7 w A bs c (tbLt iss zs mac) [] hlc hc hby hn hbs (rd7_tb h hz hl hm) fun w' s hm' => by
    rw [hbs]
    exact bytes17 h h0 hz hl hm s w' hm'.ints
end
end Go.Proofs.YtoljoigbepdeiaaGreatDoor

/- letter.Same. -/
namespace Go.Proofs.YtoljoigbepdeiaaGreatDoor
open Go Go.RowKit

section
variable {P : Program} {ops : Array Oper} {Q : Exit → Act → World → Prop} {a : Act} {w : World} {rest : List Oper} {o o2 o3 o4 : Oper}
theorem setRow_alloc_old (w : World) (o : Obj) (g : Nat) (c : Array Value) (h : g < w.heap.size) : (w.alloc o).setRow g c = (w.setRow g c).alloc o := by
  simp only [World.setRow, World.alloc]
  congr 1
  apply Array.ext_getElem?
  intro i
  rw [Array.getElem?_modify, Array.getElem?_push, Array.getElem?_push, Array.getElem?_modify, Array.size_modify]
  by_cases h1 : i = w.heap.size
  · subst h1
    have : ¬ g = w.heap.size := by omega
    simp [this]
  · simp [h1]
theorem setRow_two (w : World) (c c' d d' : Array Value) (t : TypeId) :
    (((w.alloc (.cells c t)).alloc (.cells d t)).setRow w.heap.size c').setRow (w.heap.size + 1) d' = (w.alloc (.cells c' t)).alloc (.cells d' t) := by
  rw [setRow_alloc_old _ _ _ _ (by simp), World.setRow_alloc_new]
  have := World.setRow_alloc_new (w.alloc (.cells c' t)) d d' t
  rwa [World.size_alloc] at this
/-- 'x, y := u, v': two new variables, then both rows stored. -/
theorem wpList_var_two (hg : o.guard = none) (hg2 : o2.guard = none) (hg3 : o3.guard = none) (hg4 : o4.guard = none) (t : TypeId) (d d2 : Tmp) (y y2 : Operand) (ho : o.op = .alloc t) (hd : o.dst = some d) (ho2 : o2.op = .alloc t) (hd2 : o2.dst = some d2)
    (ho3 : o3.op = .store t (.tmp d) y) (hd3 : o3.dst = none) (ho4 : o4.op = .store t (.tmp d2) y2) (hd4 : o4.dst = none)
    (z : Array Value) (c c2 : Array Value) (hz : (P.info? t).map (fun i => (i.zero, i.size)) = some (some (.agg z), z.size)) (hzs : z.size = c.size) (hzs2 : z.size = c2.size)
    (a1 : Act) (ha1 : (a.put (some d) (.pointer (some ⟨w.heap.size, 0, none⟩))).put (some d2) (.pointer (some ⟨w.heap.size + 1, 0, none⟩)) = a1)
    (hx : a1.eval (.tmp d) = .pointer (some ⟨w.heap.size, 0, none⟩)) (hx2 : a1.eval (.tmp d2) = .pointer (some ⟨w.heap.size + 1, 0, none⟩))
    (hy : a1.eval y = .agg c) (hy2 : a1.eval y2 = .agg c2) (h1 : c.all (·.oneCell') = true) (h2 : c2.all (·.oneCell') = true)
    (h : wpList P ops Q rest a1 ((w.alloc (.cells c t)).alloc (.cells c2 t))) : wpList P ops Q (o :: o2 :: o3 :: o4 :: rest) a w := by
  have hi : (P.info? t).map (·.size) = some z.size := (zero_of_info hz).2
  refine wpList_plain hg fun K hK => ?_
  unfold Oper.wp execOp
  simp only [ho, Sem.run_bind, run_alloc_var w t (.agg z) _ hz, Result.andThen_ok]
  refine hK _ _ ?_
  refine wpList_plain hg2 fun K2 hK2 => ?_
  unfold Oper.wp execOp
  simp only [ho2, Sem.run_bind, run_alloc_var _ t (.agg z) _ hz, Result.andThen_ok]
  refine hK2 _ _ ?_
  rw [hd, hd2, World.size_alloc, ha1]
  refine wpList_store_row hg3 t _ y ho3 w.heap.size c hx hy t z (heap_alloc2_old w _ _) (by rw [hi, hzs]) hzs h1 ?_
  rw [hd3]
  refine wpList_store_row hg4 t _ y2 ho4 (w.heap.size + 1) c2 hx2 hy2 t z ((setRow_other _ _ _ _ (by omega)).trans (heap_alloc2_new w _ _)) (by rw [hi, hzs2]) hzs2 h2 ?_
  rw [hd4]
  show wpList P ops Q rest a1 _
  have e := setRow_two w z c z c2 t
  rw [show Value.cells (.agg z) = z from rfl, e]
  exact h
/-- A whole array loaded out of the middle of a block. -/
theorem wpList_load_at (hw : Region.wanted o (yielded ops a.tmps) = true) (ty : TypeId) (x : Operand) (ho : o.op = .load ty x) (g off : Nat) (hx : a.eval x = .pointer (some ⟨g, off, none⟩)) (cs : List Value) (hc : w.rangeAt g off cs)
    (d : TypeDesc) (hu : P.underlying ty = some d) (hd : d.isRow = true) (hi : (P.info? ty).map (·.size) = some cs.length)
    (h : wpList P ops Q rest (a.put o.dst (.agg cs.toArray)) w) : wpList P ops Q (o :: rest) a w := by
  unfold wpList
  rw [if_pos hw]
  exact .inl (wp_load_mid ty x ho g off hx cs d hc hu hd hi h)
end
/-- The letters and the two tables of addresses, as they lie. -/
structure SmIn (w : World) (a b : Array Value) (p : Nat) (w' : World) : Prop where
  ra : Row w' w.heap.size a
  rb : Row w' (w.heap.size + 1) b
  rp : Row w' p (numPtrs w.heap.size)
  rq : Row w' (p + 1) (numPtrs (w.heap.size + 1))
  lo : Below w.heap.size w w'
theorem SmIn.draw {w w' : World} {a b : Array Value} {p : Nat} (h : SmIn w a b p w') : SmIn w a b p w'.drew := ⟨h.ra, h.rb, h.rp, h.rq, h.lo.drew⟩
theorem SmIn.draws {w w' : World} {a b : Array Value} {p : Nat} (h : SmIn w a b p w') (n : Nat) : SmIn w a b p (w'.drewN n) := ⟨h.ra, h.rb, h.rp, h.rq, ⟨h.lo.os, h.lo.tape, h.lo.output, h.lo.size, h.lo.block⟩⟩
def numsEq (a b : Lt) : Bool := (List.range 17).all fun k => (numOff k).isNone || (numF a k == numF b k)
theorem numsEq_no {a b : Lt} {k : Nat} {o : Nat} (hk : k < 17) (ho : numOff k = some o) (h : (numF a k == numF b k) = false) : numsEq a b = false := by
  unfold numsEq
  rw [Bool.eq_false_iff]; intro h'; rw [List.all_eq_true] at h'
  have := h' k (List.mem_range.2 hk); rw [h, ho] at this; cases this
theorem numsEq_yes {a b : Lt} (h : ∀ k, k < 17 → ((numOff k).isNone || (numF a k == numF b k)) = true) : numsEq a b = true := by
  unfold numsEq
  rw [List.all_eq_true]; intro k hk; exact h k (List.mem_range.1 hk)
def SmRel (w : World) (la lb : Lt) (a b : Array Value) (p : Nat) (i : Value) (wr : World) : Prop :=
  ∃ k : Nat, k ≤ 17 ∧ i = .int .i64 k ∧ SmIn w a b p wr ∧ ∀ j, j < k → ((numOff j).isNone || (numF la j == numF lb j)) = true
def moveEq (x y : Mv) : Bool := decide (x.day = y.day) && (x.drop == y.drop) && decide (x.toDay = y.toDay) && decide (x.minute = y.minute) && decide (x.length = y.length)
def headEq (a b : Lt) : Bool := (a.kind == b.kind) && (a.src == b.src) && (a.dst == b.dst) && moveEq a.move b.move && (decide (a.wfrom = b.wfrom) && decide (a.wto = b.wto)) && (a.ref == b.ref)
def serEq (a b : Ser) : Bool := (a.minute == b.minute) && (a.length == b.length) && (a.zone.toList == b.zone.toList) && (a.gap == b.gap) && (a.fold == b.fold)
theorem ptrs_zero : (Tryz.prog.info? 88).map (fun i => (i.zero, i.size)) = some (some (.agg (Array.replicate 17 (.pointer none))), (Array.replicate 17 (Value.pointer none)).size) := by kernel_rfl
theorem sm_start {w w2 : World} {a b : Array Value} (t : TypeId) (ha : Row w2 w.heap.size a) (hb : Row w2 (w.heap.size + 1) b) (hlo : Below w.heap.size w w2) :
    SmIn w a b w2.heap.size ((w2.alloc (.cells (numPtrs w.heap.size) t)).alloc (.cells (numPtrs (w.heap.size + 1)) t)) := by
  have h1 := below_var w2 (.cells (numPtrs w.heap.size) t)
  have h2 := below_var (w2.alloc (.cells (numPtrs w.heap.size) t)) (.cells (numPtrs (w.heap.size + 1)) t)
  exact ⟨(ha.keep h1).keep h2, (hb.keep h1).keep h2, (Row.new w2 _ t).keep h2, by have := Row.new (w2.alloc (.cells (numPtrs w.heap.size) t)) (numPtrs (w.heap.size + 1)) t; rwa [World.size_alloc] at this, below_trans (below_trans hlo h1) h2⟩
theorem neq_digest (r r' : List UInt8) (h : r.length = 32) (h' : r'.length = 32) (w : World) :
    (binOp .neq 23 (.agg (refCells r).toArray) (.agg (refCells r').toArray)).run Tryz.prog w = .ok (.bool (!(r == r'))) w := by
  unfold refCells
  rw [run_neq_struct, run_equalIn_bytes w 9998 23 5 32 Tryz.underlying23 Tryz.underlying5 (fun w => size_u8 w) r r' h h']
  rfl
theorem neq_move (d t n l d' t' n' l' : Int) (b b' : Bool) (W : World) :
    (binOp .neq 48 (.agg #[I d, .bool b, I t, I n, I l]) (.agg #[I d', .bool b', I t', I n', I l'])).run Tryz.prog W =
      .ok (.bool (!(decide (d = d') && (b == b') && decide (t = t') && decide (n = n') && decide (l = l')))) W := by
  by_cases h1 : d = d' <;> by_cases h2 : b = b' <;> by_cases h3 : t = t' <;> by_cases h4 : n = n' <;> by_cases h5 : l = l'
  all_goals simp [go_sem, h1, h2, h3, h4, h5]
theorem neq_span (a b a' b' : Int) (W : World) :
    (binOp .neq 55 (.agg #[I a, I b]) (.agg #[I a', I b'])).run Tryz.prog W = .ok (.bool (!(decide (a = a') && decide (b = b')))) W := by
  by_cases h1 : a = a' <;> by_cases h2 : b = b'
  all_goals simp [go_sem, h1, h2]
theorem two_rows (w : World) (X Y : Array Value) (t : TypeId) : Row ((w.alloc (.cells X t)).alloc (.cells Y t)).drew w.heap.size X ∧ Row ((w.alloc (.cells X t)).alloc (.cells Y t)).drew (w.heap.size + 1) Y ∧ Below w.heap.size w ((w.alloc (.cells X t)).alloc (.cells Y t)).drew := by
  have h2 := below_var (w.alloc (.cells X t)) (.cells Y t)
  have hY := Row.new (w.alloc (.cells X t)) Y t
  rw [World.size_alloc] at hY
  exact ⟨(Row.new w X t).keep h2.drew, hY, (below_trans (below_var w (.cells X t)) h2).drew⟩
/-- Behind the two copies of the series. -/
def SmCut (w : World) (a b : Lt) (s t : Sl) (p q x y : Value) (wx : World) : Prop :=
  p = pt w.heap.size ∧ q = pt (w.heap.size + 1) ∧ ∃ g h, x = pt g ∧ y = pt h ∧ Row wx w.heap.size (ltVal a s) ∧ Row wx (w.heap.size + 1) (ltVal b t) ∧
    Row wx g (serCells a.series (.slice s.A a.series.rule.length s.c) (.slice s.B a.series.moves.length s.d)) ∧ Row wx h (serCells b.series (.slice t.A b.series.rule.length t.c) (.slice t.B b.series.moves.length t.d)) ∧ Below w.heap.size w wx
attribute [local go_sem] ltVal_get lt_get0 lt_get1 lt_get2 lt_get12 lt_get13 lt_get14 lt_get15 lt_get16 lt_get17 lt_get18 lt_get19 lt_get20 lt_get21 lt_get22 lt_get23 lt_get27 lt_get28 lt_get29
set_option maxRecDepth 10000 in
set_option maxHeartbeats 4000000 in
theorem same_any (a b : Lt) (s t : Sl) (w : World) (ha : LtOK a) (hb : LtOK b) (cq mq rq : Bool)
    (hc : ∀ w', Below w.heap.size w w' → Calls Tryz.prog 43 #[.slice s.C a.cells.length s.e, .slice t.C b.cells.length t.e] w' (Gives (.bool cq) w'))
    (hm : ∀ w', Below w.heap.size w w' → Calls Tryz.prog 44 #[.slice s.B a.series.moves.length s.d, .slice t.B b.series.moves.length t.d] w' (Gives (.bool mq) w'))
    (hr : ∀ w', Below w.heap.size w w' → Calls Tryz.prog 45 #[.slice s.A a.series.rule.length s.c, .slice t.A b.series.rule.length t.c, .func (.func 46) #[] #[]] w' (Gives (.bool rq) w')) :
    Calls Tryz.prog 18 #[.agg (ltVal a s), .agg (ltVal b t)] w (Gives (.bool (numsEq a b && headEq a b && serEq a.series b.series && (cq && mq && rq))) w) := by
  have HRA := Lib.hid ((Row.new w (ltVal a s) 57).keep (below_var _ (.cells (ltVal b t) 57)))
  have HRB : Hid (Row ((w.alloc (.cells (ltVal a s) 57)).alloc (.cells (ltVal b t) 57)) (w.heap.size + 1) (ltVal b t)) := Lib.hid (by have := Row.new (w.alloc (.cells (ltVal a s) 57)) (ltVal b t) 57; rwa [World.size_alloc] at this)
  have HB0 := Lib.hid (below_trans (below_var w (.cells (ltVal a s) 57)) (below_var _ (.cells (ltVal b t) 57)))
  have HC := Lib.hid hc
  have HM := Lib.hid hm
  have HR := Lib.hid hr
  have HA := Lib.hid ha
  have HB := Lib.hid hb
  clear hc hm hr ha hb
  go_enter Tryz.func18, Tryz.ntmps18
  go_wp2_with fail
  refine (numbers_any w.heap.size _).mono ?_
  rintro e w1 ⟨rfl, hb1⟩
  have HRA1 := Lib.hid (HRA.out.keep hb1)
  have HRB1 := Lib.hid (HRB.out.keep hb1)
  have HB1 := Lib.hid (below_trans HB0.out hb1)
  clear hb1
  go_wp2_with fail
  refine (numbers_any (w.heap.size + 1) _).mono ?_
  rintro e w2 ⟨rfl, hb2⟩
  have HRA2 := Lib.hid (HRA1.out.keep hb2)
  have HRB2 := Lib.hid (HRB1.out.keep hb2)
  have HB2 := Lib.hid (below_trans HB1.out hb2)
  clear hb2
  go_wp2_with (refine wpList_var_two rfl rfl rfl rfl _ _ _ _ _ rfl rfl rfl rfl rfl rfl rfl rfl (Array.replicate 17 (.pointer none)) (numPtrs w.heap.size) (numPtrs (w.heap.size + 1)) ptrs_zero rfl rfl _ rfl (by kernel_rfl) (by kernel_rfl) (by kernel_rfl) (by kernel_rfl) (numPtrs_one _) (numPtrs_one _) ?_)
  go_loopw [12] (fun i wr => SmRel w a b (ltVal a s) (ltVal b t) w2.heap.size i wr) (fun i _ => 17 - (intOf i).toNat)
  case atStart => exact ⟨0, by omega, rfl, sm_start _ HRA2.out HRB2.out HB2.out, fun j hj => absurd hj (by omega)⟩
  case round =>
    obtain ⟨k, hk, rfl, hs1, hall⟩ := hrel
    have HS := Lib.hid hs1
    have HALL := Lib.hid hall
    have hra := hs1.ra.2
    have hrb := hs1.rb.2
    clear hs1 hall HRA HRB HB0 HRA1 HRB1 HB1 HRA2 HRB2 HB2
    obtain ⟨p, hpe⟩ : ∃ p, w2.heap.size = p := ⟨_, rfl⟩
    rw [hpe] at HS ⊢
    clear hpe
    by_cases hlt : k < 17
    · have hltI : (k : Int) < 17 := by omega
      cases ho : numOff k with
      | none =>
        have hp : wr.cell? ⟨p, k, none⟩ = some (.pointer none) := (HS.out.rp.2 k).trans ((numPtrs_at _ k hlt).trans (by unfold ptrAt; rw [ho]))
        have HO := Lib.hid ho
        clear ho hra hrb
        go_wp2_with fail
        go_quiet (fail)
        go_wp2
        go_roundw
        case rel => exact ⟨k + 1, by omega, by go_num, HS.out.draws _, fun j hj => by
          rcases Nat.lt_succ_iff_lt_or_eq.1 hj with h | h
          · exact HALL.out j h
          · subst h; rw [HO.out]; rfl⟩
        case measure => simp [intOf]; omega
      | some o =>
        have hp : wr.cell? ⟨p, k, none⟩ = some (.pointer (some ⟨w.heap.size, o, none⟩)) := (HS.out.rp.2 k).trans ((numPtrs_at _ k hlt).trans (by unfold ptrAt; rw [ho]; rfl))
        have hq : wr.cell? ⟨p + 1, k, none⟩ = some (.pointer (some ⟨w.heap.size + 1, o, none⟩)) := (HS.out.rq.2 k).trans ((numPtrs_at _ k hlt).trans (by unfold ptrAt; rw [ho]; rfl))
        have hx : wr.cell? ⟨w.heap.size, o, none⟩ = some (I (numF a k)) := (hra o).trans (lt_num a _ _ _ k o hlt ho)
        have hy : wr.cell? ⟨w.heap.size + 1, o, none⟩ = some (I (numF b k)) := (hrb o).trans (lt_num b _ _ _ k o hlt ho)
        clear hra hrb
        have HO := Lib.hid ho
        clear ho
        cases hd : (numF a k == numF b k)
        · have HD := Lib.hid hd
          obtain ⟨x, hx0⟩ : ∃ x, numF a k = x := ⟨_, rfl⟩
          obtain ⟨y, hy0⟩ : ∃ x, numF b k = x := ⟨_, rfl⟩
          rw [hx0] at hx hd
          rw [hy0] at hy hd
          clear hx0 hy0
          go_wp2_with fail
          go_quiet (fail)
          go_wp2
          go_ret
          exact ⟨by rw [numsEq_no hlt HO.out HD.out]; rfl, (HS.out.draws _).lo⟩
        · have HD := Lib.hid hd
          obtain ⟨x, hx0⟩ : ∃ x, numF a k = x := ⟨_, rfl⟩
          obtain ⟨y, hy0⟩ : ∃ x, numF b k = x := ⟨_, rfl⟩
          rw [hx0] at hx hd
          rw [hy0] at hy hd
          clear hx0 hy0
          go_wp2_with fail
          go_quiet (fail)
          go_wp2
          go_roundw
          case rel => exact ⟨k + 1, by omega, by go_num, HS.out.draws _, fun j hj => by
            rcases Nat.lt_succ_iff_lt_or_eq.1 hj with h | h
            · exact HALL.out j h
            · subst h; rw [HD.out, Bool.or_true]⟩
          case measure => simp [intOf]; omega
    · have hke : k = 17 := by omega
      subst hke
      have HNE : Hid (numsEq a b = true) := Lib.hid (numsEq_yes HALL.out)
      have HRWA := Lib.hid HS.out.ra
      have HRWB := Lib.hid HS.out.rb
      have HLO := Lib.hid HS.out.lo
      have hl1 := HRWA.out.1
      have hl2 := HRWB.out.1
      clear hlt hk HALL HS
      go_upto_region 8 with fail
      go_cut [2, 3, 8, 9] (fun p q x y wx => SmCut w a b s t p q x y wx)
      case first =>
        go_region
        · have h2 := Lib.hid (two_rows wr (serCells a.series (.slice s.A a.series.rule.length s.c) (.slice s.B a.series.moves.length s.d)) (serCells b.series (.slice t.A b.series.rule.length t.c) (.slice t.B b.series.moves.length t.d)) 53)
          go_wp2_with fail
          go_meet
          exact ⟨rfl, rfl, _, _, rfl, rfl, HRWA.out.keep h2.out.2.2, HRWB.out.keep h2.out.2.2, h2.out.1, h2.out.2.1, below_trans HLO.out h2.out.2.2⟩
        · have h2 := Lib.hid (two_rows wr (serCells b.series (.slice t.A b.series.rule.length t.c) (.slice t.B b.series.moves.length t.d)) (serCells a.series (.slice s.A a.series.rule.length s.c) (.slice s.B a.series.moves.length s.d)) 53)
          go_wp2_with fail
          go_meet
          exact ⟨rfl, rfl, _, _, rfl, rfl, HRWA.out.keep h2.out.2.2, HRWB.out.keep h2.out.2.2, h2.out.2.1, h2.out.1, below_trans HLO.out h2.out.2.2⟩
      case rest =>
        obtain ⟨rfl, rfl, g, h, rfl, rfl, hca, hcb, hcg, hch, hlo⟩ := hcut
        clear hra hrb hl1 hl2 HRWA HRWB HLO
        have HLO := Lib.hid hlo
        have hra := hca.2
        have hrb := hcb.2
        have hrg : ∀ i, wc.cell? ⟨g, i, none⟩ = (#[.slice s.A a.series.rule.length s.c, I a.series.minute, I a.series.length, .string a.series.zone, I a.series.gap, I a.series.fold, .slice s.B a.series.moves.length s.d] : Array Value)[i]? := hcg.2
        have hrh : ∀ i, wc.cell? ⟨h, i, none⟩ = (#[.slice t.A b.series.rule.length t.c, I b.series.minute, I b.series.length, .string b.series.zone, I b.series.gap, I b.series.fold, .slice t.B b.series.moves.length t.d] : Array Value)[i]? := hch.2
        have hda : wc.rangeAt w.heap.size 30 (refCells a.ref) := fun j v hv => (hra (30 + j)).trans ((lt_getRef a _ _ _ j).trans hv)
        have hdb : wc.rangeAt (w.heap.size + 1) 30 (refCells b.ref) := fun j v hv => (hrb (30 + j)).trans ((lt_getRef b _ _ _ j).trans hv)
        have h32a : (refCells a.ref).length = 32 := by simp [refCells, HA.out.ref]
        have h32b : (refCells b.ref).length = 32 := by simp [refCells, HB.out.ref]
        have HDIA : Hid ((Tryz.prog.info? 23).map (·.size) = some (refCells a.ref).length) := Lib.hid (by rw [h32a]; kernel_rfl)
        have HDIB : Hid ((Tryz.prog.info? 23).map (·.size) = some (refCells b.ref).length) := Lib.hid (by rw [h32b]; kernel_rfl)
        have heqd := fun W => neq_digest a.ref b.ref HA.out.ref HB.out.ref W
        have heqm : ∀ W, (binOp .neq 48 (.agg #[I a.move.day, .bool a.move.drop, I a.move.toDay, I a.move.minute, I a.move.length]) (.agg #[I b.move.day, .bool b.move.drop, I b.move.toDay, I b.move.minute, I b.move.length])).run Tryz.prog W = .ok (.bool (!(moveEq a.move b.move))) W := fun W => neq_move a.move.day a.move.toDay a.move.minute a.move.length b.move.day b.move.toDay b.move.minute b.move.length a.move.drop b.move.drop W
        have heqw := fun W => neq_span a.wfrom a.wto b.wfrom b.wto W
        have HDA := Lib.hid hda
        have HDB := Lib.hid hdb
        have hlg := hcg.1
        have hlh := hch.1
        clear hca hcb hcg hch hlo hda hdb h32a h32b
        obtain ⟨q0, h0⟩ : ∃ q, (a.kind == b.kind) = q := ⟨_, rfl⟩
        obtain ⟨q1, h1⟩ : ∃ q, (a.src == b.src) = q := ⟨_, rfl⟩
        obtain ⟨q2, h2⟩ : ∃ q, (a.dst == b.dst) = q := ⟨_, rfl⟩
        obtain ⟨q3, h3⟩ : ∃ q, moveEq a.move b.move = q := ⟨_, rfl⟩
        obtain ⟨q4, h4⟩ : ∃ q, (decide (a.wfrom = b.wfrom) && decide (a.wto = b.wto)) = q := ⟨_, rfl⟩
        obtain ⟨q5, h5⟩ : ∃ q, (a.ref == b.ref) = q := ⟨_, rfl⟩
        obtain ⟨q6, h6⟩ : ∃ q, (a.series.minute == b.series.minute) = q := ⟨_, rfl⟩
        obtain ⟨q7, h7⟩ : ∃ q, (a.series.length == b.series.length) = q := ⟨_, rfl⟩
        obtain ⟨q8, h8⟩ : ∃ q, (a.series.zone.toList == b.series.zone.toList) = q := ⟨_, rfl⟩
        obtain ⟨q9, h9⟩ : ∃ q, (a.series.gap == b.series.gap) = q := ⟨_, rfl⟩
        obtain ⟨q10, h10⟩ : ∃ q, (a.series.fold == b.series.fold) = q := ⟨_, rfl⟩
        have HE : Hid (headEq a b = (q0 && q1 && q2 && q3 && q4 && q5)) := Lib.hid (by unfold headEq; rw [h0, h1, h2, h3, h4, h5])
        have HSE : Hid (serEq a.series b.series = (q6 && q7 && q8 && q9 && q10)) := Lib.hid (by unfold serEq; rw [h6, h7, h8, h9, h10])
        rw [h3] at heqm
        rw [h4] at heqw
        rw [h5] at heqd
        clear h3 h4 h5
        cases q0
        · go_wp2_with fail
          go_ret
          exact ⟨by rw [HE.out, HSE.out]; simp, HLO.out⟩
        go_upto_region 10 with fail
        cases q1
        · go_wp2_with fail
          go_ret
          exact ⟨by rw [HE.out, HSE.out]; simp, HLO.out⟩
        go_upto_region 11 with fail
        cases q2
        · go_wp2_with fail
          go_ret
          exact ⟨by rw [HE.out, HSE.out]; simp, HLO.out⟩
        go_upto_region 12 with fail
        cases q3
        · go_wp2_with fail
          go_ret
          exact ⟨by rw [HE.out, HSE.out]; simp, HLO.out⟩
        go_upto_region 13 with fail
        cases q4
        · go_wp2_with fail
          go_ret
          exact ⟨by rw [HE.out, HSE.out]; simp, HLO.out⟩
        go_upto_region 14 with fail
        cases q5
        · go_wp2_with (first
            | (refine wpList_load_at rfl _ _ rfl w.heap.size 30 rfl (refCells a.ref) HDA.out _ Tryz.underlying23 rfl HDIA.out ?_)
            | (refine wpList_load_at rfl _ _ rfl (w.heap.size + 1) 30 rfl (refCells b.ref) HDB.out _ Tryz.underlying23 rfl HDIB.out ?_))
          go_ret
          exact ⟨by rw [HE.out, HSE.out]; simp, HLO.out⟩
        go_upto_region 16 with (first
            | (refine wpList_load_at rfl _ _ rfl w.heap.size 30 rfl (refCells a.ref) HDA.out _ Tryz.underlying23 rfl HDIA.out ?_)
            | (refine wpList_load_at rfl _ _ rfl (w.heap.size + 1) 30 rfl (refCells b.ref) HDB.out _ Tryz.underlying23 rfl HDIB.out ?_))
        cases q6
        · go_wp2_with fail
          go_ret
          exact ⟨by rw [HE.out, HSE.out]; simp, HLO.out⟩
        go_upto_region 17 with fail
        cases q7
        · go_wp2_with fail
          go_ret
          exact ⟨by rw [HE.out, HSE.out]; simp, HLO.out⟩
        go_upto_region 18 with fail
        cases q8
        · go_wp2_with fail
          go_ret
          exact ⟨by rw [HE.out, HSE.out]; simp, HLO.out⟩
        go_upto_region 19 with fail
        cases q9
        · go_wp2_with fail
          go_ret
          exact ⟨by rw [HE.out, HSE.out]; simp, HLO.out⟩
        go_upto_region 20 with fail
        cases q10
        · go_wp2_with fail
          go_ret
          exact ⟨by rw [HE.out, HSE.out]; simp, HLO.out⟩
        go_upto_region 22 with fail
        cases cq
        · go_wp2_with (go_at_call 43; refine (HC.out _ HLO.out).mono ?_; rintro e w5 ⟨rfl, hb5⟩; have HB5 := Lib.hid (below_trans HLO.out hb5); clear hb5)
          go_ret
          exact ⟨by simp, HB5.out⟩
        cases mq
        · go_wp2_with (first
            | (go_at_call 43; refine (HC.out _ HLO.out).mono ?_; rintro e w5 ⟨rfl, hb5⟩; have HB5 := Lib.hid (below_trans HLO.out hb5); have hg5 := (Row.keep ⟨hlg, hrg⟩ hb5).2; have hh5 := (Row.keep ⟨hlh, hrh⟩ hb5).2; clear hb5)
            | (go_at_call 44; refine (HM.out _ HB5.out).mono ?_; rintro e w6 ⟨rfl, hb6⟩; have HB6 := Lib.hid (below_trans HB5.out hb6); clear hb6))
          go_ret
          exact ⟨by simp, HB6.out⟩
        go_wp2_with (first
          | (go_at_call 43; refine (HC.out _ HLO.out).mono ?_; rintro e w5 ⟨rfl, hb5⟩; have HB5 := Lib.hid (below_trans HLO.out hb5); have hg5 := (Row.keep ⟨hlg, hrg⟩ hb5).2; have hh5 := (Row.keep ⟨hlh, hrh⟩ hb5).2; have hlg5 := Nat.lt_of_lt_of_le hlg hb5.size; have hlh5 := Nat.lt_of_lt_of_le hlh hb5.size; clear hb5)
          | (go_at_call 44; refine (HM.out _ HB5.out).mono ?_; rintro e w6 ⟨rfl, hb6⟩; have HB6 := Lib.hid (below_trans HB5.out hb6); have hg6 := (Row.keep ⟨hlg5, hg5⟩ hb6).2; have hh6 := (Row.keep ⟨hlh5, hh5⟩ hb6).2; clear hb6)
          | (go_at_call 45; refine (HR.out _ HB6.out).mono ?_; rintro e w7 ⟨rfl, hb7⟩; have HB7 := Lib.hid (below_trans HB6.out hb7); clear hb7))
        go_ret
        exact ⟨by rw [HNE.out, HE.out, HSE.out]; rfl, HB7.out⟩
end Go.Proofs.YtoljoigbepdeiaaGreatDoor

/- Contracts at the letters of the law's fixed examples. -/
namespace Go.Proofs.YtoljoigbepdeiaaGreatDoor
open Go Go.RowKit

set_option maxRecDepth 10000 in
set_option maxHeartbeats 400000 in
theorem eqInts_zero (A B : Option Addr) (c d : Nat) (w : World) : Calls Tryz.prog 43 #[.slice A 0 c, .slice B 0 d] w (Gives (.bool true) w) := by
  go_enter Tryz.func43, Tryz.ntmps43
  go_wp2
  go_loopw [13] (fun i wr => i = I 0 ∧ wr = w) (fun _ _ => 0)
  case atStart => exact ⟨rfl, rfl⟩
  case round =>
    obtain ⟨rfl, rfl⟩ := hrel
    go_wp2
    go_ret
    exact ⟨rfl, Below.refl _ _⟩
set_option maxRecDepth 10000 in
set_option maxHeartbeats 400000 in
theorem eqMoves_zero (A B : Option Addr) (c d : Nat) (w : World) : Calls Tryz.prog 44 #[.slice A 0 c, .slice B 0 d] w (Gives (.bool true) w) := by
  go_enter Tryz.func44, Tryz.ntmps44
  go_wp2
  go_loopw [13] (fun i wr => i = I 0 ∧ wr = w) (fun _ _ => 0)
  case atStart => exact ⟨rfl, rfl⟩
  case round =>
    obtain ⟨rfl, rfl⟩ := hrel
    go_wp2
    go_ret
    exact ⟨rfl, Below.refl _ _⟩
set_option maxRecDepth 10000 in
set_option maxHeartbeats 400000 in
theorem eqNodes_zero (A B : Option Addr) (c d : Nat) (f : Value) (w : World) : Calls Tryz.prog 45 #[.slice A 0 c, .slice B 0 d, f] w (Gives (.bool true) w) := by
  go_enter Tryz.func45, Tryz.ntmps45
  go_wp2
  go_loopw [17] (fun i wr => i = I 0 ∧ wr = w) (fun _ _ => 0)
  case atStart => exact ⟨rfl, rfl⟩
  case round =>
    obtain ⟨rfl, rfl⟩ := hrel
    go_wp2
    go_ret
    exact ⟨rfl, Below.refl _ _⟩

/-- A letter without lists. -/
structure Bare (l : Lt) : Prop where
  rule : l.series.rule = []
  moves : l.series.moves = []
  zone : l.series.zone.size = 0
  cells : l.cells = []
  ref : l.ref.length = 32
theorem Bare.ok {l : Lt} (h : Bare l) : LtOK l := ⟨by rw [h.rule]; simp, by rw [h.moves]; simp, by rw [h.zone]; simp, h.ref, by rw [h.cells]; simp⟩
theorem same_bare (a b : Lt) (s t : Sl) (w : World) (ha : Bare a) (hb : Bare b) : Calls Tryz.prog 18 #[.agg (ltVal a s), .agg (ltVal b t)] w (Gives (.bool (numsEq a b && headEq a b && serEq a.series b.series)) w) := by
  have := same_any a b s t w ha.ok hb.ok true true true (fun w' _ => by rw [ha.cells, hb.cells]; exact eqInts_zero _ _ _ _ _) (fun w' _ => by rw [ha.moves, hb.moves]; exact eqMoves_zero _ _ _ _ _) (fun w' _ => by rw [ha.rule, hb.rule]; exact eqNodes_zero _ _ _ _ _ _)
  simpa using this
theorem valid_at (l : Lt) (s : Sl) (w : World) (c : Int) (hok : LtOK l) (hi : IntsAt w w.heap.size s.C l.cells) (hh : headOK l = true) (hn : noSerB l = true) (hc : vCode l 0 = c) : Calls Tryz.prog 19 #[.agg (ltVal l s)] w (Gives (I c) w) := by
  have := valid_nos l s w hok hi hh (fun _ _ => hn)
  rwa [hc] at this
def fitsB (n : Int) : Bool := decide (-9223372036854775808 ≤ n) && decide (n ≤ 9223372036854775807)
theorem fits_of {n : Int} (h : fitsB n = true) : fits n := by
  unfold fitsB at h
  rw [Bool.and_eq_true] at h
  exact ⟨of_decide_eq_true h.1, of_decide_eq_true h.2⟩
def allFit (l : Lt) : Bool := fitsB l.kind && fitsB l.src && fitsB l.dst && (List.range 17).all (fun k => fitsB (numF l k)) && fitsB l.move.day && fitsB l.move.toDay && fitsB l.move.minute && fitsB l.move.length && fitsB l.wfrom && fitsB l.wto
theorem bytes_bare (l : Lt) (s : Sl) (w : World) (h : Bare l) (hf : allFit l = true) (hh : headOK l = true) (hn : noSerB l = true) (hu : usesB l.kind 10 = false) (hc : vCode l 0 = 0) :
    Calls Tryz.prog 8 #[.agg (ltVal l s)] w (BytesPost w 0 (ltBytes l [])) := by
  unfold allFit at hf
  simp only [Bool.and_eq_true] at hf
  obtain ⟨⟨⟨⟨⟨⟨⟨⟨⟨h1, h2⟩, h3⟩, h4⟩, h5⟩, h6⟩, h7⟩, h8⟩, h9⟩, h10⟩ := hf
  rw [List.all_eq_true] at h4
  exact bytes_yes l s [] w { ref := h.ref, cells := by rw [h.cells]; simp, sbl := by simp, kind := fits_of h1, src := fits_of h2, dst := fits_of h3, num := fun k hk => fits_of (h4 k (List.mem_range.2 hk)), mday := fits_of h5, mto := fits_of h6, mmin := fits_of h7, mlen := fits_of h8, wfrom := fits_of h9, wto := fits_of h10, fit := fun j hj => by rw [h.cells] at hj; exact absurd hj (by simp), ints := .inl (by rw [h.cells]; rfl), valid := fun w' _ => valid_at l s w' 0 h.ok (.inl (by rw [h.cells]; rfl)) hh hn hc, ser := fun e => by rw [hu] at e; cases e }

def plainLt : Lt := { zLt with kind := 2, src := 1, dst := 0, meeting := 5, edition := 1, person := 17 }
def ackLt : Lt := { zLt with kind := 18, dst := 3, meeting := 258 }
def askLt : Lt := { zLt with kind := 15, dst := 1, person := 2, other := 3, grain := 2, wfrom := -1, wto := 1440 }
def wrongLt : Lt := { askLt with meeting := 1 }
def coarseLt : Lt := { askLt with grain := 0 }
def holdLt : Lt := { zLt with kind := 8, dst := 1, meeting := 4, deadline := 90, cells := [1, 2] }
def fullLt : Lt := { holdLt with state := 1 }
def endLt : Lt := { zLt with kind := 7, dst := 1, meeting := 4, edition := 1 }
def laterLt : Lt := { endLt with edition := 2 }
def wantB : List UInt8 := [2, 1, 0, 5, 0, 0, 0, 0, 0, 0, 0, 1, 0, 0, 0, 0, 0, 0, 0, 17, 0, 0, 0, 0, 0, 0, 0]
theorem bare_plain : Bare plainLt := ⟨rfl, rfl, rfl, rfl, rfl⟩
theorem bare_ack : Bare ackLt := ⟨rfl, rfl, rfl, rfl, rfl⟩
theorem bare_ask : Bare askLt := ⟨rfl, rfl, rfl, rfl, rfl⟩
theorem bare_end : Bare endLt := ⟨rfl, rfl, rfl, rfl, rfl⟩
theorem bare_later : Bare laterLt := ⟨rfl, rfl, rfl, rfl, rfl⟩
theorem plain_bytes : ltBytes plainLt [] = wantB := by kernel_rfl
theorem c_plain : vCode plainLt 0 = 0 := by kernel_rfl
theorem c_ack : vCode ackLt 0 = 0 := by kernel_rfl
theorem c_ask : vCode askLt 0 = 0 := by kernel_rfl
theorem c_wrong : vCode wrongLt 0 = 1 := by kernel_rfl
theorem c_coarse : vCode coarseLt 0 = 1 := by kernel_rfl
theorem c_hold : vCode holdLt 0 = 0 := by kernel_rfl
theorem c_full : vCode fullLt 0 = 1 := by kernel_rfl
theorem c_end : vCode endLt 0 = 1 := by kernel_rfl
theorem c_later : vCode laterLt 0 = 0 := by kernel_rfl
theorem rd_want : rdTo (rdHead wantB) 17 = ⟨plainLt, [], false⟩ := by kernel_rfl
theorem rd_short : rdOK (rdTo (rdHead (wantB.take 26)) 17) = false := by kernel_rfl
end Go.Proofs.YtoljoigbepdeiaaGreatDoor

/- letter.Name returns the name of a kind; no condition. -/
namespace Go.Proofs.YtoljoigbepdeiaaGreatDoor
open Go Go.RowKit

def kindNames : List (List UInt8) := [[], [105, 110, 118, 105, 116, 101], [97, 99, 99, 101, 112, 116], [100, 101, 99, 108, 105, 110, 101], [99, 111, 117, 110, 116, 101, 114], [100, 101, 108, 101, 103, 97, 116, 101], [99, 104, 97, 110, 103, 101], [119, 105, 116, 104, 100, 114, 97, 119], [104, 111, 108, 100], [103, 114, 97, 110, 116], [114, 101, 102, 117, 115, 101], [99, 111, 109, 109, 105, 116], [97, 98, 111, 114, 116], [105, 110, 113, 117, 105, 114, 101], [115, 116, 97, 116, 101], [97, 115, 107], [97, 110, 115, 119, 101, 114], [116, 97, 98, 108, 101], [97, 99, 107]]
def nameOf (k : Int) : ByteArray := ⟨((kindNames[k.toNat]?).getD []).toArray⟩
def nameCells : Array Value := (kindNames.map fun l => Value.string ⟨l.toArray⟩).toArray
theorem nameCells_at (k : Int) (h0 : 0 ≤ k) (h : k < 19) : nameCells[k.toNat]? = some (.string (nameOf k)) := by
  obtain ⟨n, rfl⟩ := Int.eq_ofNat_of_zero_le h0
  have hn : n < 19 := by omega
  have : n < kindNames.length := hn
  simp [nameCells, nameOf, this]
theorem nameCells_size : nameCells.size = 19 := rfl
theorem nameCells_one : nameCells.all (·.oneCell') = true := by decide +kernel

def Named (k : Int) (w : World) (e : Ending) (w' : World) : Prop := e = .returned (.string (if 0 ≤ k ∧ k < 19 then nameOf k else ⟨#[]⟩)) ∧ w' = w.alloc (.cells nameCells 114)

theorem name_info : (Tryz.prog.info? 114).map (fun i => (i.zero, i.size)) = some (some (.agg (Array.replicate 19 (.string ⟨#[]⟩))), nameCells.size) := by kernel_rfl

set_option maxRecDepth 10000 in
set_option maxHeartbeats 400000 in
theorem name_any (k : Int) (w : World) : Calls Tryz.prog 20 #[.int .i64 k] w (Named k w) := by
  by_cases h1 : k < 0
  · go_enter Tryz.func20, Tryz.ntmps20
    go_wp2_with (first | (refine wpList_build_as rfl _ rfl nameCells (by kernel_rfl) ?_) | (refine wpList_var_row rfl rfl _ _ _ rfl rfl rfl rfl _ nameCells name_info rfl rfl rfl nameCells_one ?_))
    go_ret
    exact ⟨by rw [if_neg (by omega)]; rfl, rfl⟩
  by_cases h2 : 19 ≤ k
  · go_enter Tryz.func20, Tryz.ntmps20
    go_wp2_with (first | (refine wpList_build_as rfl _ rfl nameCells (by kernel_rfl) ?_) | (refine wpList_var_row rfl rfl _ _ _ rfl rfl rfl rfl _ nameCells name_info rfl rfl rfl nameCells_one ?_))
    go_ret
    exact ⟨by rw [if_neg (by omega)]; rfl, rfl⟩
  have h3 := nameCells_at k (by omega) (by omega)
  go_enter Tryz.func20, Tryz.ntmps20
  go_wp2_with (first | (refine wpList_build_as rfl _ rfl nameCells (by kernel_rfl) ?_) | (refine wpList_var_row rfl rfl _ _ _ rfl rfl rfl rfl _ nameCells name_info rfl rfl rfl nameCells_one ?_))
  go_ret
  exact ⟨by rw [if_pos (by omega)]; rfl, rfl⟩
end Go.Proofs.YtoljoigbepdeiaaGreatDoor

/- The law's fixed examples: the calls that they make. -/
namespace Go.Proofs.YtoljoigbepdeiaaGreatDoor
open Go Go.RowKit

theorem bytesAt_len {w : World} {B : Nat} {A : Option Addr} {bs : List UInt8} (h : BytesAt w B A bs) (h0 : bs.length ≠ 0) : ∃ b off, A = some ⟨b, off, none⟩ ∧ b < B ∧ ∀ j, j < bs.length → w.cell? ⟨b, off + j, none⟩ = some (Extern.Stop.cell (bs[j]?.getD 0)) := by
  rcases h with h | h
  · exact absurd h h0
  · exact h
set_option maxRecDepth 10000 in
set_option maxHeartbeats 400000 in
theorem plain_any (w : World) : Calls Tryz.prog 17 #[] w (Gives (.agg (ltVal plainLt zSl)) w) := by
  go_enter Tryz.func17, Tryz.ntmps17
  go_wp2_with (first
    | (refine wpList_alloc_as rfl _ rfl (ltVal zLt zSl) lt_zero ?_)
    | (refine wpList_build_as rfl _ rfl (ltVal plainLt zSl) (by kernel_rfl) ?_)
    | (refine wpList_store_row rfl _ _ _ rfl w.heap.size (ltVal plainLt zSl) rfl rfl 57 (ltVal zLt zSl) (heap_alloc_last w _) (size62 _ _ rfl) rfl (ltVal_one _ _) ?_))
  refine bodyPost_ret (v := .agg (ltVal plainLt zSl)) (results_cell_row rfl _ _ w.heap.size _ (ltVal plainLt zSl) (0, 0) _ rfl (setRow_heap _ _ _ _ _ _ (heap_alloc_last w _)) Tryz.underlying57 rfl (size62 _ _ rfl)) rfl ⟨rfl, ?_⟩
  exact below_setRow (below_var w _) (Nat.le_refl _) _
theorem nums2 : ∀ k : Nat, k < 17 → usesB 2 k = true → ∃ o, numOff k = some o := fun k hk =>
  all17 (p := fun k => usesB 2 k = true → ∃ o, numOff k = some o) (by refine ⟨?_, ?_, ?_, ?_, ?_, ?_, ?_, ?_, ?_, ?_, ?_, ?_, ?_, ?_, ?_, ?_, ?_⟩ <;> (intro h; first | exact ⟨_, rfl⟩ | (cases h))) k hk
theorem want_kind : (rdHead wantB).l.kind = 2 := by kernel_rfl
theorem short_kind : (rdHead (wantB.take 26)).l.kind = 2 := by kernel_rfl
theorem read_want (w : World) (A : Option Addr) (c : Nat) (hl : 27 ≤ c) (hc : c ≤ 140737488355328) (hby : BytesAt w w.heap.size A wantB) (hn : A = none → c = 0) :
    Calls Tryz.prog 9 #[.slice A 27 c] w (ReadGot w 0 plainLt) := by
  have h := read_nums w A wantB c hl hc hby hn (by rw [want_kind]; exact nums2) 0 wantB (fun _ w' _ => by rw [rd_want, ← plain_bytes]; exact bytes_bare plainLt zSl w' bare_plain (by kernel_rfl) (by kernel_rfl) (by kernel_rfl) (by kernel_rfl) c_plain) true (by rw [rd_want]; kernel_rfl)
  rw [rd_want] at h
  exact h
theorem read_short (w : World) (A : Option Addr) (c : Nat) (hl : 26 ≤ c) (hc : c ≤ 140737488355328) (hby : BytesAt w w.heap.size A (wantB.take 26)) (hn : A = none → c = 0) :
    Calls Tryz.prog 9 #[.slice A 26 c] w (ReadGot w 3 zLt) := by
  exact read_nums w A (wantB.take 26) c hl hc hby hn (by rw [short_kind]; exact nums2) 0 [] (fun h => by rw [rd_short] at h; cases h) false (by rw [rd_short]; rfl)
def wantCells : Array Value := #[.int .u8 2, .int .u8 1, .int .u8 0, .int .u8 5, .int .u8 0, .int .u8 0, .int .u8 0, .int .u8 0, .int .u8 0, .int .u8 0, .int .u8 0, .int .u8 1, .int .u8 0, .int .u8 0, .int .u8 0, .int .u8 0, .int .u8 0, .int .u8 0, .int .u8 0, .int .u8 17, .int .u8 0, .int .u8 0, .int .u8 0, .int .u8 0, .int .u8 0, .int .u8 0, .int .u8 0]
theorem wantCells_eq : wantCells = (wantB.map Extern.Stop.cell).toArray := by kernel_rfl
theorem bytesAt_new (w : World) (bs : List UInt8) (cs : Array Value) (t : TypeId) (h : cs = (bs.map Extern.Stop.cell).toArray) : BytesAt (w.alloc (.cells cs t)) (w.heap.size + 1) (some ⟨w.heap.size, 0, none⟩) bs := by
  subst h
  refine .inr ⟨w.heap.size, 0, rfl, by omega, fun j hj => ?_⟩
  rw [(Row.new w _ t).2]
  simp [hj]
theorem BytesAt.take {w : World} {B : Nat} {A : Option Addr} {bs : List UInt8} (h : BytesAt w B A bs) (n : Nat) : BytesAt w B A (bs.take n) := by
  rcases h with h | ⟨b, off, hA, hb, hc⟩
  · exact .inl (by rw [List.length_take, h]; exact Nat.min_zero _)
  · refine .inr ⟨b, off, hA, hb, fun j hj => ?_⟩
    rw [List.length_take] at hj
    rw [hc j (by omega), List.getElem?_take_of_lt (by omega)]
theorem bytesAt_grow {w w' : World} {A : Option Addr} {bs : List UInt8} (h : BytesAt w w.heap.size A bs) (hb : Below w.heap.size w w') : BytesAt w' w'.heap.size A bs := (h.keep hb).more hb.size
theorem lt_info (l : Lt) (h : l.ref.length = 32) : (Tryz.prog.info? 57).map (fun i => (i.zero, i.size)) = some (some (.agg (ltVal zLt zSl)), (ltVal l zSl).size) := by
  unfold ltVal; rw [lt_size _ _ _ _ h]; kernel_rfl
theorem ack_len : (ltBytes ackLt []).length = 43 := by kernel_rfl
theorem ask_len : (ltBytes askLt []).length = 43 := by kernel_rfl
/-- Bytes at a letter without lists, its result spelled out. -/
theorem bytes_spelled (l : Lt) (w : World) (h : Bare l) (hf : allFit l = true) (hh : headOK l = true) (hn : noSerB l = true) (hu : usesB l.kind 10 = false) (hc : vCode l 0 = 0) (n : Nat) (hl : (ltBytes l []).length = n) :
    Calls Tryz.prog 8 #[.agg (ltVal l zSl)] w fun e w' => ∃ A c, e = .returned (.tuple #[.slice A n c, I 0]) ∧ BytesAt w' w'.heap.size A (ltBytes l []) ∧ Below w.heap.size w w' := by
  refine (bytes_bare l zSl w h hf hh hn hu hc).mono fun e w' ⟨h1, hb⟩ => ?_
  rw [if_pos rfl] at h1
  obtain ⟨v, rfl, hv⟩ := h1
  obtain ⟨A, c, rfl, _, _, _, hy⟩ := bytesAt_own hv
  rw [hl]
  exact ⟨A, c, rfl, hy, hb⟩
structure SanA (w : World) (n3 n4 : Nat) (A1 : Option Addr) (w' : World) : Prop where
  lo : Below w.heap.size w w'
  b : BytesAt w' w'.heap.size A1 wantB
  want : BytesAt w' w'.heap.size (some ⟨n3, 0, none⟩) wantB
  back : Row w' n4 (ltVal plainLt zSl)
theorem SanA.grow {w w1 w2 : World} {n3 n4 : Nat} {A1 : Option Addr} (h : SanA w n3 n4 A1 w1) (hb : Below w1.heap.size w1 w2) : SanA w n3 n4 A1 w2 :=
  ⟨below_trans h.lo hb, bytesAt_grow h.b hb, bytesAt_grow h.want hb, h.back.keep hb⟩
structure SanB (w : World) (n3 n4 n10 : Nat) (A1 A8 A11 : Option Addr) (w' : World) : Prop extends SanA w n3 n4 A1 w' where
  ack : BytesAt w' w'.heap.size A8 (ltBytes ackLt [])
  long : BytesAt w' w'.heap.size A11 (ltBytes askLt [])
  ask : Row w' n10 (ltVal askLt zSl)
theorem SanB.grow {w w1 w2 : World} {n3 n4 n10 : Nat} {A1 A8 A11 : Option Addr} (h : SanB w n3 n4 n10 A1 A8 A11 w1) (hb : Below w1.heap.size w1 w2) : SanB w n3 n4 n10 A1 A8 A11 w2 :=
  { h.toSanA.grow hb with ack := bytesAt_grow h.ack hb, long := bytesAt_grow h.long hb, ask := h.ask.keep hb }
theorem plain_row {w : World} {b : Nat} (h : Row w b (ltVal plainLt zSl)) : ∀ i, w.cell? ⟨b, i, none⟩ = (#[I 2, I 1, I 0, I 5, I 1, I 0, I 0, I 17, I 0, I 0, I 0, I 0, I 0, .bool false, I 0, I 0, I 0, .slice none 0 0, I 0, I 0, .string ByteArray.empty, I 0, I 0, .slice none 0 0, I 0, I 0, I 0, I 0, I 0, .slice none 0 0, .int .u8 0, .int .u8 0, .int .u8 0, .int .u8 0, .int .u8 0, .int .u8 0, .int .u8 0, .int .u8 0, .int .u8 0, .int .u8 0, .int .u8 0, .int .u8 0, .int .u8 0, .int .u8 0, .int .u8 0, .int .u8 0, .int .u8 0, .int .u8 0, .int .u8 0, .int .u8 0, .int .u8 0, .int .u8 0, .int .u8 0, .int .u8 0, .int .u8 0, .int .u8 0, .int .u8 0, .int .u8 0, .int .u8 0, .int .u8 0, .int .u8 0, .int .u8 0] : Array Value)[i]? := h.2
theorem SanB.drew {w w1 : World} {n3 n4 n10 : Nat} {A1 A8 A11 : Option Addr} (h : SanB w n3 n4 n10 A1 A8 A11 w1) : SanB w n3 n4 n10 A1 A8 A11 w1.drew :=
  ⟨⟨h.lo.drew, h.b, h.want, h.back⟩, h.ack, h.long, h.ask⟩
def SanCut (w : World) (n3 n4 n10 c8 c11 : Nat) (A1 A8 A11 : Option Addr) (p8 p10 p11 v : Value) (w' : World) : Prop := p8 = .slice A8 43 c8 ∧ p10 = pt n10 ∧ p11 = .slice A11 43 c11 ∧ v = .bool false ∧ SanB w n3 n4 n10 A1 A8 A11 w'
theorem sameBytes_want (A B : Option Addr) (c d : Nat) (w : World) (hA : BytesAt w w.heap.size A wantB) (hB : BytesAt w w.heap.size B wantB) : Calls Tryz.prog 13 #[.slice A 27 c, .slice B 27 d] w (Gives (.bool true) w) := by
  have := sameBytes_any A B c d wantB wantB w hA hB (by decide)
  exact this
theorem wpAnyH_take_dst {P : Program} {ops : Array Oper} {Q : Exit → Act → World → Prop} {md : Region.Mode} {S : World → Prop} {i : Nat} {oi : Oper} {v : Value} {d : Tmp} {fuel : Nat} {listed : Array Bool} {a : Act} {w : World} (hi : ops[i]? = some oi) (hd : oi.dst = some d)
    (hs : Region.noSelect ops = true) (hf : Region.free md ops listed i = true) (hr : (Region.ready md ops listed).contains i = true)
    (hQ : ∀ c a w, Q (.panic c) (a.put oi.dst v) w → Q (.panic c) a w) (hy : YieldsIf P ops S oi v a) (hS : S w)
    (h : wpAnyH P md ops Q S fuel (listed.setIfInBounds i true) (a.put (some d) v) w) : wpAnyH P md ops Q S (fuel + 1) listed a w :=
  wpAnyH_take hi hs hf hr hQ hy hS (by rw [hd]; exact h)
theorem yieldsIf_load_Row {P : Program} {ops : Array Oper} {S : World → Prop} {op : Oper} {a : Act} (hw : Region.wanted op (yielded ops a.tmps) = true) (ty : TypeId) (x : Operand) (ho : op.op = .load ty x)
    (b : Nat) (hx : a.eval x = .pointer (some ⟨b, 0, none⟩)) (cs : Array Value) (d : TypeDesc) (hS : ∀ w, S w → Row w b cs)
    (hu : P.underlying ty = some d) (hd : d.isRow = true) (hi : (P.info? ty).map (·.size) = some cs.size) : YieldsIf P ops S op (.agg cs) a := by
  have := yieldsIf_load_mid (P := P) (S := S) hw ty x ho b 0 hx cs.toList d (fun w h => fun j v hv => by rw [Nat.zero_add, (hS w h).2 j]; simpa using hv) hu hd (by rw [hi]; simp)
  simpa using this
/-- Letters and lists as they lie, each at its block. -/
def RowsAt (w : World) (l : List (Nat × Array Value)) : Prop := ∀ p ∈ l, Row w p.1 p.2
theorem RowsAt.grow {w w' : World} {l : List (Nat × Array Value)} (h : RowsAt w l) (hb : Below w.heap.size w w') : RowsAt w' l := fun p hp => (h p hp).keep hb
theorem RowsAt.new {w : World} {l : List (Nat × Array Value)} (h : RowsAt w l) (cs : Array Value) (t : TypeId) : RowsAt (w.alloc (.cells cs t)) ((w.heap.size, cs) :: l) := fun p hp => by
  rcases List.mem_cons.1 hp with rfl | hp
  · exact Row.new w cs t
  · exact (h p hp).keep (below_var w _)
def hSl (n : Nat) : Sl := ⟨none, none, some ⟨n, 0, none⟩, 0, 0, 2⟩
theorem ints12 {w : World} {n : Nat} (h : Row w n #[I 1, I 2]) : IntsAt w w.heap.size (hSl n).C [1, 2] :=
  .inr ⟨n, 0, rfl, h.1, fun j hj => by
    rw [h.2]
    match j, hj with
    | 0, _ => rfl
    | 1, _ => rfl⟩
theorem hold_ok : LtOK holdLt := ⟨by decide, by decide, by decide, rfl, by decide⟩
theorem full_ok : LtOK fullLt := ⟨by decide, by decide, by decide, rfl, by decide⟩
theorem bare_wrong : Bare wrongLt := ⟨rfl, rfl, rfl, rfl, rfl⟩
theorem bare_coarse : Bare coarseLt := ⟨rfl, rfl, rfl, rfl, rfl⟩
theorem valid_bare (l : Lt) (w : World) (c : Int) (h : Bare l) (hh : headOK l = true) (hn : noSerB l = true) (hc : vCode l 0 = c) : Calls Tryz.prog 19 #[.agg (ltVal l zSl)] w (Gives (I c) w) :=
  valid_at l zSl w c h.ok (.inl (by rw [h.cells]; rfl)) hh hn hc
theorem same_end : (numsEq endLt laterLt && headEq endLt laterLt && serEq endLt.series laterLt.series) = false := by kernel_rfl
theorem lt_info' (l : Lt) (s : Sl) (h : l.ref.length = 32) : (Tryz.prog.info? 57).map (fun i => (i.zero, i.size)) = some (some (.agg (ltVal zLt zSl)), (ltVal l s).size) := by
  unfold ltVal; rw [lt_size _ _ _ _ h]; kernel_rfl
section
variable {P : Program} {ops : Array Oper} {Q : Exit → Act → World → Prop} {a : Act} {w : World} {rest : List Oper} {d : Option Tmp} {t : TypeId} {pos : String} {af : Array Edge} {g : Option (Nat × Bool)}
/-- Guards for the arms: the walk stands at a load, an alloc, a composite literal of that type. -/
theorem at_load (ty : TypeId) {x : Operand} (h : wpList P ops Q (⟨d, .load ty x, t, pos, af, g⟩ :: rest) a w) : wpList P ops Q (⟨d, .load ty x, t, pos, af, g⟩ :: rest) a w := h
theorem at_alloc (ty : TypeId) (h : wpList P ops Q (⟨d, .alloc ty, t, pos, af, g⟩ :: rest) a w) : wpList P ops Q (⟨d, .alloc ty, t, pos, af, g⟩ :: rest) a w := h
theorem at_build (ty : TypeId) {x : Array (Nat × Operand)} (h : wpList P ops Q (⟨d, .build ty x, t, pos, af, g⟩ :: rest) a w) : wpList P ops Q (⟨d, .build ty x, t, pos, af, g⟩ :: rest) a w := h
end
theorem wrong_set : (ltVal askLt zSl).setIfInBounds 3 (.int .i64 1) = ltVal wrongLt zSl := (ltVal_setNum askLt zSl 1 0 3 (by omega) rfl).symm
theorem coarse_set : (ltVal askLt zSl).setIfInBounds 26 (.int .i64 0) = ltVal coarseLt zSl := (ltVal_setNum askLt zSl 0 13 26 (by omega) rfl).symm
theorem full_set (s : Sl) : (ltVal holdLt s).setIfInBounds 25 (.int .i64 1) = ltVal fullLt s := (ltVal_setNum holdLt s 1 12 25 (by omega) rfl).symm
theorem later_set : (ltVal endLt zSl).setIfInBounds 4 (.int .i64 2) = ltVal laterLt zSl := (ltVal_setNum endLt zSl 2 1 4 (by omega) rfl).symm
theorem same_plain : (numsEq plainLt plainLt && headEq plainLt plainLt && serEq plainLt.series plainLt.series) = true := by kernel_rfl
attribute [local go_sem] ltVal_get lt_get3 lt_get4 lt_get25 lt_get26
set_option maxRecDepth 10000 in
set_option maxHeartbeats 4000000 in
theorem sanity_any (w : World) : Calls Tryz.prog 4 #[] w (Gives (.bool true) w) := by
  go_enter Tryz.func4, Tryz.ntmps4
  go_wp2_with fail
  refine (plain_any _).mono ?_
  rintro e w1 ⟨rfl, hb1⟩
  have HB1 := Lib.hid hb1
  clear hb1
  go_wp2_with fail
  refine (bytes_spelled plainLt _ bare_plain (by kernel_rfl) (by kernel_rfl) (by kernel_rfl) (by kernel_rfl) c_plain 27 (by kernel_rfl)).mono ?_
  rintro e w2 ⟨A1, c1, rfl, hy2, hb2⟩
  rw [plain_bytes] at hy2
  have HB2 := Lib.hid (below_trans HB1.out hb2)
  have HY1 := Lib.hid hy2
  clear hb2 hy2 HB1
  have HWT : Hid (BytesAt (w2.alloc (.cells wantCells 5)) (w2.heap.size + 1) (some ⟨w2.heap.size, 0, none⟩) wantB) := Lib.hid (bytesAt_new w2 wantB _ _ wantCells_eq)
  have HB2' := Lib.hid (below_trans HB2.out (below_var w2 (.cells wantCells 5)))
  have HY2 := Lib.hid (bytesAt_grow HY1.out (below_var w2 (.cells wantCells 5)))
  go_wp2_with fail
  refine (read_want _ _ 27 (by omega) (by omega) (HWT.out.more (by simp)) (fun e => by cases e)).mono ?_
  rintro e w3 ⟨rfl, hb3⟩
  have HWT3 := Lib.hid (bytesAt_grow (HWT.out.more (by simp)) hb3)
  have HB3 := Lib.hid (below_trans HB2'.out hb3)
  have HY3 := Lib.hid (bytesAt_grow HY2.out hb3)
  have hl3 : w2.heap.size < w3.heap.size := by have := hb3.size; simp at this; omega
  clear hb3 HWT HB2' HY2 HB2 HY1
  have HWT3' := Lib.hid (bytesAt_grow HWT3.out (below_var w3 (.cells (ltVal plainLt zSl) 57)))
  have HB3' := Lib.hid (below_trans HB3.out (below_var w3 (.cells (ltVal plainLt zSl) 57)))
  have HY3' := Lib.hid (bytesAt_grow HY3.out (below_var w3 (.cells (ltVal plainLt zSl) 57)))
  have HR3' := Lib.hid (Row.new w3 (ltVal plainLt zSl) 57)
  have HA3 : Hid (SanA w w2.heap.size w3.heap.size A1 (w3.alloc (.cells (ltVal plainLt zSl) 57))) := Lib.hid ⟨HB3'.out, HY3'.out, HWT3'.out, HR3'.out⟩
  clear HWT3 HB3 HY3 HWT3' HB3' HY3' HR3'
  go_wp2_with (refine wpList_var_row rfl rfl _ _ _ rfl rfl rfl rfl _ (ltVal plainLt zSl) (lt_info _ rfl) rfl rfl rfl (ltVal_one _ _) ?_)
  refine (read_short _ _ 27 (by omega) (by omega) (HA3.out.want.take 26) (fun e => by cases e)).mono ?_
  rintro e w4 ⟨rfl, hb4⟩
  have HA4 := Lib.hid ((HA3.out.grow hb4).grow (below_var w4 (.cells (ltVal zLt zSl) 57)))
  clear hb4 HA3 hl3
  obtain ⟨n3, hn3⟩ : ∃ n, w2.heap.size = n := ⟨_, rfl⟩
  obtain ⟨n4, hn4⟩ : ∃ n, w3.heap.size = n := ⟨_, rfl⟩
  rw [hn3, hn4] at HA4 ⊢
  clear hn3 hn4
  go_wp2_with (first
    | (refine wpList_var_row rfl rfl _ _ _ rfl rfl rfl rfl _ (ltVal zLt zSl) (lt_info _ rfl) rfl rfl rfl (ltVal_one _ _) ?_)
    | (refine wpList_build_as (t := 57) rfl _ rfl (ltVal ackLt zSl) (by kernel_rfl) ?_))
  refine (bytes_spelled ackLt _ bare_ack (by kernel_rfl) (by kernel_rfl) (by kernel_rfl) (by kernel_rfl) c_ack 43 ack_len).mono ?_
  rintro e w5 ⟨A8, c8, rfl, hy5, hb5⟩
  have HA5 := Lib.hid ((HA4.out.grow hb5).grow (below_var w5 (.cells (ltVal askLt zSl) 57)))
  have HK5 := Lib.hid (bytesAt_grow hy5 (below_var w5 (.cells (ltVal askLt zSl) 57)))
  have HR5 := Lib.hid (Row.new w5 (ltVal askLt zSl) 57)
  clear hy5 hb5 HA4
  go_wp2_with (first
    | (refine wpList_build_as (t := 57) rfl _ rfl (ltVal askLt zSl) (by kernel_rfl) ?_)
    | (refine wpList_var_row rfl rfl _ _ _ rfl rfl rfl rfl _ (ltVal askLt zSl) (lt_info _ rfl) rfl rfl rfl (ltVal_one _ _) ?_)
    | (refine wpList_load_Row rfl _ _ rfl w5.heap.size rfl (ltVal askLt zSl) HR5.out _ Tryz.underlying57 rfl (size62 _ _ rfl) ?_))
  refine (bytes_spelled askLt _ bare_ask (by kernel_rfl) (by kernel_rfl) (by kernel_rfl) (by kernel_rfl) c_ask 43 ask_len).mono ?_
  rintro e w6 ⟨A11, c11, rfl, hy6, hb6⟩
  have HA6 : Hid (SanB w n3 n4 w5.heap.size A1 A8 A11 w6) := Lib.hid { HA5.out.grow hb6 with ack := bytesAt_grow HK5.out hb6, long := hy6, ask := HR5.out.keep hb6 }
  clear hy6 hb6 HA5 HK5 HR5
  obtain ⟨n10, hn10⟩ : ∃ n, w5.heap.size = n := ⟨_, rfl⟩
  rw [hn10] at HA6 ⊢
  clear hn10
  go_upto_region 8 with fail
  go_cut [8, 10, 11, 87] (fun p8 p10 p11 v wx => SanCut w n3 n4 n10 c8 c11 A1 A8 A11 p8 p10 p11 v wx)
  case first =>
    refine wp_region_held_drew (S := SanB w n3 n4 n10 A1 A8 A11) (by kernel_rfl) HA6.out.drew (fun hH0 => ?_)
    refine wpAnyH_take_dst (i := 0) (v := ?v0) (d := 48) rfl rfl (by kernel_rfl) (by kernel_rfl) (by kernel_rfl) (fun _ _ _ h => h) (Or.inl ⟨by rfl, ?hy0⟩) (by assumption) ?r0
    case hy0 => intro w' hSw; first | (go_simp; done) | (go_simp; with_reducible rfl)
    try simp only [Act.put, List.setIfInBounds_toArray, List.set_cons_zero, List.set_cons_succ]
    refine wpAnyH_take_dst (i := 1) (v := ?v1) (d := 49) rfl rfl (by kernel_rfl) (by kernel_rfl) (by kernel_rfl) (fun _ _ _ h => h) (Or.inl ⟨by rfl, ?hy1⟩) (by assumption) ?r1
    case hy1 => intro w' hSw; first | (go_simp; done) | (go_simp; with_reducible rfl)
    try simp only [Act.put, List.setIfInBounds_toArray, List.set_cons_zero, List.set_cons_succ]
    refine wpAnyH_take_dst (i := 2) (v := ?v2) (d := 50) rfl rfl (by kernel_rfl) (by kernel_rfl) (by kernel_rfl) (fun _ _ _ h => h) (Or.inl ⟨by rfl, ?hy2⟩) (by assumption) ?r2
    case hy2 => intro w' hSw; first | (go_simp; done) | (go_simp; with_reducible rfl)
    try simp only [Act.put, List.setIfInBounds_toArray, List.set_cons_zero, List.set_cons_succ]
    refine wpAnyH_take_dst (i := 3) (v := ?v3) (d := 51) rfl rfl (by kernel_rfl) (by kernel_rfl) (by kernel_rfl) (fun _ _ _ h => h) (Or.inl ⟨by rfl, ?hy3⟩) (by assumption) ?r3
    case hy3 => intro w' hSw; first | (go_simp; done) | (go_simp; with_reducible rfl)
    try simp only [Act.put, List.setIfInBounds_toArray, List.set_cons_zero, List.set_cons_succ]
    refine wpAnyH_take_dst (i := 4) (v := ?v4) (d := 52) rfl rfl (by kernel_rfl) (by kernel_rfl) (by kernel_rfl) (fun _ _ _ h => h) (Or.inl ⟨by rfl, ?hy4⟩) (by assumption) ?r4
    case hy4 => intro w' hSw; first | (go_simp; done) | (go_simp; with_reducible rfl)
    try simp only [Act.put, List.setIfInBounds_toArray, List.set_cons_zero, List.set_cons_succ]
    refine wpAnyH_take_dst (i := 5) (v := ?v5) (d := 53) rfl rfl (by kernel_rfl) (by kernel_rfl) (by kernel_rfl) (fun _ _ _ h => h) (Or.inl ⟨by rfl, ?hy5⟩) (by assumption) ?r5
    case hy5 => intro w' hSw; first | (go_simp; done) | (go_simp; with_reducible rfl)
    try simp only [Act.put, List.setIfInBounds_toArray, List.set_cons_zero, List.set_cons_succ]
    refine wpAnyH_take_dst (i := 6) (v := ?v6) (d := 54) rfl rfl (by kernel_rfl) (by kernel_rfl) (by kernel_rfl) (fun _ _ _ h => h) (Or.inl ⟨by rfl, ?hy6⟩) (by assumption) ?r6
    case hy6 => intro w' hSw; first | (go_simp; done) | (go_simp; with_reducible rfl)
    try simp only [Act.put, List.setIfInBounds_toArray, List.set_cons_zero, List.set_cons_succ]
    refine wpAnyH_take_dst (i := 7) (v := ?v7) (d := 55) rfl rfl (by kernel_rfl) (by kernel_rfl) (by kernel_rfl) (fun _ _ _ h => h) (Or.inl ⟨by rfl, ?hy7⟩) (by assumption) ?r7
    case hy7 => intro w' hSw; first | (go_simp; done) | (go_simp; with_reducible rfl)
    try simp only [Act.put, List.setIfInBounds_toArray, List.set_cons_zero, List.set_cons_succ]
    refine wpAnyH_take_dst (i := 8) (v := ?v8) (d := 56) rfl rfl (by kernel_rfl) (by kernel_rfl) (by kernel_rfl) (fun _ _ _ h => h) (Or.inl ⟨by rfl, ?hy8⟩) (by assumption) ?r8
    case hy8 => intro w' hSw; first | (go_simp; done) | (go_simp; with_reducible rfl)
    try simp only [Act.put, List.setIfInBounds_toArray, List.set_cons_zero, List.set_cons_succ]
    refine wpAnyH_take_dst (i := 9) (v := ?v9) (d := 57) rfl rfl (by kernel_rfl) (by kernel_rfl) (by kernel_rfl) (fun _ _ _ h => h) (Or.inl ⟨by rfl, ?hy9⟩) (by assumption) ?r9
    case hy9 => intro w' hSw; first | (go_simp; done) | (go_simp; with_reducible rfl)
    try simp only [Act.put, List.setIfInBounds_toArray, List.set_cons_zero, List.set_cons_succ]
    refine wpAnyH_take_dst (i := 10) (v := ?v10) (d := 58) rfl rfl (by kernel_rfl) (by kernel_rfl) (by kernel_rfl) (fun _ _ _ h => h) (Or.inl ⟨by rfl, ?hy10⟩) (by assumption) ?r10
    case hy10 => intro w' hSw; first | (go_simp; done) | (go_simp; with_reducible rfl)
    try simp only [Act.put, List.setIfInBounds_toArray, List.set_cons_zero, List.set_cons_succ]
    refine wpAnyH_take_dst (i := 11) (v := ?v11) (d := 59) rfl rfl (by kernel_rfl) (by kernel_rfl) (by kernel_rfl) (fun _ _ _ h => h) (Or.inl ⟨by rfl, ?hy11⟩) (by assumption) ?r11
    case hy11 => intro w' hSw; first | (go_simp; done) | (go_simp; with_reducible rfl)
    try simp only [Act.put, List.setIfInBounds_toArray, List.set_cons_zero, List.set_cons_succ]
    refine wpAnyH_take_dst (i := 12) (v := ?v12) (d := 60) rfl rfl (by kernel_rfl) (by kernel_rfl) (by kernel_rfl) (fun _ _ _ h => h) (Or.inl ⟨by rfl, ?hy12⟩) (by assumption) ?r12
    case hy12 => intro w' hSw; first | (go_simp; done) | (go_simp; with_reducible rfl)
    try simp only [Act.put, List.setIfInBounds_toArray, List.set_cons_zero, List.set_cons_succ]
    refine wpAnyH_take_dst (i := 13) (v := ?v13) (d := 61) rfl rfl (by kernel_rfl) (by kernel_rfl) (by kernel_rfl) (fun _ _ _ h => h) (Or.inl ⟨by rfl, ?hy13⟩) (by assumption) ?r13
    case hy13 => intro w' hSw; first | (go_simp; done) | (go_simp; with_reducible rfl)
    try simp only [Act.put, List.setIfInBounds_toArray, List.set_cons_zero, List.set_cons_succ]
    refine wpAnyH_take_dst (i := 14) (v := ?v14) (d := 62) rfl rfl (by kernel_rfl) (by kernel_rfl) (by kernel_rfl) (fun _ _ _ h => h) (Or.inl ⟨by rfl, ?hy14⟩) (by assumption) ?r14
    case hy14 => intro w' hSw; first | (go_simp; done) | (go_simp; with_reducible rfl)
    try simp only [Act.put, List.setIfInBounds_toArray, List.set_cons_zero, List.set_cons_succ]
    refine wpAnyH_take_dst (i := 15) (v := ?v15) (d := 63) rfl rfl (by kernel_rfl) (by kernel_rfl) (by kernel_rfl) (fun _ _ _ h => h) (Or.inl ⟨by rfl, ?hy15⟩) (by assumption) ?r15
    case hy15 => intro w' hSw; first | (go_simp; done) | (go_simp; with_reducible rfl)
    try simp only [Act.put, List.setIfInBounds_toArray, List.set_cons_zero, List.set_cons_succ]
    refine wpAnyH_take_dst (i := 16) (v := ?v16) (d := 64) rfl rfl (by kernel_rfl) (by kernel_rfl) (by kernel_rfl) (fun _ _ _ h => h) (Or.inl ⟨by rfl, ?hy16⟩) (by assumption) ?r16
    case hy16 => intro w' hSw; first | (go_simp; done) | (go_simp; with_reducible rfl)
    try simp only [Act.put, List.setIfInBounds_toArray, List.set_cons_zero, List.set_cons_succ]
    refine wpAnyH_take_dst (i := 17) (v := ?v17) (d := 65) rfl rfl (by kernel_rfl) (by kernel_rfl) (by kernel_rfl) (fun _ _ _ h => h) (Or.inl ⟨by rfl, ?hy17⟩) (by assumption) ?r17
    case hy17 => intro w' hSw; first | (go_simp; done) | (go_simp; with_reducible rfl)
    try simp only [Act.put, List.setIfInBounds_toArray, List.set_cons_zero, List.set_cons_succ]
    refine wpAnyH_take_dst (i := 18) (v := ?v18) (d := 66) rfl rfl (by kernel_rfl) (by kernel_rfl) (by kernel_rfl) (fun _ _ _ h => h) (Or.inl ⟨by rfl, ?hy18⟩) (by assumption) ?r18
    case hy18 => intro w' hSw; first | (go_simp; done) | (go_simp; with_reducible rfl)
    try simp only [Act.put, List.setIfInBounds_toArray, List.set_cons_zero, List.set_cons_succ]
    refine wpAnyH_take_dst (i := 19) (v := ?v19) (d := 67) rfl rfl (by kernel_rfl) (by kernel_rfl) (by kernel_rfl) (fun _ _ _ h => h) (Or.inl ⟨by rfl, ?hy19⟩) (by assumption) ?r19
    case hy19 => intro w' hSw; first | (go_simp; done) | (go_simp; with_reducible rfl)
    try simp only [Act.put, List.setIfInBounds_toArray, List.set_cons_zero, List.set_cons_succ]
    refine wpAnyH_take_dst (i := 20) (v := ?v20) (d := 68) rfl rfl (by kernel_rfl) (by kernel_rfl) (by kernel_rfl) (fun _ _ _ h => h) (Or.inl ⟨by rfl, ?hy20⟩) (by assumption) ?r20
    case hy20 => intro w' hSw; first | (go_simp; done) | (go_simp; with_reducible rfl)
    try simp only [Act.put, List.setIfInBounds_toArray, List.set_cons_zero, List.set_cons_succ]
    refine wpAnyH_ready (rs := [21]) (by kernel_rfl) (by simp) ?_
    refine AllReadyH.cons rfl (fun K hK => ?_) AllReadyH.nil
    go_simp
    refine (sameBytes_want A1 (some ⟨n3, 0, none⟩) c1 27 _ HA6.out.drew.b HA6.out.drew.want).mono ?_
    rintro e ws ⟨rfl, hbs⟩
    have HS8 := HA6.out.drew.grow hbs
    clear hbs
    refine hK.out _ _ HS8 (fun hHeld => ?_)
    clear hHeld
    clear hK K
    try simp only [Act.put, List.setIfInBounds_toArray, List.set_cons_zero, List.set_cons_succ]
    refine wpAnyH_take_dst (i := 22) (v := ?v22) (d := 70) rfl rfl (by kernel_rfl) (by kernel_rfl) (by kernel_rfl) (fun _ _ _ h => h) (Or.inl ⟨by rfl, ?hy22⟩) (by assumption) ?r22
    case hy22 => intro w' hSw; first | (go_simp; done) | (go_simp; with_reducible rfl)
    try simp only [Act.put, List.setIfInBounds_toArray, List.set_cons_zero, List.set_cons_succ]
    refine wpAnyH_take_dst (i := 23) (v := ?v23) (d := 71) rfl rfl (by kernel_rfl) (by kernel_rfl) (by kernel_rfl) (fun _ _ _ h => h) (Or.inl ⟨by rfl, ?hy23⟩) (by assumption) ?r23
    case hy23 => intro w' hSw; first | (go_simp; done) | (go_simp; with_reducible rfl)
    try simp only [Act.put, List.setIfInBounds_toArray, List.set_cons_zero, List.set_cons_succ]
    refine wpAnyH_take_dst (i := 24) (v := ?v24) (d := 72) rfl rfl (by kernel_rfl) (by kernel_rfl) (by kernel_rfl) (fun _ _ _ h => h) (Or.inl ⟨by rfl, ?hy24⟩) (by assumption) ?r24
    case hy24 => intro w' hSw; first | (go_simp; done) | (go_simp; with_reducible rfl)
    try simp only [Act.put, List.setIfInBounds_toArray, List.set_cons_zero, List.set_cons_succ]
    refine wpAnyH_take_dst (i := 25) (v := _) (d := 73) rfl rfl (by kernel_rfl) (by kernel_rfl) (by kernel_rfl) (fun _ _ _ h => h) (yieldsIf_load_Row (by rfl) _ _ rfl n4 rfl (ltVal plainLt zSl) _ (fun w' h => h.back) Tryz.underlying57 rfl (size62 _ _ rfl)) (by assumption) ?r25
    try simp only [Act.put, List.setIfInBounds_toArray, List.set_cons_zero, List.set_cons_succ]
    refine wpAnyH_ready (rs := [26]) (by kernel_rfl) (by simp) ?_
    refine AllReadyH.cons rfl (fun K hK => ?_) AllReadyH.nil
    go_simp
    refine (plain_any _).mono ?_
    rintro e wp ⟨rfl, hbp⟩
    have HP8 := HS8.grow hbp
    clear hbp
    refine hK.out _ _ HP8 (fun hHeld => ?_)
    clear hHeld
    clear hK K
    try simp only [Act.put, List.setIfInBounds_toArray, List.set_cons_zero, List.set_cons_succ]
    refine wpAnyH_ready (rs := [27]) (by kernel_rfl) (by simp) ?_
    refine AllReadyH.cons rfl (fun K hK => ?_) AllReadyH.nil
    go_simp
    refine (same_bare plainLt plainLt zSl zSl _ bare_plain bare_plain).mono ?_
    rintro e wq ⟨rfl, hbq⟩
    rw [same_plain]
    have HQ8 := HP8.grow hbq
    clear hbq
    refine hK.out _ _ HQ8 (fun hHeld => ?_)
    clear hHeld
    clear hK K
    try simp only [Act.put, List.setIfInBounds_toArray, List.set_cons_zero, List.set_cons_succ]
    refine wpAnyH_take_dst (i := 28) (v := ?v28) (d := 76) rfl rfl (by kernel_rfl) (by kernel_rfl) (by kernel_rfl) (fun _ _ _ h => h) (Or.inl ⟨by rfl, ?hy28⟩) (by assumption) ?r28
    case hy28 => intro w' hSw; first | (go_simp; done) | (go_simp; with_reducible rfl)
    try simp only [Act.put, List.setIfInBounds_toArray, List.set_cons_zero, List.set_cons_succ]
    refine wpAnyH_take_dst (i := 29) (v := ?v29) (d := 77) rfl rfl (by kernel_rfl) (by kernel_rfl) (by kernel_rfl) (fun _ _ _ h => h) (Or.inl ⟨by rfl, ?hy29⟩) (by assumption) ?r29
    case hy29 => intro w' hSw; first | (go_simp; done) | (go_simp; with_reducible rfl)
    try simp only [Act.put, List.setIfInBounds_toArray, List.set_cons_zero, List.set_cons_succ]
    refine wpAnyH_take_dst (i := 30) (v := ?v30) (d := 78) rfl rfl (by kernel_rfl) (by kernel_rfl) (by kernel_rfl) (fun _ _ _ h => h) (Or.inl ⟨by rfl, ?hy30⟩) (by assumption) ?r30
    case hy30 => intro w' hSw; first | (go_simp; done) | (go_simp; with_reducible rfl)
    try simp only [Act.put, List.setIfInBounds_toArray, List.set_cons_zero, List.set_cons_succ]
    refine wpAnyH_take_dst (i := 31) (v := ?v31) (d := 79) rfl rfl (by kernel_rfl) (by kernel_rfl) (by kernel_rfl) (fun _ _ _ h => h) (Or.inl ⟨by rfl, ?hy31⟩) (by assumption) ?r31
    case hy31 => intro w' hSw; first | (go_simp; done) | (go_simp; with_reducible rfl)
    try simp only [Act.put, List.setIfInBounds_toArray, List.set_cons_zero, List.set_cons_succ]
    refine wpAnyH_take_dst (i := 32) (v := ?v32) (d := 80) rfl rfl (by kernel_rfl) (by kernel_rfl) (by kernel_rfl) (fun _ _ _ h => h) (Or.inl ⟨by rfl, ?hy32⟩) (by assumption) ?r32
    case hy32 => intro w' hSw; first | (go_simp; done) | (go_simp; with_reducible rfl)
    try simp only [Act.put, List.setIfInBounds_toArray, List.set_cons_zero, List.set_cons_succ]
    refine wpAnyH_take_dst (i := 33) (v := ?v33) (d := 81) rfl rfl (by kernel_rfl) (by kernel_rfl) (by kernel_rfl) (fun _ _ _ h => h) (Or.inl ⟨by rfl, ?hy33⟩) (by assumption) ?r33
    case hy33 => intro w' hSw; first | (go_simp; done) | (go_simp; with_reducible rfl)
    try simp only [Act.put, List.setIfInBounds_toArray, List.set_cons_zero, List.set_cons_succ]
    refine wpAnyH_take_dst (i := 34) (v := ?v34) (d := 82) rfl rfl (by kernel_rfl) (by kernel_rfl) (by kernel_rfl) (fun _ _ _ h => h) (Or.inl ⟨by rfl, ?hy34⟩) (by assumption) ?r34
    case hy34 => intro w' hSw; first | (go_simp; done) | (go_simp; with_reducible rfl)
    try simp only [Act.put, List.setIfInBounds_toArray, List.set_cons_zero, List.set_cons_succ]
    refine wpAnyH_take_dst (i := 35) (v := ?v35) (d := 83) rfl rfl (by kernel_rfl) (by kernel_rfl) (by kernel_rfl) (fun _ _ _ h => h) (Or.inl ⟨by rfl, ?hy35⟩) (by assumption) ?r35
    case hy35 => intro w' hSw; first | (go_simp; done) | (go_simp; with_reducible rfl)
    try simp only [Act.put, List.setIfInBounds_toArray, List.set_cons_zero, List.set_cons_succ]
    refine wpAnyH_take_dst (i := 36) (v := ?v36) (d := 84) rfl rfl (by kernel_rfl) (by kernel_rfl) (by kernel_rfl) (fun _ _ _ h => h) (Or.inl ⟨by rfl, ?hy36⟩) (by assumption) ?r36
    case hy36 => intro w' hSw; first | (go_simp; done) | (go_simp; with_reducible rfl)
    try simp only [Act.put, List.setIfInBounds_toArray, List.set_cons_zero, List.set_cons_succ]
    refine wpAnyH_take_dst (i := 37) (v := ?v37) (d := 85) rfl rfl (by kernel_rfl) (by kernel_rfl) (by kernel_rfl) (fun _ _ _ h => h) (Or.inl ⟨by rfl, ?hy37⟩) (by assumption) ?r37
    case hy37 => intro w' hSw; first | (go_simp; done) | (go_simp; with_reducible rfl)
    try simp only [Act.put, List.setIfInBounds_toArray, List.set_cons_zero, List.set_cons_succ]
    refine wpAnyH_take_dst (i := 38) (v := ?v38) (d := 86) rfl rfl (by kernel_rfl) (by kernel_rfl) (by kernel_rfl) (fun _ _ _ h => h) (Or.inl ⟨by rfl, ?hy38⟩) (by assumption) ?r38
    case hy38 => intro w' hSw; first | (go_simp; done) | (go_simp; with_reducible rfl)
    try simp only [Act.put, List.setIfInBounds_toArray, List.set_cons_zero, List.set_cons_succ]
    refine wpAnyH_take_dst (i := 39) (v := ?v39) (d := 87) rfl rfl (by kernel_rfl) (by kernel_rfl) (by kernel_rfl) (fun _ _ _ h => h) (Or.inl ⟨by rfl, ?hy39⟩) (by assumption) ?r39
    case hy39 => intro w' hSw; first | (go_simp; done) | (go_simp; with_reducible rfl)
    try simp only [Act.put, List.setIfInBounds_toArray, List.set_cons_zero, List.set_cons_succ]
    refine wpAnyH_done (by kernel_rfl) ?_ _
    go_wp2_with fail
    go_meet
    exact ⟨rfl, rfl, rfl, rfl, HQ8⟩
  case rest =>
    obtain ⟨rfl, rfl, rfl, rfl, hc⟩ := hcut
    have HC8 := Lib.hid hc
    clear hc HA6
    obtain ⟨b8, o8, rfl, -, hc8⟩ := bytesAt_len HC8.out.ack (by rw [ack_len]; decide)
    obtain ⟨b11, o11, rfl, -, hc11⟩ := bytesAt_len HC8.out.long (by rw [ask_len]; decide)
    have k3 : wc.cell? ⟨b8, o8 + 3, none⟩ = some (.int .u8 2) := hc8 3 (by rw [ack_len]; decide)
    have k4 : wc.cell? ⟨b8, o8 + 4, none⟩ = some (.int .u8 1) := hc8 4 (by rw [ack_len]; decide)
    have k5 : wc.cell? ⟨b8, o8 + 5, none⟩ = some (.int .u8 0) := hc8 5 (by rw [ack_len]; decide)
    have k27 : wc.cell? ⟨b11, o11 + 27, none⟩ = some (.int .u8 255) := hc11 27 (by rw [ask_len]; decide)
    have k34 : wc.cell? ⟨b11, o11 + 34, none⟩ = some (.int .u8 255) := hc11 34 (by rw [ask_len]; decide)
    have k35 : wc.cell? ⟨b11, o11 + 35, none⟩ = some (.int .u8 160) := hc11 35 (by rw [ask_len]; decide)
    have k36 : wc.cell? ⟨b11, o11 + 36, none⟩ = some (.int .u8 5) := hc11 36 (by rw [ask_len]; decide)
    have k37 : wc.cell? ⟨b11, o11 + 37, none⟩ = some (.int .u8 0) := hc11 37 (by rw [ask_len]; decide)
    have HR0 : Hid (RowsAt wc [(n10, ltVal askLt zSl)]) := Lib.hid (fun p hp => by rcases List.mem_cons.1 hp with rfl | hp; exact HC8.out.ask; cases hp)
    have HL0 := Lib.hid HC8.out.lo
    clear HC8 hc8 hc11
    go_upto_region 12 with fail
    clear k3 k4 k5 k27 k34 k35 k36 k37
    have R0 : Hid (Row wc n10 (ltVal askLt zSl)) := Lib.hid (HR0.out (n10, ltVal askLt zSl) (.head _))
    go_upto_region 14 with (first
      | (with_reducible refine at_load 57 ?_; refine wpList_load_Row rfl _ _ rfl n10 rfl (ltVal askLt zSl) R0.out _ Tryz.underlying57 rfl (size62 _ _ rfl) ?_)
      | (with_reducible refine at_alloc 57 ?_; refine wpList_var_row rfl rfl _ _ _ rfl rfl rfl rfl _ (ltVal askLt zSl) (lt_info' askLt zSl rfl) rfl rfl rfl (ltVal_one _ _) ?_))
    rw [wrong_set]
    have HR1 := Lib.hid (HR0.out.new (ltVal wrongLt zSl) 57)
    have HL1 := Lib.hid (below_trans HL0.out (below_var wc (.cells (ltVal wrongLt zSl) 57)))
    obtain ⟨n13, hn13⟩ : ∃ n, wc.heap.size = n := ⟨_, rfl⟩
    rw [hn13] at HR1 ⊢
    obtain ⟨W1, hW1⟩ : ∃ W, wc.alloc (.cells (ltVal wrongLt zSl) 57) = W := ⟨_, rfl⟩
    rw [hW1] at HR1 HL1 ⊢
    clear hW1 hn13 HR0 HL0
    have R1 : Hid (Row W1 n10 (ltVal askLt zSl)) := Lib.hid (HR1.out (n10, ltVal askLt zSl) (.tail _ (.head _)))
    clear R0
    go_upto_region 16 with (first
      | (with_reducible refine at_load 57 ?_; refine wpList_load_Row rfl _ _ rfl n10 rfl (ltVal askLt zSl) R1.out _ Tryz.underlying57 rfl (size62 _ _ rfl) ?_)
      | (with_reducible refine at_alloc 57 ?_; refine wpList_var_row rfl rfl _ _ _ rfl rfl rfl rfl _ (ltVal askLt zSl) (lt_info' askLt zSl rfl) rfl rfl rfl (ltVal_one _ _) ?_))
    rw [coarse_set]
    have HR2 := Lib.hid (HR1.out.new (ltVal coarseLt zSl) 57)
    have HL2 := Lib.hid (below_trans HL1.out (below_var W1 (.cells (ltVal coarseLt zSl) 57)))
    obtain ⟨n14, hn14⟩ : ∃ n, W1.heap.size = n := ⟨_, rfl⟩
    rw [hn14] at HR2 ⊢
    obtain ⟨W2, hW2⟩ : ∃ W, W1.alloc (.cells (ltVal coarseLt zSl) 57) = W := ⟨_, rfl⟩
    rw [hW2] at HR2 HL2 ⊢
    clear hW2 hn14 HR1 HL1
    clear R1
    go_upto_region 17 with (first
      | (with_reducible refine at_build 57 ?_; refine wpList_build_as rfl _ rfl (ltVal holdLt (hSl W2.heap.size)) (by kernel_rfl) ?_)
      | (with_reducible refine at_alloc 57 ?_; refine wpList_var_row rfl rfl _ _ _ rfl rfl rfl rfl _ (ltVal holdLt (hSl W2.heap.size)) (lt_info' holdLt _ rfl) rfl rfl rfl (ltVal_one _ _) ?_))
    try simp only [Act.put, List.setIfInBounds_toArray, List.set_cons_zero, List.set_cons_succ]
    have HR3 := Lib.hid (HR2.out.new (#[I 1, I 2]) 3)
    have HL3 := Lib.hid (below_trans HL2.out (below_var W2 (.cells (#[I 1, I 2]) 3)))
    obtain ⟨n138, hn138⟩ : ∃ n, W2.heap.size = n := ⟨_, rfl⟩
    rw [hn138] at HR3 ⊢
    obtain ⟨W3, hW3⟩ : ∃ W, W2.alloc (.cells (#[I 1, I 2]) 3) = W := ⟨_, rfl⟩
    rw [hW3] at HR3 HL3 ⊢
    clear hW3 hn138 HR2 HL2
    have HR4 := Lib.hid (HR3.out.new (ltVal holdLt (hSl n138)) 57)
    have HL4 := Lib.hid (below_trans HL3.out (below_var W3 (.cells (ltVal holdLt (hSl n138)) 57)))
    obtain ⟨n15, hn15⟩ : ∃ n, W3.heap.size = n := ⟨_, rfl⟩
    rw [hn15] at HR4 ⊢
    obtain ⟨W4, hW4⟩ : ∃ W, W3.alloc (.cells (ltVal holdLt (hSl n138)) 57) = W := ⟨_, rfl⟩
    rw [hW4] at HR4 HL4 ⊢
    clear hW4 hn15 HR3 HL3
    have R4 : Hid (Row W4 n15 (ltVal holdLt (hSl n138))) := Lib.hid (HR4.out (n15, ltVal holdLt (hSl n138)) (.head _))
    go_upto_region 19 with (first
      | (with_reducible refine at_load 57 ?_; refine wpList_load_Row rfl _ _ rfl n15 rfl (ltVal holdLt (hSl n138)) R4.out _ Tryz.underlying57 rfl (size62 _ _ rfl) ?_)
      | (with_reducible refine at_alloc 57 ?_; refine wpList_var_row rfl rfl _ _ _ rfl rfl rfl rfl _ (ltVal holdLt (hSl n138)) (lt_info' holdLt _ rfl) rfl rfl rfl (ltVal_one _ _) ?_))
    rw [full_set]
    have HR5 := Lib.hid (HR4.out.new (ltVal fullLt (hSl n138)) 57)
    have HL5 := Lib.hid (below_trans HL4.out (below_var W4 (.cells (ltVal fullLt (hSl n138)) 57)))
    obtain ⟨n16, hn16⟩ : ∃ n, W4.heap.size = n := ⟨_, rfl⟩
    rw [hn16] at HR5 ⊢
    obtain ⟨W5, hW5⟩ : ∃ W, W4.alloc (.cells (ltVal fullLt (hSl n138)) 57) = W := ⟨_, rfl⟩
    rw [hW5] at HR5 HL5 ⊢
    clear hW5 hn16 HR4 HL4
    clear R4
    go_upto_region 20 with (first
      | (with_reducible refine at_build 57 ?_; refine wpList_build_as rfl _ rfl (ltVal endLt zSl) (by kernel_rfl) ?_)
      | (with_reducible refine at_alloc 57 ?_; refine wpList_var_row rfl rfl _ _ _ rfl rfl rfl rfl _ (ltVal endLt zSl) (lt_info' endLt zSl rfl) rfl rfl rfl (ltVal_one _ _) ?_))
    try simp only [Act.put, List.setIfInBounds_toArray, List.set_cons_zero, List.set_cons_succ]
    have HR6 := Lib.hid (HR5.out.new (ltVal endLt zSl) 57)
    have HL6 := Lib.hid (below_trans HL5.out (below_var W5 (.cells (ltVal endLt zSl) 57)))
    obtain ⟨n17, hn17⟩ : ∃ n, W5.heap.size = n := ⟨_, rfl⟩
    rw [hn17] at HR6 ⊢
    obtain ⟨W6, hW6⟩ : ∃ W, W5.alloc (.cells (ltVal endLt zSl) 57) = W := ⟨_, rfl⟩
    rw [hW6] at HR6 HL6 ⊢
    clear hW6 hn17 HR5 HL5
    have R6 : Hid (Row W6 n17 (ltVal endLt zSl)) := Lib.hid (HR6.out (n17, ltVal endLt zSl) (.head _))
    go_upto_region 22 with (first
      | (with_reducible refine at_load 57 ?_; refine wpList_load_Row rfl _ _ rfl n17 rfl (ltVal endLt zSl) R6.out _ Tryz.underlying57 rfl (size62 _ _ rfl) ?_)
      | (with_reducible refine at_alloc 57 ?_; refine wpList_var_row rfl rfl _ _ _ rfl rfl rfl rfl _ (ltVal endLt zSl) (lt_info' endLt zSl rfl) rfl rfl rfl (ltVal_one _ _) ?_))
    rw [later_set]
    have HR7 := Lib.hid (HR6.out.new (ltVal laterLt zSl) 57)
    have HL7 := Lib.hid (below_trans HL6.out (below_var W6 (.cells (ltVal laterLt zSl) 57)))
    obtain ⟨n18, hn18⟩ : ∃ n, W6.heap.size = n := ⟨_, rfl⟩
    rw [hn18] at HR7 ⊢
    obtain ⟨W7, hW7⟩ : ∃ W, W6.alloc (.cells (ltVal laterLt zSl) 57) = W := ⟨_, rfl⟩
    rw [hW7] at HR7 HL7 ⊢
    clear hW7 hn18 HR6 HL6
    clear R6
    have R8 : Hid (Row W7 n13 (ltVal wrongLt zSl)) := Lib.hid (HR7.out (n13, ltVal wrongLt zSl) (.tail _ (.tail _ (.tail _ (.tail _ (.tail _ (.tail _ (.head _))))))))
    go_wp2_with (with_reducible refine at_load 57 ?_; refine wpList_load_Row rfl _ _ rfl n13 rfl (ltVal wrongLt zSl) R8.out _ Tryz.underlying57 rfl (size62 _ _ rfl) ?_)
    clear R8
    refine (valid_bare wrongLt _ 1 bare_wrong (by kernel_rfl) (by kernel_rfl) c_wrong).mono ?_
    rintro e W8 ⟨rfl, hb8⟩
    have HR8 := Lib.hid (HR7.out.grow hb8)
    have HL8 := Lib.hid (below_trans HL7.out hb8)
    clear hb8 HR7 HL7
    have R9 : Hid (Row W8 n14 (ltVal coarseLt zSl)) := Lib.hid (HR8.out (n14, ltVal coarseLt zSl) (.tail _ (.tail _ (.tail _ (.tail _ (.tail _ (.head _)))))))
    go_wp2_with (with_reducible refine at_load 57 ?_; refine wpList_load_Row rfl _ _ rfl n14 rfl (ltVal coarseLt zSl) R9.out _ Tryz.underlying57 rfl (size62 _ _ rfl) ?_)
    clear R9
    refine (valid_bare coarseLt _ 1 bare_coarse (by kernel_rfl) (by kernel_rfl) c_coarse).mono ?_
    rintro e W9 ⟨rfl, hb9⟩
    have HR9 := Lib.hid (HR8.out.grow hb9)
    have HL9 := Lib.hid (below_trans HL8.out hb9)
    clear hb9 HR8 HL8
    have R10 : Hid (Row W9 n15 (ltVal holdLt (hSl n138))) := Lib.hid (HR9.out (n15, ltVal holdLt (hSl n138)) (.tail _ (.tail _ (.tail _ (.head _)))))
    go_wp2_with (with_reducible refine at_load 57 ?_; refine wpList_load_Row rfl _ _ rfl n15 rfl (ltVal holdLt (hSl n138)) R10.out _ Tryz.underlying57 rfl (size62 _ _ rfl) ?_)
    clear R10
    refine (valid_at holdLt (hSl n138) _ 0 hold_ok (ints12 (HR9.out (n138, #[I 1, I 2]) (.tail _ (.tail _ (.tail _ (.tail _ (.head _))))))) (by kernel_rfl) (by kernel_rfl) c_hold).mono ?_
    rintro e W10 ⟨rfl, hb10⟩
    have HR10 := Lib.hid (HR9.out.grow hb10)
    have HL10 := Lib.hid (below_trans HL9.out hb10)
    clear hb10 HR9 HL9
    have R11 : Hid (Row W10 n16 (ltVal fullLt (hSl n138))) := Lib.hid (HR10.out (n16, ltVal fullLt (hSl n138)) (.tail _ (.tail _ (.head _))))
    go_wp2_with (with_reducible refine at_load 57 ?_; refine wpList_load_Row rfl _ _ rfl n16 rfl (ltVal fullLt (hSl n138)) R11.out _ Tryz.underlying57 rfl (size62 _ _ rfl) ?_)
    clear R11
    refine (valid_at fullLt (hSl n138) _ 1 full_ok (ints12 (HR10.out (n138, #[I 1, I 2]) (.tail _ (.tail _ (.tail _ (.tail _ (.head _))))))) (by kernel_rfl) (by kernel_rfl) c_full).mono ?_
    rintro e W11 ⟨rfl, hb11⟩
    have HR11 := Lib.hid (HR10.out.grow hb11)
    have HL11 := Lib.hid (below_trans HL10.out hb11)
    clear hb11 HR10 HL10
    have R12 : Hid (Row W11 n17 (ltVal endLt zSl)) := Lib.hid (HR11.out (n17, ltVal endLt zSl) (.tail _ (.head _)))
    go_wp2_with (with_reducible refine at_load 57 ?_; refine wpList_load_Row rfl _ _ rfl n17 rfl (ltVal endLt zSl) R12.out _ Tryz.underlying57 rfl (size62 _ _ rfl) ?_)
    clear R12
    refine (valid_bare endLt _ 1 bare_end (by kernel_rfl) (by kernel_rfl) c_end).mono ?_
    rintro e W12 ⟨rfl, hb12⟩
    have HR12 := Lib.hid (HR11.out.grow hb12)
    have HL12 := Lib.hid (below_trans HL11.out hb12)
    clear hb12 HR11 HL11
    have R13 : Hid (Row W12 n18 (ltVal laterLt zSl)) := Lib.hid (HR12.out (n18, ltVal laterLt zSl) (.head _))
    go_wp2_with (with_reducible refine at_load 57 ?_; refine wpList_load_Row rfl _ _ rfl n18 rfl (ltVal laterLt zSl) R13.out _ Tryz.underlying57 rfl (size62 _ _ rfl) ?_)
    clear R13
    refine (valid_bare laterLt _ 0 bare_later (by kernel_rfl) (by kernel_rfl) c_later).mono ?_
    rintro e W13 ⟨rfl, hb13⟩
    have HR13 := Lib.hid (HR12.out.grow hb13)
    have HL13 := Lib.hid (below_trans HL12.out hb13)
    clear hb13 HR12 HL12
    go_wp2_with fail
    refine (name_any 7 _).mono ?_
    rintro e W14 ⟨rfl, rfl⟩
    have HR14 := Lib.hid (HR13.out.grow (below_var W13 (.cells nameCells 114)))
    have HL14 := Lib.hid (below_trans HL13.out (below_var W13 (.cells nameCells 114)))
    clear HR13 HL13
    rw [show (if (0 : Int) ≤ 7 ∧ (7 : Int) < 19 then nameOf 7 else ⟨#[]⟩) = (⟨#[119, 105, 116, 104, 100, 114, 97, 119]⟩ : ByteArray) from by kernel_rfl]
    obtain ⟨W14, hW14⟩ : ∃ W, W13.alloc (.cells nameCells 114) = W := ⟨_, rfl⟩
    rw [hW14] at HR14 HL14 ⊢
    clear hW14
    go_wp2_with fail
    refine (name_any 0 _).mono ?_
    rintro e W15 ⟨rfl, rfl⟩
    have HR15 := Lib.hid (HR14.out.grow (below_var W14 (.cells nameCells 114)))
    have HL15 := Lib.hid (below_trans HL14.out (below_var W14 (.cells nameCells 114)))
    clear HR14 HL14
    rw [show (if (0 : Int) ≤ 0 ∧ (0 : Int) < 19 then nameOf 0 else ⟨#[]⟩) = (⟨#[]⟩ : ByteArray) from by kernel_rfl]
    obtain ⟨W15, hW15⟩ : ∃ W, W14.alloc (.cells nameCells 114) = W := ⟨_, rfl⟩
    rw [hW15] at HR15 HL15 ⊢
    clear hW15
    have R17 : Hid (Row W15 n17 (ltVal endLt zSl)) := Lib.hid (HR15.out (n17, ltVal endLt zSl) (.tail _ (.head _)))
    have R18 : Hid (Row W15 n18 (ltVal laterLt zSl)) := Lib.hid (HR15.out (n18, ltVal laterLt zSl) (.head _))
    go_wp2_with (first
      | (with_reducible refine at_load 57 ?_; refine wpList_load_Row rfl _ _ rfl n17 rfl (ltVal endLt zSl) R17.out _ Tryz.underlying57 rfl (size62 _ _ rfl) ?_)
      | (with_reducible refine at_load 57 ?_; refine wpList_load_Row rfl _ _ rfl n18 rfl (ltVal laterLt zSl) R18.out _ Tryz.underlying57 rfl (size62 _ _ rfl) ?_))
    refine (same_bare endLt laterLt zSl zSl _ bare_end bare_later).mono ?_
    rintro e W16 ⟨rfl, hb16⟩
    rw [same_end]
    have HL16 := Lib.hid (below_trans HL15.out hb16)
    clear hb16
    go_wp2_with fail
    go_ret
    exact ⟨rfl, HL16.out⟩
end Go.Proofs.YtoljoigbepdeiaaGreatDoor
