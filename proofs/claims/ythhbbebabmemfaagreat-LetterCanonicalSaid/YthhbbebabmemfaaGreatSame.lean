/- letter.Same. -/
import Derived.Test.YthhbbebabmemfaaGreatValidW
import Derived.Test.YthhbbebabmemfaaGreatWriters
import Derived.BigQuiet
import Derived.Deep.AppendLies
import Derived.Deep.CutBlock
import Derived.Deep.DeepCutAuto
import Derived.Deep.DrawnRows
import Derived.Deep.MidRow
import Derived.Deep.QuietTactic
import Derived.Deep.RegionHeld3
import Derived.Deep.RegionLaw
import Derived.Deep.WholeRow
import Derived.Great.BuildSlice
import Derived.Laws.BytesString
import Derived.Laws.CopyOwn
import Derived.Laws.EntriesVeiled
import Derived.Laws.MakeOwn
import Derived.Laws.ResultCell
import Derived.Laws.Rows
import Derived.Laws.Tables
import Derived.Lib.Hide
import Derived.LoopIn
import Derived.LoopNIn
import Derived.Maps.AppendAt
import Derived.Outline
import Derived.OwnWalkIn
import Derived.RangeFuncBound
import Derived.RangeFuncBox
import Derived.RangeFuncCalls
import Derived.RangeFuncLeaves
import Derived.RangeFuncNested
import Derived.Shelf.Abstract
import Derived.Shelf.Bytes.SlSmallAll
import Derived.Shelf.RegionOpen
import Derived.StillTailTactics
import Derived.Stop.BytesEq
import Derived.TacticsInMore
import Derived.WalkKit
import Derived.WalkLawsBesides
import Derived.WalkSpells
namespace Go.Proofs.YthhbbebabmemfaaGreat
open Go Go.RowKit

section
variable {P : Program} {ops : Array Oper} {Q : Exit → Act → World → Prop} {a : Act} {w : World} {rest : List Oper} {o o2 o3 o4 : Oper}
theorem setRow_alloc_old (w : World) (o : Obj) (g : Nat) (c : Array Value) (h : g < w.heap.size) : (w.alloc o).setRow g c = (w.setRow g c).alloc o := by
  simp only [World.setRow, World.alloc]
  congr 1
  apply Array.ext_getElem?
  intro i
  rw [Array.getElem?_modify, Array.getElem?_push, Array.getElem?_push, Array.getElem?_modify, Array.size_modify]
  by_cases h1 : i = w.heap.size
  · subst h1
    have : ¬ g = w.heap.size := by omega
    simp [this]
  · simp [h1]
theorem setRow_two (w : World) (c c' d d' : Array Value) (t : TypeId) :
    (((w.alloc (.cells c t)).alloc (.cells d t)).setRow w.heap.size c').setRow (w.heap.size + 1) d' = (w.alloc (.cells c' t)).alloc (.cells d' t) := by
  rw [setRow_alloc_old _ _ _ _ (by simp), World.setRow_alloc_new]
  have := World.setRow_alloc_new (w.alloc (.cells c' t)) d d' t
  rwa [World.size_alloc] at this
/-- 'x, y := u, v': two new variables, then both rows stored. -/
theorem wpList_var_two (hg : o.guard = none) (hg2 : o2.guard = none) (hg3 : o3.guard = none) (hg4 : o4.guard = none) (t : TypeId) (d d2 : Tmp) (y y2 : Operand) (ho : o.op = .alloc t) (hd : o.dst = some d) (ho2 : o2.op = .alloc t) (hd2 : o2.dst = some d2)
    (ho3 : o3.op = .store t (.tmp d) y) (hd3 : o3.dst = none) (ho4 : o4.op = .store t (.tmp d2) y2) (hd4 : o4.dst = none)
    (z : Array Value) (c c2 : Array Value) (hz : (P.info? t).map (fun i => (i.zero, i.size)) = some (some (.agg z), z.size)) (hzs : z.size = c.size) (hzs2 : z.size = c2.size)
    (a1 : Act) (ha1 : (a.put (some d) (.pointer (some ⟨w.heap.size, 0, none⟩))).put (some d2) (.pointer (some ⟨w.heap.size + 1, 0, none⟩)) = a1)
    (hx : a1.eval (.tmp d) = .pointer (some ⟨w.heap.size, 0, none⟩)) (hx2 : a1.eval (.tmp d2) = .pointer (some ⟨w.heap.size + 1, 0, none⟩))
    (hy : a1.eval y = .agg c) (hy2 : a1.eval y2 = .agg c2) (h1 : c.all (·.oneCell') = true) (h2 : c2.all (·.oneCell') = true)
    (h : wpList P ops Q rest a1 ((w.alloc (.cells c t)).alloc (.cells c2 t))) : wpList P ops Q (o :: o2 :: o3 :: o4 :: rest) a w := by
  have hi : (P.info? t).map (·.size) = some z.size := (zero_of_info hz).2
  refine wpList_plain hg fun K hK => ?_
  unfold Oper.wp execOp
  simp only [ho, Sem.run_bind, run_alloc_var w t (.agg z) _ hz, Result.andThen_ok]
  refine hK _ _ ?_
  refine wpList_plain hg2 fun K2 hK2 => ?_
  unfold Oper.wp execOp
  simp only [ho2, Sem.run_bind, run_alloc_var _ t (.agg z) _ hz, Result.andThen_ok]
  refine hK2 _ _ ?_
  rw [hd, hd2, World.size_alloc, ha1]
  refine wpList_store_row hg3 t _ y ho3 w.heap.size c hx hy t z (heap_alloc2_old w _ _) (by rw [hi, hzs]) hzs h1 ?_
  rw [hd3]
  refine wpList_store_row hg4 t _ y2 ho4 (w.heap.size + 1) c2 hx2 hy2 t z ((setRow_other _ _ _ _ (by omega)).trans (heap_alloc2_new w _ _)) (by rw [hi, hzs2]) hzs2 h2 ?_
  rw [hd4]
  show wpList P ops Q rest a1 _
  have e := setRow_two w z c z c2 t
  rw [show Value.cells (.agg z) = z from rfl, e]
  exact h
/-- A whole array loaded out of the middle of a block. -/
theorem wpList_load_at (hw : Region.wanted o (yielded ops a.tmps) = true) (ty : TypeId) (x : Operand) (ho : o.op = .load ty x) (g off : Nat) (hx : a.eval x = .pointer (some ⟨g, off, none⟩)) (cs : List Value) (hc : w.rangeAt g off cs)
    (d : TypeDesc) (hu : P.underlying ty = some d) (hd : d.isRow = true) (hi : (P.info? ty).map (·.size) = some cs.length)
    (h : wpList P ops Q rest (a.put o.dst (.agg cs.toArray)) w) : wpList P ops Q (o :: rest) a w := by
  unfold wpList
  rw [if_pos hw]
  exact .inl (wp_load_mid ty x ho g off hx cs d hc hu hd hi h)
end
/-- The letters and the two tables of addresses, as they lie. -/
structure SmIn (w : World) (a b : Array Value) (p : Nat) (w' : World) : Prop where
  ra : Row w' w.heap.size a
  rb : Row w' (w.heap.size + 1) b
  rp : Row w' p (numPtrs w.heap.size)
  rq : Row w' (p + 1) (numPtrs (w.heap.size + 1))
  lo : Below w.heap.size w w'
theorem SmIn.draw {w w' : World} {a b : Array Value} {p : Nat} (h : SmIn w a b p w') : SmIn w a b p w'.drew := ⟨h.ra, h.rb, h.rp, h.rq, h.lo.drew⟩
theorem SmIn.draws {w w' : World} {a b : Array Value} {p : Nat} (h : SmIn w a b p w') (n : Nat) : SmIn w a b p (w'.drewN n) := ⟨h.ra, h.rb, h.rp, h.rq, ⟨h.lo.os, h.lo.tape, h.lo.output, h.lo.size, h.lo.block⟩⟩
def numsEq (a b : Lt) : Bool := (List.range 17).all fun k => (numOff k).isNone || (numF a k == numF b k)
theorem numsEq_no {a b : Lt} {k : Nat} {o : Nat} (hk : k < 17) (ho : numOff k = some o) (h : (numF a k == numF b k) = false) : numsEq a b = false := by
  unfold numsEq
  rw [Bool.eq_false_iff]; intro h'; rw [List.all_eq_true] at h'
  have := h' k (List.mem_range.2 hk); rw [h, ho] at this; cases this
theorem numsEq_yes {a b : Lt} (h : ∀ k, k < 17 → ((numOff k).isNone || (numF a k == numF b k)) = true) : numsEq a b = true := by
  unfold numsEq
  rw [List.all_eq_true]; intro k hk; exact h k (List.mem_range.1 hk)
def SmRel (w : World) (la lb : Lt) (a b : Array Value) (p : Nat) (i : Value) (wr : World) : Prop :=
  ∃ k : Nat, k ≤ 17 ∧ i = .int .i64 k ∧ SmIn w a b p wr ∧ ∀ j, j < k → ((numOff j).isNone || (numF la j == numF lb j)) = true
def moveEq (x y : Mv) : Bool := decide (x.day = y.day) && (x.drop == y.drop) && decide (x.toDay = y.toDay) && decide (x.minute = y.minute) && decide (x.length = y.length)
def headEq (a b : Lt) : Bool := (a.kind == b.kind) && (a.src == b.src) && (a.dst == b.dst) && moveEq a.move b.move && (decide (a.wfrom = b.wfrom) && decide (a.wto = b.wto)) && (a.ref == b.ref)
def serEq (a b : Ser) : Bool := (a.minute == b.minute) && (a.length == b.length) && (a.zone.toList == b.zone.toList) && (a.gap == b.gap) && (a.fold == b.fold)
theorem ptrs_zero : (Tryz.prog.info? 58).map (fun i => (i.zero, i.size)) = some (some (.agg (Array.replicate 17 (.pointer none))), (Array.replicate 17 (Value.pointer none)).size) := by kernel_rfl
theorem sm_start {w w2 : World} {a b : Array Value} (t : TypeId) (ha : Row w2 w.heap.size a) (hb : Row w2 (w.heap.size + 1) b) (hlo : Below w.heap.size w w2) :
    SmIn w a b w2.heap.size ((w2.alloc (.cells (numPtrs w.heap.size) t)).alloc (.cells (numPtrs (w.heap.size + 1)) t)) := by
  have h1 := below_var w2 (.cells (numPtrs w.heap.size) t)
  have h2 := below_var (w2.alloc (.cells (numPtrs w.heap.size) t)) (.cells (numPtrs (w.heap.size + 1)) t)
  exact ⟨(ha.keep h1).keep h2, (hb.keep h1).keep h2, (Row.new w2 _ t).keep h2, by have := Row.new (w2.alloc (.cells (numPtrs w.heap.size) t)) (numPtrs (w.heap.size + 1)) t; rwa [World.size_alloc] at this, below_trans (below_trans hlo h1) h2⟩
theorem neq_digest (r r' : List UInt8) (h : r.length = 32) (h' : r'.length = 32) (w : World) :
    (binOp .neq 35 (.agg (refCells r).toArray) (.agg (refCells r').toArray)).run Tryz.prog w = .ok (.bool (!(r == r'))) w := by
  unfold refCells
  rw [run_neq_struct, run_equalIn_bytes w 9998 35 5 32 Tryz.underlying35 Tryz.underlying5 (fun w => size_u8 w) r r' h h']
  rfl
theorem neq_move (d t n l d' t' n' l' : Int) (b b' : Bool) (W : World) :
    (binOp .neq 26 (.agg #[I d, .bool b, I t, I n, I l]) (.agg #[I d', .bool b', I t', I n', I l'])).run Tryz.prog W =
      .ok (.bool (!(decide (d = d') && (b == b') && decide (t = t') && decide (n = n') && decide (l = l')))) W := by
  by_cases h1 : d = d' <;> by_cases h2 : b = b' <;> by_cases h3 : t = t' <;> by_cases h4 : n = n' <;> by_cases h5 : l = l'
  all_goals simp [go_sem, h1, h2, h3, h4, h5]
theorem neq_span (a b a' b' : Int) (W : World) :
    (binOp .neq 33 (.agg #[I a, I b]) (.agg #[I a', I b'])).run Tryz.prog W = .ok (.bool (!(decide (a = a') && decide (b = b')))) W := by
  by_cases h1 : a = a' <;> by_cases h2 : b = b'
  all_goals simp [go_sem, h1, h2]
theorem two_rows (w : World) (X Y : Array Value) (t : TypeId) : Row ((w.alloc (.cells X t)).alloc (.cells Y t)).drew w.heap.size X ∧ Row ((w.alloc (.cells X t)).alloc (.cells Y t)).drew (w.heap.size + 1) Y ∧ Below w.heap.size w ((w.alloc (.cells X t)).alloc (.cells Y t)).drew := by
  have h2 := below_var (w.alloc (.cells X t)) (.cells Y t)
  have hY := Row.new (w.alloc (.cells X t)) Y t
  rw [World.size_alloc] at hY
  exact ⟨(Row.new w X t).keep h2.drew, hY, (below_trans (below_var w (.cells X t)) h2).drew⟩
/-- Behind the two copies of the series. -/
def SmCut (w : World) (a b : Lt) (s t : Sl) (p q x y : Value) (wx : World) : Prop :=
  p = pt w.heap.size ∧ q = pt (w.heap.size + 1) ∧ ∃ g h, x = pt g ∧ y = pt h ∧ Row wx w.heap.size (ltVal a s) ∧ Row wx (w.heap.size + 1) (ltVal b t) ∧
    Row wx g (serCells a.series (.slice s.A a.series.rule.length s.c) (.slice s.B a.series.moves.length s.d)) ∧ Row wx h (serCells b.series (.slice t.A b.series.rule.length t.c) (.slice t.B b.series.moves.length t.d)) ∧ Below w.heap.size w wx
attribute [local go_sem] ltVal_get lt_get0 lt_get1 lt_get2 lt_get12 lt_get13 lt_get14 lt_get15 lt_get16 lt_get17 lt_get18 lt_get19 lt_get20 lt_get21 lt_get22 lt_get23 lt_get27 lt_get28 lt_get29
set_option maxRecDepth 10000 in
set_option maxHeartbeats 4000000 in
theorem same_any (a b : Lt) (s t : Sl) (w : World) (ha : LtOK a) (hb : LtOK b) (cq mq rq : Bool)
    (hc : ∀ w', Below w.heap.size w w' → Calls Tryz.prog 34 #[.slice s.C a.cells.length s.e, .slice t.C b.cells.length t.e] w' (Gives (.bool cq) w'))
    (hm : ∀ w', Below w.heap.size w w' → Calls Tryz.prog 35 #[.slice s.B a.series.moves.length s.d, .slice t.B b.series.moves.length t.d] w' (Gives (.bool mq) w'))
    (hr : ∀ w', Below w.heap.size w w' → Calls Tryz.prog 36 #[.slice s.A a.series.rule.length s.c, .slice t.A b.series.rule.length t.c, .func (.func 37) #[] #[]] w' (Gives (.bool rq) w')) :
    Calls Tryz.prog 11 #[.agg (ltVal a s), .agg (ltVal b t)] w (Gives (.bool (numsEq a b && headEq a b && serEq a.series b.series && (cq && mq && rq))) w) := by
  have HRA := Lib.hid ((Row.new w (ltVal a s) 37).keep (below_var _ (.cells (ltVal b t) 37)))
  have HRB : Hid (Row ((w.alloc (.cells (ltVal a s) 37)).alloc (.cells (ltVal b t) 37)) (w.heap.size + 1) (ltVal b t)) := Lib.hid (by have := Row.new (w.alloc (.cells (ltVal a s) 37)) (ltVal b t) 37; rwa [World.size_alloc] at this)
  have HB0 := Lib.hid (below_trans (below_var w (.cells (ltVal a s) 37)) (below_var _ (.cells (ltVal b t) 37)))
  have HC := Lib.hid hc
  have HM := Lib.hid hm
  have HR := Lib.hid hr
  have HA := Lib.hid ha
  have HB := Lib.hid hb
  clear hc hm hr ha hb
  go_enter Tryz.func11, Tryz.ntmps11
  go_wp2_with fail
  refine (numbers_any w.heap.size _).mono ?_
  rintro e w1 ⟨rfl, hb1⟩
  have HRA1 := Lib.hid (HRA.out.keep hb1)
  have HRB1 := Lib.hid (HRB.out.keep hb1)
  have HB1 := Lib.hid (below_trans HB0.out hb1)
  clear hb1
  go_wp2_with fail
  refine (numbers_any (w.heap.size + 1) _).mono ?_
  rintro e w2 ⟨rfl, hb2⟩
  have HRA2 := Lib.hid (HRA1.out.keep hb2)
  have HRB2 := Lib.hid (HRB1.out.keep hb2)
  have HB2 := Lib.hid (below_trans HB1.out hb2)
  clear hb2
  go_wp2_with (refine wpList_var_two rfl rfl rfl rfl _ _ _ _ _ rfl rfl rfl rfl rfl rfl rfl rfl (Array.replicate 17 (.pointer none)) (numPtrs w.heap.size) (numPtrs (w.heap.size + 1)) ptrs_zero rfl rfl _ rfl (by kernel_rfl) (by kernel_rfl) (by kernel_rfl) (by kernel_rfl) (numPtrs_one _) (numPtrs_one _) ?_)
  go_loopw [12] (fun i wr => SmRel w a b (ltVal a s) (ltVal b t) w2.heap.size i wr) (fun i _ => 17 - (intOf i).toNat)
  case atStart => exact ⟨0, by omega, rfl, sm_start _ HRA2.out HRB2.out HB2.out, fun j hj => absurd hj (by omega)⟩
  case round =>
    obtain ⟨k, hk, rfl, hs1, hall⟩ := hrel
    have HS := Lib.hid hs1
    have HALL := Lib.hid hall
    have hra := hs1.ra.2
    have hrb := hs1.rb.2
    clear hs1 hall HRA HRB HB0 HRA1 HRB1 HB1 HRA2 HRB2 HB2
    obtain ⟨p, hpe⟩ : ∃ p, w2.heap.size = p := ⟨_, rfl⟩
    rw [hpe] at HS ⊢
    clear hpe
    by_cases hlt : k < 17
    · have hltI : (k : Int) < 17 := by omega
      cases ho : numOff k with
      | none =>
        have hp : wr.cell? ⟨p, k, none⟩ = some (.pointer none) := (HS.out.rp.2 k).trans ((numPtrs_at _ k hlt).trans (by unfold ptrAt; rw [ho]))
        have HO := Lib.hid ho
        clear ho hra hrb
        go_wp2_with fail
        go_quiet (fail)
        go_wp2
        go_roundw
        case rel => exact ⟨k + 1, by omega, by go_num, HS.out.draws _, fun j hj => by
          rcases Nat.lt_succ_iff_lt_or_eq.1 hj with h | h
          · exact HALL.out j h
          · subst h; rw [HO.out]; rfl⟩
        case measure => simp [intOf]; omega
      | some o =>
        have hp : wr.cell? ⟨p, k, none⟩ = some (.pointer (some ⟨w.heap.size, o, none⟩)) := (HS.out.rp.2 k).trans ((numPtrs_at _ k hlt).trans (by unfold ptrAt; rw [ho]; rfl))
        have hq : wr.cell? ⟨p + 1, k, none⟩ = some (.pointer (some ⟨w.heap.size + 1, o, none⟩)) := (HS.out.rq.2 k).trans ((numPtrs_at _ k hlt).trans (by unfold ptrAt; rw [ho]; rfl))
        have hx : wr.cell? ⟨w.heap.size, o, none⟩ = some (I (numF a k)) := (hra o).trans (lt_num a _ _ _ k o hlt ho)
        have hy : wr.cell? ⟨w.heap.size + 1, o, none⟩ = some (I (numF b k)) := (hrb o).trans (lt_num b _ _ _ k o hlt ho)
        clear hra hrb
        have HO := Lib.hid ho
        clear ho
        cases hd : (numF a k == numF b k)
        · have HD := Lib.hid hd
          obtain ⟨x, hx0⟩ : ∃ x, numF a k = x := ⟨_, rfl⟩
          obtain ⟨y, hy0⟩ : ∃ x, numF b k = x := ⟨_, rfl⟩
          rw [hx0] at hx hd
          rw [hy0] at hy hd
          clear hx0 hy0
          go_wp2_with fail
          go_quiet (fail)
          go_wp2
          go_ret
          exact ⟨by rw [numsEq_no hlt HO.out HD.out]; rfl, (HS.out.draws _).lo⟩
        · have HD := Lib.hid hd
          obtain ⟨x, hx0⟩ : ∃ x, numF a k = x := ⟨_, rfl⟩
          obtain ⟨y, hy0⟩ : ∃ x, numF b k = x := ⟨_, rfl⟩
          rw [hx0] at hx hd
          rw [hy0] at hy hd
          clear hx0 hy0
          go_wp2_with fail
          go_quiet (fail)
          go_wp2
          go_roundw
          case rel => exact ⟨k + 1, by omega, by go_num, HS.out.draws _, fun j hj => by
            rcases Nat.lt_succ_iff_lt_or_eq.1 hj with h | h
            · exact HALL.out j h
            · subst h; rw [HD.out, Bool.or_true]⟩
          case measure => simp [intOf]; omega
    · have hke : k = 17 := by omega
      subst hke
      have HNE : Hid (numsEq a b = true) := Lib.hid (numsEq_yes HALL.out)
      have HRWA := Lib.hid HS.out.ra
      have HRWB := Lib.hid HS.out.rb
      have HLO := Lib.hid HS.out.lo
      have hl1 := HRWA.out.1
      have hl2 := HRWB.out.1
      clear hlt hk HALL HS
      go_upto_region 8 with fail
      go_cut [2, 3, 8, 9] (fun p q x y wx => SmCut w a b s t p q x y wx)
      case first =>
        go_region
        · have h2 := Lib.hid (two_rows wr (serCells a.series (.slice s.A a.series.rule.length s.c) (.slice s.B a.series.moves.length s.d)) (serCells b.series (.slice t.A b.series.rule.length t.c) (.slice t.B b.series.moves.length t.d)) 31)
          go_wp2_with fail
          go_meet
          exact ⟨rfl, rfl, _, _, rfl, rfl, HRWA.out.keep h2.out.2.2, HRWB.out.keep h2.out.2.2, h2.out.1, h2.out.2.1, below_trans HLO.out h2.out.2.2⟩
        · have h2 := Lib.hid (two_rows wr (serCells b.series (.slice t.A b.series.rule.length t.c) (.slice t.B b.series.moves.length t.d)) (serCells a.series (.slice s.A a.series.rule.length s.c) (.slice s.B a.series.moves.length s.d)) 31)
          go_wp2_with fail
          go_meet
          exact ⟨rfl, rfl, _, _, rfl, rfl, HRWA.out.keep h2.out.2.2, HRWB.out.keep h2.out.2.2, h2.out.2.1, h2.out.1, below_trans HLO.out h2.out.2.2⟩
      case rest =>
        obtain ⟨rfl, rfl, g, h, rfl, rfl, hca, hcb, hcg, hch, hlo⟩ := hcut
        clear hra hrb hl1 hl2 HRWA HRWB HLO
        have HLO := Lib.hid hlo
        have hra := hca.2
        have hrb := hcb.2
        have hrg : ∀ i, wc.cell? ⟨g, i, none⟩ = (#[.slice s.A a.series.rule.length s.c, I a.series.minute, I a.series.length, .string a.series.zone, I a.series.gap, I a.series.fold, .slice s.B a.series.moves.length s.d] : Array Value)[i]? := hcg.2
        have hrh : ∀ i, wc.cell? ⟨h, i, none⟩ = (#[.slice t.A b.series.rule.length t.c, I b.series.minute, I b.series.length, .string b.series.zone, I b.series.gap, I b.series.fold, .slice t.B b.series.moves.length t.d] : Array Value)[i]? := hch.2
        have hda : wc.rangeAt w.heap.size 30 (refCells a.ref) := fun j v hv => (hra (30 + j)).trans ((lt_getRef a _ _ _ j).trans hv)
        have hdb : wc.rangeAt (w.heap.size + 1) 30 (refCells b.ref) := fun j v hv => (hrb (30 + j)).trans ((lt_getRef b _ _ _ j).trans hv)
        have h32a : (refCells a.ref).length = 32 := by simp [refCells, HA.out.ref]
        have h32b : (refCells b.ref).length = 32 := by simp [refCells, HB.out.ref]
        have HDIA : Hid ((Tryz.prog.info? 35).map (·.size) = some (refCells a.ref).length) := Lib.hid (by rw [h32a]; kernel_rfl)
        have HDIB : Hid ((Tryz.prog.info? 35).map (·.size) = some (refCells b.ref).length) := Lib.hid (by rw [h32b]; kernel_rfl)
        have heqd := fun W => neq_digest a.ref b.ref HA.out.ref HB.out.ref W
        have heqm : ∀ W, (binOp .neq 26 (.agg #[I a.move.day, .bool a.move.drop, I a.move.toDay, I a.move.minute, I a.move.length]) (.agg #[I b.move.day, .bool b.move.drop, I b.move.toDay, I b.move.minute, I b.move.length])).run Tryz.prog W = .ok (.bool (!(moveEq a.move b.move))) W := fun W => neq_move a.move.day a.move.toDay a.move.minute a.move.length b.move.day b.move.toDay b.move.minute b.move.length a.move.drop b.move.drop W
        have heqw := fun W => neq_span a.wfrom a.wto b.wfrom b.wto W
        have HDA := Lib.hid hda
        have HDB := Lib.hid hdb
        have hlg := hcg.1
        have hlh := hch.1
        clear hca hcb hcg hch hlo hda hdb h32a h32b
        obtain ⟨q0, h0⟩ : ∃ q, (a.kind == b.kind) = q := ⟨_, rfl⟩
        obtain ⟨q1, h1⟩ : ∃ q, (a.src == b.src) = q := ⟨_, rfl⟩
        obtain ⟨q2, h2⟩ : ∃ q, (a.dst == b.dst) = q := ⟨_, rfl⟩
        obtain ⟨q3, h3⟩ : ∃ q, moveEq a.move b.move = q := ⟨_, rfl⟩
        obtain ⟨q4, h4⟩ : ∃ q, (decide (a.wfrom = b.wfrom) && decide (a.wto = b.wto)) = q := ⟨_, rfl⟩
        obtain ⟨q5, h5⟩ : ∃ q, (a.ref == b.ref) = q := ⟨_, rfl⟩
        obtain ⟨q6, h6⟩ : ∃ q, (a.series.minute == b.series.minute) = q := ⟨_, rfl⟩
        obtain ⟨q7, h7⟩ : ∃ q, (a.series.length == b.series.length) = q := ⟨_, rfl⟩
        obtain ⟨q8, h8⟩ : ∃ q, (a.series.zone.toList == b.series.zone.toList) = q := ⟨_, rfl⟩
        obtain ⟨q9, h9⟩ : ∃ q, (a.series.gap == b.series.gap) = q := ⟨_, rfl⟩
        obtain ⟨q10, h10⟩ : ∃ q, (a.series.fold == b.series.fold) = q := ⟨_, rfl⟩
        have HE : Hid (headEq a b = (q0 && q1 && q2 && q3 && q4 && q5)) := Lib.hid (by unfold headEq; rw [h0, h1, h2, h3, h4, h5])
        have HSE : Hid (serEq a.series b.series = (q6 && q7 && q8 && q9 && q10)) := Lib.hid (by unfold serEq; rw [h6, h7, h8, h9, h10])
        rw [h3] at heqm
        rw [h4] at heqw
        rw [h5] at heqd
        clear h3 h4 h5
        cases q0
        · go_wp2_with fail
          go_ret
          exact ⟨by rw [HE.out, HSE.out]; simp, HLO.out⟩
        go_upto_region 10 with fail
        cases q1
        · go_wp2_with fail
          go_ret
          exact ⟨by rw [HE.out, HSE.out]; simp, HLO.out⟩
        go_upto_region 11 with fail
        cases q2
        · go_wp2_with fail
          go_ret
          exact ⟨by rw [HE.out, HSE.out]; simp, HLO.out⟩
        go_upto_region 12 with fail
        cases q3
        · go_wp2_with fail
          go_ret
          exact ⟨by rw [HE.out, HSE.out]; simp, HLO.out⟩
        go_upto_region 13 with fail
        cases q4
        · go_wp2_with fail
          go_ret
          exact ⟨by rw [HE.out, HSE.out]; simp, HLO.out⟩
        go_upto_region 14 with fail
        cases q5
        · go_wp2_with (first
            | (refine wpList_load_at rfl _ _ rfl w.heap.size 30 rfl (refCells a.ref) HDA.out _ Tryz.underlying35 rfl HDIA.out ?_)
            | (refine wpList_load_at rfl _ _ rfl (w.heap.size + 1) 30 rfl (refCells b.ref) HDB.out _ Tryz.underlying35 rfl HDIB.out ?_))
          go_ret
          exact ⟨by rw [HE.out, HSE.out]; simp, HLO.out⟩
        go_upto_region 16 with (first
            | (refine wpList_load_at rfl _ _ rfl w.heap.size 30 rfl (refCells a.ref) HDA.out _ Tryz.underlying35 rfl HDIA.out ?_)
            | (refine wpList_load_at rfl _ _ rfl (w.heap.size + 1) 30 rfl (refCells b.ref) HDB.out _ Tryz.underlying35 rfl HDIB.out ?_))
        cases q6
        · go_wp2_with fail
          go_ret
          exact ⟨by rw [HE.out, HSE.out]; simp, HLO.out⟩
        go_upto_region 17 with fail
        cases q7
        · go_wp2_with fail
          go_ret
          exact ⟨by rw [HE.out, HSE.out]; simp, HLO.out⟩
        go_upto_region 18 with fail
        cases q8
        · go_wp2_with fail
          go_ret
          exact ⟨by rw [HE.out, HSE.out]; simp, HLO.out⟩
        go_upto_region 19 with fail
        cases q9
        · go_wp2_with fail
          go_ret
          exact ⟨by rw [HE.out, HSE.out]; simp, HLO.out⟩
        go_upto_region 20 with fail
        cases q10
        · go_wp2_with fail
          go_ret
          exact ⟨by rw [HE.out, HSE.out]; simp, HLO.out⟩
        go_upto_region 22 with fail
        cases cq
        · go_wp2_with (go_at_call 34; refine (HC.out _ HLO.out).mono ?_; rintro e w5 ⟨rfl, hb5⟩; have HB5 := Lib.hid (below_trans HLO.out hb5); clear hb5)
          go_ret
          exact ⟨by simp, HB5.out⟩
        cases mq
        · go_wp2_with (first
            | (go_at_call 34; refine (HC.out _ HLO.out).mono ?_; rintro e w5 ⟨rfl, hb5⟩; have HB5 := Lib.hid (below_trans HLO.out hb5); have hg5 := (Row.keep ⟨hlg, hrg⟩ hb5).2; have hh5 := (Row.keep ⟨hlh, hrh⟩ hb5).2; clear hb5)
            | (go_at_call 35; refine (HM.out _ HB5.out).mono ?_; rintro e w6 ⟨rfl, hb6⟩; have HB6 := Lib.hid (below_trans HB5.out hb6); clear hb6))
          go_ret
          exact ⟨by simp, HB6.out⟩
        go_wp2_with (first
          | (go_at_call 34; refine (HC.out _ HLO.out).mono ?_; rintro e w5 ⟨rfl, hb5⟩; have HB5 := Lib.hid (below_trans HLO.out hb5); have hg5 := (Row.keep ⟨hlg, hrg⟩ hb5).2; have hh5 := (Row.keep ⟨hlh, hrh⟩ hb5).2; have hlg5 := Nat.lt_of_lt_of_le hlg hb5.size; have hlh5 := Nat.lt_of_lt_of_le hlh hb5.size; clear hb5)
          | (go_at_call 35; refine (HM.out _ HB5.out).mono ?_; rintro e w6 ⟨rfl, hb6⟩; have HB6 := Lib.hid (below_trans HB5.out hb6); have hg6 := (Row.keep ⟨hlg5, hg5⟩ hb6).2; have hh6 := (Row.keep ⟨hlh5, hh5⟩ hb6).2; clear hb6)
          | (go_at_call 36; refine (HR.out _ HB6.out).mono ?_; rintro e w7 ⟨rfl, hb7⟩; have HB7 := Lib.hid (below_trans HB6.out hb7); clear hb7))
        go_ret
        exact ⟨by rw [HNE.out, HE.out, HSE.out]; rfl, HB7.out⟩
end Go.Proofs.YthhbbebabmemfaaGreat
