/- The texts Same, ValidB, Reader, Back, in this order. -/
import Derived.Test.YtpgagfmpikhpkaaGreatDoorG06
import Derived.Test.YtpgagfmpikhpkaaGreatDoorG02
import Derived.BigQuiet
import Derived.Test.YtpgagfmpikhpkaaGreatDoorG03
import Derived.Laws.EntriesVeiled
import Derived.StillTailTactics
import Derived.RangeFuncNested
import Derived.RangeFuncBound
import Derived.RangeFuncCalls
import Derived.RangeFuncLeaves
import Derived.RangeFuncBox
import Derived.Shelf.Abstract
import Derived.Shelf.RegionOpen
import Derived.OwnWalkIn
import Derived.TacticsInMore
import Derived.LoopNIn
import Derived.LoopIn
/- letter.Same. -/
namespace Go.Proofs.YtpgagfmpikhpkaaGreatDoor
open Go Go.RowKit

section
variable {P : Program} {ops : Array Oper} {Q : Exit → Act → World → Prop} {a : Act} {w : World} {rest : List Oper} {o o2 o3 o4 : Oper}
theorem setRow_alloc_old (w : World) (o : Obj) (g : Nat) (c : Array Value) (h : g < w.heap.size) : (w.alloc o).setRow g c = (w.setRow g c).alloc o := by
  simp only [World.setRow, World.alloc]
  congr 1
  apply Array.ext_getElem?
  intro i
  rw [Array.getElem?_modify, Array.getElem?_push, Array.getElem?_push, Array.getElem?_modify, Array.size_modify]
  by_cases h1 : i = w.heap.size
  · subst h1
    have : ¬ g = w.heap.size := by omega
    simp [this]
  · simp [h1]
theorem setRow_two (w : World) (c c' d d' : Array Value) (t : TypeId) :
    (((w.alloc (.cells c t)).alloc (.cells d t)).setRow w.heap.size c').setRow (w.heap.size + 1) d' = (w.alloc (.cells c' t)).alloc (.cells d' t) := by
  rw [setRow_alloc_old _ _ _ _ (by simp), World.setRow_alloc_new]
  have := World.setRow_alloc_new (w.alloc (.cells c' t)) d d' t
  rwa [World.size_alloc] at this
/-- 'x, y := u, v': two new variables, then both rows stored. -/
theorem wpList_var_two (hg : o.guard = none) (hg2 : o2.guard = none) (hg3 : o3.guard = none) (hg4 : o4.guard = none) (t : TypeId) (d d2 : Tmp) (y y2 : Operand) (ho : o.op = .alloc t) (hd : o.dst = some d) (ho2 : o2.op = .alloc t) (hd2 : o2.dst = some d2)
    (ho3 : o3.op = .store t (.tmp d) y) (hd3 : o3.dst = none) (ho4 : o4.op = .store t (.tmp d2) y2) (hd4 : o4.dst = none)
    (z : Array Value) (c c2 : Array Value) (hz : (P.info? t).map (fun i => (i.zero, i.size)) = some (some (.agg z), z.size)) (hzs : z.size = c.size) (hzs2 : z.size = c2.size)
    (a1 : Act) (ha1 : (a.put (some d) (.pointer (some ⟨w.heap.size, 0, none⟩))).put (some d2) (.pointer (some ⟨w.heap.size + 1, 0, none⟩)) = a1)
    (hx : a1.eval (.tmp d) = .pointer (some ⟨w.heap.size, 0, none⟩)) (hx2 : a1.eval (.tmp d2) = .pointer (some ⟨w.heap.size + 1, 0, none⟩))
    (hy : a1.eval y = .agg c) (hy2 : a1.eval y2 = .agg c2) (h1 : c.all (·.oneCell') = true) (h2 : c2.all (·.oneCell') = true)
    (h : wpList P ops Q rest a1 ((w.alloc (.cells c t)).alloc (.cells c2 t))) : wpList P ops Q (o :: o2 :: o3 :: o4 :: rest) a w := by
  have hi : (P.info? t).map (·.size) = some z.size := (zero_of_info hz).2
  refine wpList_plain hg fun K hK => ?_
  unfold Oper.wp execOp
  simp only [ho, Sem.run_bind, run_alloc_var w t (.agg z) _ hz, Result.andThen_ok]
  refine hK _ _ ?_
  refine wpList_plain hg2 fun K2 hK2 => ?_
  unfold Oper.wp execOp
  simp only [ho2, Sem.run_bind, run_alloc_var _ t (.agg z) _ hz, Result.andThen_ok]
  refine hK2 _ _ ?_
  rw [hd, hd2, World.size_alloc, ha1]
  refine wpList_store_row hg3 t _ y ho3 w.heap.size c hx hy t z (heap_alloc2_old w _ _) (by rw [hi, hzs]) hzs h1 ?_
  rw [hd3]
  refine wpList_store_row hg4 t _ y2 ho4 (w.heap.size + 1) c2 hx2 hy2 t z ((setRow_other _ _ _ _ (by omega)).trans (heap_alloc2_new w _ _)) (by rw [hi, hzs2]) hzs2 h2 ?_
  rw [hd4]
  show wpList P ops Q rest a1 _
  have e := setRow_two w z c z c2 t
  rw [show Value.cells (.agg z) = z from rfl, e]
  exact h
/-- A whole array loaded out of the middle of a block. -/
theorem wpList_load_at (hw : Region.wanted o (yielded ops a.tmps) = true) (ty : TypeId) (x : Operand) (ho : o.op = .load ty x) (g off : Nat) (hx : a.eval x = .pointer (some ⟨g, off, none⟩)) (cs : List Value) (hc : w.rangeAt g off cs)
    (d : TypeDesc) (hu : P.underlying ty = some d) (hd : d.isRow = true) (hi : (P.info? ty).map (·.size) = some cs.length)
    (h : wpList P ops Q rest (a.put o.dst (.agg cs.toArray)) w) : wpList P ops Q (o :: rest) a w := by
  unfold wpList
  rw [if_pos hw]
  exact .inl (wp_load_mid ty x ho g off hx cs d hc hu hd hi h)
end
/-- The letters and the two tables of addresses, as they lie. -/
structure SmIn (w : World) (a b : Array Value) (p : Nat) (w' : World) : Prop where
  ra : Row w' w.heap.size a
  rb : Row w' (w.heap.size + 1) b
  rp : Row w' p (numPtrs w.heap.size)
  rq : Row w' (p + 1) (numPtrs (w.heap.size + 1))
  lo : Below w.heap.size w w'
theorem SmIn.draw {w w' : World} {a b : Array Value} {p : Nat} (h : SmIn w a b p w') : SmIn w a b p w'.drew := ⟨h.ra, h.rb, h.rp, h.rq, h.lo.drew⟩
theorem SmIn.draws {w w' : World} {a b : Array Value} {p : Nat} (h : SmIn w a b p w') (n : Nat) : SmIn w a b p (w'.drewN n) := ⟨h.ra, h.rb, h.rp, h.rq, ⟨h.lo.os, h.lo.tape, h.lo.output, h.lo.size, h.lo.block⟩⟩
def numsEq (a b : Lt) : Bool := (List.range 17).all fun k => (numOff k).isNone || (numF a k == numF b k)
theorem numsEq_no {a b : Lt} {k : Nat} {o : Nat} (hk : k < 17) (ho : numOff k = some o) (h : (numF a k == numF b k) = false) : numsEq a b = false := by
  unfold numsEq
  rw [Bool.eq_false_iff]; intro h'; rw [List.all_eq_true] at h'
  have := h' k (List.mem_range.2 hk); rw [h, ho] at this; cases this
theorem numsEq_yes {a b : Lt} (h : ∀ k, k < 17 → ((numOff k).isNone || (numF a k == numF b k)) = true) : numsEq a b = true := by
  unfold numsEq
  rw [List.all_eq_true]; intro k hk; exact h k (List.mem_range.1 hk)
def SmRel (w : World) (la lb : Lt) (a b : Array Value) (p : Nat) (i : Value) (wr : World) : Prop :=
  ∃ k : Nat, k ≤ 17 ∧ i = .int .i64 k ∧ SmIn w a b p wr ∧ ∀ j, j < k → ((numOff j).isNone || (numF la j == numF lb j)) = true
def moveEq (x y : Mv) : Bool := decide (x.day = y.day) && (x.drop == y.drop) && decide (x.toDay = y.toDay) && decide (x.minute = y.minute) && decide (x.length = y.length)
def headEq (a b : Lt) : Bool := (a.kind == b.kind) && (a.src == b.src) && (a.dst == b.dst) && moveEq a.move b.move && (decide (a.wfrom = b.wfrom) && decide (a.wto = b.wto)) && (a.ref == b.ref)
def serEq (a b : Ser) : Bool := (a.minute == b.minute) && (a.length == b.length) && (a.zone.toList == b.zone.toList) && (a.gap == b.gap) && (a.fold == b.fold)
theorem ptrs_zero : (Tryz.prog.info? 66).map (fun i => (i.zero, i.size)) = some (some (.agg (Array.replicate 17 (.pointer none))), (Array.replicate 17 (Value.pointer none)).size) := by kernel_rfl
theorem sm_start {w w2 : World} {a b : Array Value} (t : TypeId) (ha : Row w2 w.heap.size a) (hb : Row w2 (w.heap.size + 1) b) (hlo : Below w.heap.size w w2) :
    SmIn w a b w2.heap.size ((w2.alloc (.cells (numPtrs w.heap.size) t)).alloc (.cells (numPtrs (w.heap.size + 1)) t)) := by
  have h1 := below_var w2 (.cells (numPtrs w.heap.size) t)
  have h2 := below_var (w2.alloc (.cells (numPtrs w.heap.size) t)) (.cells (numPtrs (w.heap.size + 1)) t)
  exact ⟨(ha.keep h1).keep h2, (hb.keep h1).keep h2, (Row.new w2 _ t).keep h2, by have := Row.new (w2.alloc (.cells (numPtrs w.heap.size) t)) (numPtrs (w.heap.size + 1)) t; rwa [World.size_alloc] at this, below_trans (below_trans hlo h1) h2⟩
theorem neq_digest (r r' : List UInt8) (h : r.length = 32) (h' : r'.length = 32) (w : World) :
    (binOp .neq 34 (.agg (refCells r).toArray) (.agg (refCells r').toArray)).run Tryz.prog w = .ok (.bool (!(r == r'))) w := by
  unfold refCells
  rw [run_neq_struct, run_equalIn_bytes w 9998 34 5 32 Tryz.underlying34 Tryz.underlying5 (fun w => size_u8 w) r r' h h']
  rfl
theorem neq_move (d t n l d' t' n' l' : Int) (b b' : Bool) (W : World) :
    (binOp .neq 25 (.agg #[I d, .bool b, I t, I n, I l]) (.agg #[I d', .bool b', I t', I n', I l'])).run Tryz.prog W =
      .ok (.bool (!(decide (d = d') && (b == b') && decide (t = t') && decide (n = n') && decide (l = l')))) W := by
  by_cases h1 : d = d' <;> by_cases h2 : b = b' <;> by_cases h3 : t = t' <;> by_cases h4 : n = n' <;> by_cases h5 : l = l'
  all_goals simp [go_sem, h1, h2, h3, h4, h5]
theorem neq_span (a b a' b' : Int) (W : World) :
    (binOp .neq 32 (.agg #[I a, I b]) (.agg #[I a', I b'])).run Tryz.prog W = .ok (.bool (!(decide (a = a') && decide (b = b')))) W := by
  by_cases h1 : a = a' <;> by_cases h2 : b = b'
  all_goals simp [go_sem, h1, h2]
theorem two_rows (w : World) (X Y : Array Value) (t : TypeId) : Row ((w.alloc (.cells X t)).alloc (.cells Y t)).drew w.heap.size X ∧ Row ((w.alloc (.cells X t)).alloc (.cells Y t)).drew (w.heap.size + 1) Y ∧ Below w.heap.size w ((w.alloc (.cells X t)).alloc (.cells Y t)).drew := by
  have h2 := below_var (w.alloc (.cells X t)) (.cells Y t)
  have hY := Row.new (w.alloc (.cells X t)) Y t
  rw [World.size_alloc] at hY
  exact ⟨(Row.new w X t).keep h2.drew, hY, (below_trans (below_var w (.cells X t)) h2).drew⟩
/-- Behind the two copies of the series. -/
def SmCut (w : World) (a b : Lt) (s t : Sl) (p q x y : Value) (wx : World) : Prop :=
  p = pt w.heap.size ∧ q = pt (w.heap.size + 1) ∧ ∃ g h, x = pt g ∧ y = pt h ∧ Row wx w.heap.size (ltVal a s) ∧ Row wx (w.heap.size + 1) (ltVal b t) ∧
    Row wx g (serCells a.series (.slice s.A a.series.rule.length s.c) (.slice s.B a.series.moves.length s.d)) ∧ Row wx h (serCells b.series (.slice t.A b.series.rule.length t.c) (.slice t.B b.series.moves.length t.d)) ∧ Below w.heap.size w wx
attribute [local go_sem] ltVal_get lt_get0 lt_get1 lt_get2 lt_get12 lt_get13 lt_get14 lt_get15 lt_get16 lt_get17 lt_get18 lt_get19 lt_get20 lt_get21 lt_get22 lt_get23 lt_get27 lt_get28 lt_get29
set_option maxRecDepth 10000 in
set_option maxHeartbeats 4000000 in
theorem same_any (a b : Lt) (s t : Sl) (w : World) (ha : LtOK a) (hb : LtOK b) (cq mq rq : Bool)
    (hc : ∀ w', Below w.heap.size w w' → Calls Tryz.prog 27 #[.slice s.C a.cells.length s.e, .slice t.C b.cells.length t.e] w' (Gives (.bool cq) w'))
    (hm : ∀ w', Below w.heap.size w w' → Calls Tryz.prog 28 #[.slice s.B a.series.moves.length s.d, .slice t.B b.series.moves.length t.d] w' (Gives (.bool mq) w'))
    (hr : ∀ w', Below w.heap.size w w' → Calls Tryz.prog 29 #[.slice s.A a.series.rule.length s.c, .slice t.A b.series.rule.length t.c, .func (.func 30) #[] #[]] w' (Gives (.bool rq) w')) :
    Calls Tryz.prog 10 #[.agg (ltVal a s), .agg (ltVal b t)] w (Gives (.bool (numsEq a b && headEq a b && serEq a.series b.series && (cq && mq && rq))) w) := by
  have HRA := Lib.hid ((Row.new w (ltVal a s) 36).keep (below_var _ (.cells (ltVal b t) 36)))
  have HRB : Hid (Row ((w.alloc (.cells (ltVal a s) 36)).alloc (.cells (ltVal b t) 36)) (w.heap.size + 1) (ltVal b t)) := Lib.hid (by have := Row.new (w.alloc (.cells (ltVal a s) 36)) (ltVal b t) 36; rwa [World.size_alloc] at this)
  have HB0 := Lib.hid (below_trans (below_var w (.cells (ltVal a s) 36)) (below_var _ (.cells (ltVal b t) 36)))
  have HC := Lib.hid hc
  have HM := Lib.hid hm
  have HR := Lib.hid hr
  have HA := Lib.hid ha
  have HB := Lib.hid hb
  clear hc hm hr ha hb
  go_enter Tryz.func10, Tryz.ntmps10
  go_wp2_with fail
  refine (numbers_any w.heap.size _).mono ?_
  rintro e w1 ⟨rfl, hb1⟩
  have HRA1 := Lib.hid (HRA.out.keep hb1)
  have HRB1 := Lib.hid (HRB.out.keep hb1)
  have HB1 := Lib.hid (below_trans HB0.out hb1)
  clear hb1
  go_wp2_with fail
  refine (numbers_any (w.heap.size + 1) _).mono ?_
  rintro e w2 ⟨rfl, hb2⟩
  have HRA2 := Lib.hid (HRA1.out.keep hb2)
  have HRB2 := Lib.hid (HRB1.out.keep hb2)
  have HB2 := Lib.hid (below_trans HB1.out hb2)
  clear hb2
  go_wp2_with (refine wpList_var_two rfl rfl rfl rfl _ _ _ _ _ rfl rfl rfl rfl rfl rfl rfl rfl (Array.replicate 17 (.pointer none)) (numPtrs w.heap.size) (numPtrs (w.heap.size + 1)) ptrs_zero rfl rfl _ rfl (by kernel_rfl) (by kernel_rfl) (by kernel_rfl) (by kernel_rfl) (numPtrs_one _) (numPtrs_one _) ?_)
  go_loopw [12] (fun i wr => SmRel w a b (ltVal a s) (ltVal b t) w2.heap.size i wr) (fun i _ => 17 - (intOf i).toNat)
  case atStart => exact ⟨0, by omega, rfl, sm_start _ HRA2.out HRB2.out HB2.out, fun j hj => absurd hj (by omega)⟩
  case round =>
    obtain ⟨k, hk, rfl, hs1, hall⟩ := hrel
    have HS := Lib.hid hs1
    have HALL := Lib.hid hall
    have hra := hs1.ra.2
    have hrb := hs1.rb.2
    clear hs1 hall HRA HRB HB0 HRA1 HRB1 HB1 HRA2 HRB2 HB2
    obtain ⟨p, hpe⟩ : ∃ p, w2.heap.size = p := ⟨_, rfl⟩
    rw [hpe] at HS ⊢
    clear hpe
    by_cases hlt : k < 17
    · have hltI : (k : Int) < 17 := by omega
      cases ho : numOff k with
      | none =>
        have hp : wr.cell? ⟨p, k, none⟩ = some (.pointer none) := (HS.out.rp.2 k).trans ((numPtrs_at _ k hlt).trans (by unfold ptrAt; rw [ho]))
        have HO := Lib.hid ho
        clear ho hra hrb
        go_wp2_with fail
        go_quiet (fail)
        go_wp2
        go_roundw
        case rel => exact ⟨k + 1, by omega, by go_num, HS.out.draws _, fun j hj => by
          rcases Nat.lt_succ_iff_lt_or_eq.1 hj with h | h
          · exact HALL.out j h
          · subst h; rw [HO.out]; rfl⟩
        case measure => simp [intOf]; omega
      | some o =>
        have hp : wr.cell? ⟨p, k, none⟩ = some (.pointer (some ⟨w.heap.size, o, none⟩)) := (HS.out.rp.2 k).trans ((numPtrs_at _ k hlt).trans (by unfold ptrAt; rw [ho]; rfl))
        have hq : wr.cell? ⟨p + 1, k, none⟩ = some (.pointer (some ⟨w.heap.size + 1, o, none⟩)) := (HS.out.rq.2 k).trans ((numPtrs_at _ k hlt).trans (by unfold ptrAt; rw [ho]; rfl))
        have hx : wr.cell? ⟨w.heap.size, o, none⟩ = some (I (numF a k)) := (hra o).trans (lt_num a _ _ _ k o hlt ho)
        have hy : wr.cell? ⟨w.heap.size + 1, o, none⟩ = some (I (numF b k)) := (hrb o).trans (lt_num b _ _ _ k o hlt ho)
        clear hra hrb
        have HO := Lib.hid ho
        clear ho
        cases hd : (numF a k == numF b k)
        · have HD := Lib.hid hd
          obtain ⟨x, hx0⟩ : ∃ x, numF a k = x := ⟨_, rfl⟩
          obtain ⟨y, hy0⟩ : ∃ x, numF b k = x := ⟨_, rfl⟩
          rw [hx0] at hx hd
          rw [hy0] at hy hd
          clear hx0 hy0
          go_wp2_with fail
          go_quiet (fail)
          go_wp2
          go_ret
          exact ⟨by rw [numsEq_no hlt HO.out HD.out]; rfl, (HS.out.draws _).lo⟩
        · have HD := Lib.hid hd
          obtain ⟨x, hx0⟩ : ∃ x, numF a k = x := ⟨_, rfl⟩
          obtain ⟨y, hy0⟩ : ∃ x, numF b k = x := ⟨_, rfl⟩
          rw [hx0] at hx hd
          rw [hy0] at hy hd
          clear hx0 hy0
          go_wp2_with fail
          go_quiet (fail)
          go_wp2
          go_roundw
          case rel => exact ⟨k + 1, by omega, by go_num, HS.out.draws _, fun j hj => by
            rcases Nat.lt_succ_iff_lt_or_eq.1 hj with h | h
            · exact HALL.out j h
            · subst h; rw [HD.out, Bool.or_true]⟩
          case measure => simp [intOf]; omega
    · have hke : k = 17 := by omega
      subst hke
      have HNE : Hid (numsEq a b = true) := Lib.hid (numsEq_yes HALL.out)
      have HRWA := Lib.hid HS.out.ra
      have HRWB := Lib.hid HS.out.rb
      have HLO := Lib.hid HS.out.lo
      have hl1 := HRWA.out.1
      have hl2 := HRWB.out.1
      clear hlt hk HALL HS
      go_upto_region 8 with fail
      go_cut [2, 3, 8, 9] (fun p q x y wx => SmCut w a b s t p q x y wx)
      case first =>
        go_region
        · have h2 := Lib.hid (two_rows wr (serCells a.series (.slice s.A a.series.rule.length s.c) (.slice s.B a.series.moves.length s.d)) (serCells b.series (.slice t.A b.series.rule.length t.c) (.slice t.B b.series.moves.length t.d)) 30)
          go_wp2_with fail
          go_meet
          exact ⟨rfl, rfl, _, _, rfl, rfl, HRWA.out.keep h2.out.2.2, HRWB.out.keep h2.out.2.2, h2.out.1, h2.out.2.1, below_trans HLO.out h2.out.2.2⟩
        · have h2 := Lib.hid (two_rows wr (serCells b.series (.slice t.A b.series.rule.length t.c) (.slice t.B b.series.moves.length t.d)) (serCells a.series (.slice s.A a.series.rule.length s.c) (.slice s.B a.series.moves.length s.d)) 30)
          go_wp2_with fail
          go_meet
          exact ⟨rfl, rfl, _, _, rfl, rfl, HRWA.out.keep h2.out.2.2, HRWB.out.keep h2.out.2.2, h2.out.2.1, h2.out.1, below_trans HLO.out h2.out.2.2⟩
      case rest =>
        obtain ⟨rfl, rfl, g, h, rfl, rfl, hca, hcb, hcg, hch, hlo⟩ := hcut
        clear hra hrb hl1 hl2 HRWA HRWB HLO
        have HLO := Lib.hid hlo
        have hra := hca.2
        have hrb := hcb.2
        have hrg : ∀ i, wc.cell? ⟨g, i, none⟩ = (#[.slice s.A a.series.rule.length s.c, I a.series.minute, I a.series.length, .string a.series.zone, I a.series.gap, I a.series.fold, .slice s.B a.series.moves.length s.d] : Array Value)[i]? := hcg.2
        have hrh : ∀ i, wc.cell? ⟨h, i, none⟩ = (#[.slice t.A b.series.rule.length t.c, I b.series.minute, I b.series.length, .string b.series.zone, I b.series.gap, I b.series.fold, .slice t.B b.series.moves.length t.d] : Array Value)[i]? := hch.2
        have hda : wc.rangeAt w.heap.size 30 (refCells a.ref) := fun j v hv => (hra (30 + j)).trans ((lt_getRef a _ _ _ j).trans hv)
        have hdb : wc.rangeAt (w.heap.size + 1) 30 (refCells b.ref) := fun j v hv => (hrb (30 + j)).trans ((lt_getRef b _ _ _ j).trans hv)
        have h32a : (refCells a.ref).length = 32 := by simp [refCells, HA.out.ref]
        have h32b : (refCells b.ref).length = 32 := by simp [refCells, HB.out.ref]
        have HDIA : Hid ((Tryz.prog.info? 34).map (·.size) = some (refCells a.ref).length) := Lib.hid (by rw [h32a]; kernel_rfl)
        have HDIB : Hid ((Tryz.prog.info? 34).map (·.size) = some (refCells b.ref).length) := Lib.hid (by rw [h32b]; kernel_rfl)
        have heqd := fun W => neq_digest a.ref b.ref HA.out.ref HB.out.ref W
        have heqm : ∀ W, (binOp .neq 25 (.agg #[I a.move.day, .bool a.move.drop, I a.move.toDay, I a.move.minute, I a.move.length]) (.agg #[I b.move.day, .bool b.move.drop, I b.move.toDay, I b.move.minute, I b.move.length])).run Tryz.prog W = .ok (.bool (!(moveEq a.move b.move))) W := fun W => neq_move a.move.day a.move.toDay a.move.minute a.move.length b.move.day b.move.toDay b.move.minute b.move.length a.move.drop b.move.drop W
        have heqw := fun W => neq_span a.wfrom a.wto b.wfrom b.wto W
        have HDA := Lib.hid hda
        have HDB := Lib.hid hdb
        have hlg := hcg.1
        have hlh := hch.1
        clear hca hcb hcg hch hlo hda hdb h32a h32b
        obtain ⟨q0, h0⟩ : ∃ q, (a.kind == b.kind) = q := ⟨_, rfl⟩
        obtain ⟨q1, h1⟩ : ∃ q, (a.src == b.src) = q := ⟨_, rfl⟩
        obtain ⟨q2, h2⟩ : ∃ q, (a.dst == b.dst) = q := ⟨_, rfl⟩
        obtain ⟨q3, h3⟩ : ∃ q, moveEq a.move b.move = q := ⟨_, rfl⟩
        obtain ⟨q4, h4⟩ : ∃ q, (decide (a.wfrom = b.wfrom) && decide (a.wto = b.wto)) = q := ⟨_, rfl⟩
        obtain ⟨q5, h5⟩ : ∃ q, (a.ref == b.ref) = q := ⟨_, rfl⟩
        obtain ⟨q6, h6⟩ : ∃ q, (a.series.minute == b.series.minute) = q := ⟨_, rfl⟩
        obtain ⟨q7, h7⟩ : ∃ q, (a.series.length == b.series.length) = q := ⟨_, rfl⟩
        obtain ⟨q8, h8⟩ : ∃ q, (a.series.zone.toList == b.series.zone.toList) = q := ⟨_, rfl⟩
        obtain ⟨q9, h9⟩ : ∃ q, (a.series.gap == b.series.gap) = q := ⟨_, rfl⟩
        obtain ⟨q10, h10⟩ : ∃ q, (a.series.fold == b.series.fold) = q := ⟨_, rfl⟩
        have HE : Hid (headEq a b = (q0 && q1 && q2 && q3 && q4 && q5)) := Lib.hid (by unfold headEq; rw [h0, h1, h2, h3, h4, h5])
        have HSE : Hid (serEq a.series b.series = (q6 && q7 && q8 && q9 && q10)) := Lib.hid (by unfold serEq; rw [h6, h7, h8, h9, h10])
        rw [h3] at heqm
        rw [h4] at heqw
        rw [h5] at heqd
        clear h3 h4 h5
        cases q0
        · go_wp2_with fail
          go_ret
          exact ⟨by rw [HE.out, HSE.out]; simp, HLO.out⟩
        go_upto_region 10 with fail
        cases q1
        · go_wp2_with fail
          go_ret
          exact ⟨by rw [HE.out, HSE.out]; simp, HLO.out⟩
        go_upto_region 11 with fail
        cases q2
        · go_wp2_with fail
          go_ret
          exact ⟨by rw [HE.out, HSE.out]; simp, HLO.out⟩
        go_upto_region 12 with fail
        cases q3
        · go_wp2_with fail
          go_ret
          exact ⟨by rw [HE.out, HSE.out]; simp, HLO.out⟩
        go_upto_region 13 with fail
        cases q4
        · go_wp2_with fail
          go_ret
          exact ⟨by rw [HE.out, HSE.out]; simp, HLO.out⟩
        go_upto_region 14 with fail
        cases q5
        · go_wp2_with (first
            | (refine wpList_load_at rfl _ _ rfl w.heap.size 30 rfl (refCells a.ref) HDA.out _ Tryz.underlying34 rfl HDIA.out ?_)
            | (refine wpList_load_at rfl _ _ rfl (w.heap.size + 1) 30 rfl (refCells b.ref) HDB.out _ Tryz.underlying34 rfl HDIB.out ?_))
          go_ret
          exact ⟨by rw [HE.out, HSE.out]; simp, HLO.out⟩
        go_upto_region 16 with (first
            | (refine wpList_load_at rfl _ _ rfl w.heap.size 30 rfl (refCells a.ref) HDA.out _ Tryz.underlying34 rfl HDIA.out ?_)
            | (refine wpList_load_at rfl _ _ rfl (w.heap.size + 1) 30 rfl (refCells b.ref) HDB.out _ Tryz.underlying34 rfl HDIB.out ?_))
        cases q6
        · go_wp2_with fail
          go_ret
          exact ⟨by rw [HE.out, HSE.out]; simp, HLO.out⟩
        go_upto_region 17 with fail
        cases q7
        · go_wp2_with fail
          go_ret
          exact ⟨by rw [HE.out, HSE.out]; simp, HLO.out⟩
        go_upto_region 18 with fail
        cases q8
        · go_wp2_with fail
          go_ret
          exact ⟨by rw [HE.out, HSE.out]; simp, HLO.out⟩
        go_upto_region 19 with fail
        cases q9
        · go_wp2_with fail
          go_ret
          exact ⟨by rw [HE.out, HSE.out]; simp, HLO.out⟩
        go_upto_region 20 with fail
        cases q10
        · go_wp2_with fail
          go_ret
          exact ⟨by rw [HE.out, HSE.out]; simp, HLO.out⟩
        go_upto_region 22 with fail
        cases cq
        · go_wp2_with (go_at_call 27; refine (HC.out _ HLO.out).mono ?_; rintro e w5 ⟨rfl, hb5⟩; have HB5 := Lib.hid (below_trans HLO.out hb5); clear hb5)
          go_ret
          exact ⟨by simp, HB5.out⟩
        cases mq
        · go_wp2_with (first
            | (go_at_call 27; refine (HC.out _ HLO.out).mono ?_; rintro e w5 ⟨rfl, hb5⟩; have HB5 := Lib.hid (below_trans HLO.out hb5); have hg5 := (Row.keep ⟨hlg, hrg⟩ hb5).2; have hh5 := (Row.keep ⟨hlh, hrh⟩ hb5).2; clear hb5)
            | (go_at_call 28; refine (HM.out _ HB5.out).mono ?_; rintro e w6 ⟨rfl, hb6⟩; have HB6 := Lib.hid (below_trans HB5.out hb6); clear hb6))
          go_ret
          exact ⟨by simp, HB6.out⟩
        go_wp2_with (first
          | (go_at_call 27; refine (HC.out _ HLO.out).mono ?_; rintro e w5 ⟨rfl, hb5⟩; have HB5 := Lib.hid (below_trans HLO.out hb5); have hg5 := (Row.keep ⟨hlg, hrg⟩ hb5).2; have hh5 := (Row.keep ⟨hlh, hrh⟩ hb5).2; have hlg5 := Nat.lt_of_lt_of_le hlg hb5.size; have hlh5 := Nat.lt_of_lt_of_le hlh hb5.size; clear hb5)
          | (go_at_call 28; refine (HM.out _ HB5.out).mono ?_; rintro e w6 ⟨rfl, hb6⟩; have HB6 := Lib.hid (below_trans HB5.out hb6); have hg6 := (Row.keep ⟨hlg5, hg5⟩ hb6).2; have hh6 := (Row.keep ⟨hlh5, hh5⟩ hb6).2; clear hb6)
          | (go_at_call 29; refine (HR.out _ HB6.out).mono ?_; rintro e w7 ⟨rfl, hb7⟩; have HB7 := Lib.hid (below_trans HB6.out hb7); clear hb7))
        go_ret
        exact ⟨by rw [HNE.out, HE.out, HSE.out]; rfl, HB7.out⟩
end Go.Proofs.YtpgagfmpikhpkaaGreatDoor

/- letter.Valid for letters that do not come to series.Valid: the code. -/
namespace Go.Proofs.YtpgagfmpikhpkaaGreatDoor
open Go Go.RowKit

theorem noSeries_lt (l : Lt) (s : Sl) (w : World) (h : LtOK l) :
    Calls Tryz.prog 42 #[.agg #[.slice s.A l.series.rule.length s.c, I l.series.minute, I l.series.length, .string l.series.zone, I l.series.gap, I l.series.fold, .slice s.B l.series.moves.length s.d]] w (Gives (.bool (nzOf l)) w) :=
  noSeries_any l.series s.A s.B _ _ s.c s.d w h.rule h.moves h.zone
theorem headOK_iff {l : Lt} (h : headOK l = true) : (1 ≤ l.kind ∧ l.kind ≤ 18) ∧ srvIn l.src = true ∧ srvIn l.dst = true ∧ (l.src == l.dst) = false := by
  unfold headOK at h
  simp only [Bool.and_eq_true, decide_eq_true_eq] at h
  obtain ⟨⟨⟨h1, h2⟩, h3⟩, h4⟩ := h
  exact ⟨h1, h2, h3, by rw [beq_dec]; exact decide_eq_false h4⟩
attribute [local go_sem] ltVal_get lt_get0 lt_get1 lt_get2 lt_get10 lt_get17 lt_get18 lt_get19 lt_get20 lt_get21 lt_get22 lt_get23 lt_get29

set_option maxRecDepth 10000 in
set_option maxHeartbeats 4000000 in
theorem valid_nos (l : Lt) (s : Sl) (w : World) (hok : LtOK l) (hi : IntsAt w w.heap.size s.C l.cells) (hh : headOK l = true) (hno : bodyOK l = true → l.cells.length ≤ 65536 → noSerB l = true) :
    Calls Tryz.prog 13 #[.agg (ltVal l s)] w (Gives (I (vCode l 0)) w) := by
  obtain ⟨⟨hk1, hk2⟩, h1, h2, he⟩ := headOK_iff hh
  have HC := Lib.hid (show vCode l 0 = if bodyOK l = false then 1 else if 65536 < l.cells.length then 2 else if noSerB l = true then 0 else 0 by unfold vCode; rw [if_neg (by rw [hh]; decide)])
  have H1 := Lib.hid h1
  have H2 := Lib.hid h2
  have HR0 := Lib.hid (Row.new w (ltVal l s) 36)
  have HB0 := Lib.hid (below_var w (.cells (ltVal l s) 36))
  have HSZ : Hid ((Tryz.prog.info? 36).map (·.size) = some (ltVal l s).size) := Lib.hid (by unfold ltVal; rw [lt_size _ _ _ _ hok.ref]; kernel_rfl)
  obtain ⟨b1, hb1⟩ : ∃ x, vNums l (bareB l.kind l.series.rule.length l.series.moves.length l.series) = x := ⟨_, rfl⟩
  obtain ⟨b2, hb2⟩ : ∃ x, oth l = x := ⟨_, rfl⟩
  have HBO := Lib.hid (show bodyOK l = (b1 && b2) by unfold bodyOK; rw [hb1, hb2])
  have HB1 := Lib.hid hb1
  have HB2 := Lib.hid hb2
  have HOK := Lib.hid hok
  have HI := Lib.hid hi
  have HNO := Lib.hid hno
  clear hh h1 h2 hb1 hb2 hok hi hno
  cases b1
  · as_aux_lemma =>
    go_enter Tryz.func13, Tryz.ntmps13
    go_wp2_with (first
      | (go_at_call 39; refine (server_any _ _).mono ?_; rintro e w' ⟨rfl, rfl⟩; first | rw [H1.out] | rw [H2.out])
      | (refine wpList_load_Row rfl _ _ rfl w.heap.size rfl (ltVal l s) HR0.out _ Tryz.underlying36 rfl HSZ.out ?_)
      | (go_at_call 40; refine (validNumbers_lt l s _ HOK.out).mono ?_; rintro e w1 ⟨rfl, hb1⟩; have HBb := Lib.hid (below_trans HB0.out hb1); rw [HB1.out]; clear hb1))
    go_ret
    exact ⟨ret_int (by rw [HC.out, HBO.out]; exact (if_pos rfl).symm), HBb.out⟩
  cases b2
  · as_aux_lemma =>
    go_enter Tryz.func13, Tryz.ntmps13
    go_wp2_with (first
      | (go_at_call 39; refine (server_any _ _).mono ?_; rintro e w' ⟨rfl, rfl⟩; first | rw [H1.out] | rw [H2.out])
      | (refine wpList_load_Row rfl _ _ rfl w.heap.size rfl (ltVal l s) (by first | with_reducible exact HRb.out | with_reducible exact HR0.out) _ Tryz.underlying36 rfl HSZ.out ?_)
      | (go_at_call 40; refine (validNumbers_lt l s _ HOK.out).mono ?_; rintro e w1 ⟨rfl, hb1⟩; have HRb := Lib.hid (HR0.out.keep hb1); have HBb := Lib.hid (below_trans HB0.out hb1); have HCb := Lib.hid ((HI.out.keep HBb.out).more HBb.out.size); have hrb := HRb.out.2; rw [HB1.out]; clear hb1)
      | (go_at_call 41; refine (validOthers_lt l s _ HOK.out HCb.out).mono ?_; rintro e w2 ⟨rfl, hb2⟩; have HBc := Lib.hid (below_trans HBb.out hb2); rw [HB2.out]; clear hb2))
    go_ret
    exact ⟨ret_int (by rw [HC.out, HBO.out]; exact (if_pos rfl).symm), HBc.out⟩
  by_cases hcl : 65536 < l.cells.length
  · as_aux_lemma =>
    go_enter Tryz.func13, Tryz.ntmps13
    go_wp2_with (first
      | (go_at_call 39; refine (server_any _ _).mono ?_; rintro e w' ⟨rfl, rfl⟩; first | rw [H1.out] | rw [H2.out])
      | (refine wpList_load_Row rfl _ _ rfl w.heap.size rfl (ltVal l s) (by first | with_reducible exact HRb.out | with_reducible exact HR0.out) _ Tryz.underlying36 rfl HSZ.out ?_)
      | (go_at_call 40; refine (validNumbers_lt l s _ HOK.out).mono ?_; rintro e w1 ⟨rfl, hb1⟩; have HRb := Lib.hid (HR0.out.keep hb1); have HBb := Lib.hid (below_trans HB0.out hb1); have HCb := Lib.hid ((HI.out.keep HBb.out).more HBb.out.size); have hrb := HRb.out.2; rw [HB1.out]; clear hb1)
      | (go_at_call 41; refine (validOthers_lt l s _ HOK.out HCb.out).mono ?_; rintro e w2 ⟨rfl, hb2⟩; have HRc := Lib.hid (HRb.out.keep hb2); have HBc := Lib.hid (below_trans HBb.out hb2); have hrc := HRc.out.2; rw [HB2.out]; clear hb2))
    go_ret
    exact ⟨ret_int (by rw [HC.out, HBO.out, if_neg (by decide), if_pos hcl]), HBc.out⟩
  have hnb := HNO.out (by rw [HBO.out]; rfl) (by omega)
  have HCC := Lib.hid (show vCode l 0 = 0 by rw [HC.out, HBO.out, if_neg (by decide), if_neg hcl, if_pos hnb])
  obtain ⟨u, hu⟩ : ∃ x, usesB l.kind 10 = x := ⟨_, rfl⟩
  have HU := Lib.hid hu
  unfold noSerB at hnb
  rw [hu] at hnb
  clear hu HC HNO
  cases u
  · as_aux_lemma =>
    clear hnb
    go_enter Tryz.func13, Tryz.ntmps13
    go_wp2_with (first
      | (go_at_call 39; refine (server_any _ _).mono ?_; rintro e w' ⟨rfl, rfl⟩; first | rw [H1.out] | rw [H2.out])
      | (refine wpList_load_Row rfl _ _ rfl w.heap.size rfl (ltVal l s) (by first | with_reducible exact HRb.out | with_reducible exact HR0.out) _ Tryz.underlying36 rfl HSZ.out ?_)
      | (go_at_call 40; refine (validNumbers_lt l s _ HOK.out).mono ?_; rintro e w1 ⟨rfl, hb1⟩; have HRb := Lib.hid (HR0.out.keep hb1); have HBb := Lib.hid (below_trans HB0.out hb1); have HCb := Lib.hid ((HI.out.keep HBb.out).more HBb.out.size); have hrb := HRb.out.2; rw [HB1.out]; clear hb1)
      | (go_at_call 41; refine (validOthers_lt l s _ HOK.out HCb.out).mono ?_; rintro e w2 ⟨rfl, hb2⟩; have HRc := Lib.hid (HRb.out.keep hb2); have HBc := Lib.hid (below_trans HBb.out hb2); have hrc := HRc.out.2; rw [HB2.out]; clear hb2)
      | (go_at_call 37; refine (uses_any _ _ _ (by omega) (by omega)).mono ?_; rintro e w3 ⟨rfl, hb3⟩; have HRd := Lib.hid (HRc.out.keep hb3); have HBd := Lib.hid (below_trans HBc.out hb3); have hrd := HRd.out.2; rw [HU.out]; clear hb3))
    go_ret
    exact ⟨ret_int HCC.out.symm, HBd.out⟩
  · as_aux_lemma =>
    have hnz : nzOf l = true := by cases h : nzOf l <;> simp_all
    rw [hnz] at hnb
    have HNZ := Lib.hid hnz
    have h81 : (l.kind == 8) = true ∨ (l.kind == 8) = false ∧ (l.scope == 1) = true := by
      rw [beq_dec, beq_dec]
      cases h : decide (l.kind = 8)
      · right; refine ⟨rfl, ?_⟩; rw [h] at hnb; simpa using hnb
      · exact .inl rfl
    clear hnz hnb
    rcases h81 with h8 | ⟨h8, h1'⟩
    all_goals
      go_enter Tryz.func13, Tryz.ntmps13
      go_wp2_with (first
        | (go_at_call 39; refine (server_any _ _).mono ?_; rintro e w' ⟨rfl, rfl⟩; first | rw [H1.out] | rw [H2.out])
        | (refine wpList_load_Row rfl _ _ rfl w.heap.size rfl (ltVal l s) (by first | with_reducible exact HRb.out | with_reducible exact HR0.out) _ Tryz.underlying36 rfl HSZ.out ?_)
        | (go_at_call 40; refine (validNumbers_lt l s _ HOK.out).mono ?_; rintro e w1 ⟨rfl, hb1⟩; have HRb := Lib.hid (HR0.out.keep hb1); have HBb := Lib.hid (below_trans HB0.out hb1); have HCb := Lib.hid ((HI.out.keep HBb.out).more HBb.out.size); have hrb := HRb.out.2; rw [HB1.out]; clear hb1)
        | (go_at_call 41; refine (validOthers_lt l s _ HOK.out HCb.out).mono ?_; rintro e w2 ⟨rfl, hb2⟩; have HRc := Lib.hid (HRb.out.keep hb2); have HBc := Lib.hid (below_trans HBb.out hb2); have hrc := HRc.out.2; rw [HB2.out]; clear hb2)
        | (go_at_call 37; refine (uses_any _ _ _ (by omega) (by omega)).mono ?_; rintro e w3 ⟨rfl, hb3⟩; have HRd := Lib.hid (HRc.out.keep hb3); have HBd := Lib.hid (below_trans HBc.out hb3); have hrd := HRd.out.2; rw [HU.out]; clear hb3)
        | (go_at_call 42; refine (noSeries_lt l s _ HOK.out).mono ?_; rintro e w4 ⟨rfl, hb4⟩; have HRe := Lib.hid (HRd.out.keep hb4); have HBe := Lib.hid (below_trans HBd.out hb4); have hre := HRe.out.2; rw [HNZ.out]; clear hb4))
      go_ret
      exact ⟨ret_int HCC.out.symm, HBe.out⟩
end Go.Proofs.YtpgagfmpikhpkaaGreatDoor

/- letter.newReader and its two closures. -/
namespace Go.Proofs.YtpgagfmpikhpkaaGreatDoor
open Go Go.RowKit

def takeFn (N : Nat) : Value := .func (.func 66) #[] #[pt (N + 2), pt N]
def doneFn (N : Nat) : Value := .func (.func 67) #[] #[pt (N + 2), pt N]
/-- The reader's three blocks: the bytes that are left, the reader, the variable r. -/
structure RBlk (w : World) (N b : Nat) (A : Option Addr) (n c : Nat) (bad : Bool) : Prop where
  rest : w.heap[N]? = some (.cells #[.slice A n c] 42 (0, 0))
  rd : w.heap[N + 1]? = some (.cells #[pt b, takeFn N, .bool bad] 112 (0, 0))
  var : w.heap[N + 2]? = some (.cells #[pt (N + 1)] 87 (0, 0))

theorem heap3 (w : World) (o0 o1 o2 : Obj) : (((w.alloc o0).alloc o1).alloc o2).heap[w.heap.size]? = some o0 ∧ (((w.alloc o0).alloc o1).alloc o2).heap[w.heap.size + 1]? = some o1 ∧ (((w.alloc o0).alloc o1).alloc o2).heap[w.heap.size + 2]? = some o2 := by
  refine ⟨?_, ?_, ?_⟩
  · rw [Below.heap_alloc _ o2 _ (by simp; omega), Below.heap_alloc _ o1 _ (by simp), heap_alloc_last]
  · rw [Below.heap_alloc _ o2 _ (by simp)]
    have := heap_alloc_last (w.alloc o0) o1
    simpa using this
  · have := heap_alloc_last ((w.alloc o0).alloc o1) o2
    simpa using this
/-- Only the reader's first two blocks have changed. -/
structure RKeep (N : Nat) (w w' : World) : Prop where
  os : w'.os = w.os
  tape : w'.tape = w.tape
  output : w'.output = w.output
  size : w.heap.size ≤ w'.heap.size
  block : ∀ k, k < w.heap.size → k ≠ N → k ≠ N + 1 → w'.heap[k]? = w.heap[k]?
theorem RKeep.refl (N : Nat) (w : World) : RKeep N w w := ⟨rfl, rfl, rfl, Nat.le_refl _, fun _ _ _ _ => rfl⟩
theorem RKeep.trans {N : Nat} {w w1 w2 : World} (h : RKeep N w w1) (k : RKeep N w1 w2) : RKeep N w w2 :=
  ⟨k.os.trans h.os, k.tape.trans h.tape, k.output.trans h.output, Nat.le_trans h.size k.size, fun b hb h1 h2 => (k.block b (Nat.lt_of_lt_of_le hb h.size) h1 h2).trans (h.block b hb h1 h2)⟩
theorem RKeep.set {N : Nat} {w w1 : World} (h : RKeep N w w1) {p : Addr} (hp : p.block = N ∨ p.block = N + 1) (u : Value) : RKeep N w (w1.setCell p u) :=
  ⟨h.os, h.tape, h.output, by simpa [World.setCell] using h.size, fun b hb h1 h2 => (heap_setCell_other w1 p b u (by rcases hp with e | e <;> omega)).trans (h.block b hb h1 h2)⟩
theorem RKeep.draw {N : Nat} {w w1 : World} (h : RKeep N w w1) : RKeep N w w1.drew := ⟨h.os, h.tape, h.output, h.size, h.block⟩

set_option maxRecDepth 10000 in
set_option maxHeartbeats 1000000 in
theorem newReader_any (b : Nat) (A : Option Addr) (n c : Nat) (w : World) :
    Calls Tryz.prog 45 #[pt b, .slice A n c] w fun e w' => e = .returned (.tuple #[pt (w.heap.size + 1), doneFn w.heap.size]) ∧ RBlk w' w.heap.size b A n c false ∧ w.heap.size + 3 ≤ w'.heap.size ∧ Below w.heap.size w w' := by
  go_enter Tryz.func45, Tryz.ntmps45
  go_wp2
  go_ret2
  obtain ⟨h0, h1, h2⟩ := heap3 w (.cells #[.slice A n c] 42) (.cells #[pt b, takeFn w.heap.size, .bool false] 112) (.cells #[pt (w.heap.size + 1)] 87)
  exact ⟨rfl, ⟨h0, h1, h2⟩, by simp, (((Below.refl _ _).alloc (Nat.le_refl _) _).alloc (by simp) _).alloc (by simp; omega) _⟩

theorem RBlk.setBad {w : World} {N b : Nat} {A : Option Addr} {n c : Nat} {bad : Bool} (h : RBlk w N b A n c bad) (x : Bool) : RBlk (w.setCell ⟨N + 1, 2, none⟩ (.bool x)) N b A n c x :=
  ⟨(heap_setCell_other w _ N _ (by simp)).trans h.rest, by rw [heap_setCell_same w (N + 1) 2 _ _ _ h.rd]; rfl, (heap_setCell_other w _ (N + 2) _ (by simp)).trans h.var⟩
theorem RBlk.setRest {w : World} {N b : Nat} {A A' : Option Addr} {n c n' c' : Nat} {bad : Bool} (h : RBlk w N b A n c bad) : RBlk (w.setCell ⟨N, 0, none⟩ (.slice A' n' c')) N b A' n' c' bad :=
  ⟨by rw [heap_setCell_same w N 0 _ _ _ h.rest]; rfl, (heap_setCell_other w _ (N + 1) _ (by simp)).trans h.rd, (heap_setCell_other w _ (N + 2) _ (by simp)).trans h.var⟩
theorem RBlk.draw {w : World} {N b : Nat} {A : Option Addr} {n c : Nat} {bad : Bool} (h : RBlk w N b A n c bad) : RBlk w.drew N b A n c bad := ⟨h.rest, h.rd, h.var⟩

def takeGot (N : Nat) (w : World) (v : Value) (P : World → Prop) (e : Ending) (w' : World) : Prop := e = .returned v ∧ P w' ∧ RKeep N w w'
set_option maxRecDepth 10000 in
set_option maxHeartbeats 1000000 in
theorem take_bad (w : World) (N b : Nat) (A : Option Addr) (n c : Nat) (size : Int) (hr : RBlk w N b A n c true) :
    Calls Tryz.prog 66 #[I size, pt (N + 2), pt N] w (takeGot N w (.slice none 0 0) fun w' => RBlk w' N b A n c true) := by
  have c0 : w.cell? ⟨N, 0, none⟩ = some (.slice A n c) := cell_of_row w N 0 _ _ _ hr.rest
  have c1 : w.cell? ⟨N + 1, 2, none⟩ = some (.bool true) := cell_of_row w (N + 1) 2 _ _ _ hr.rd
  have f1 := frozen_of_row w (N + 1) 2 _ _ hr.rd
  have c2 : w.cell? ⟨N + 2, 0, none⟩ = some (pt (N + 1)) := cell_of_row w (N + 2) 0 _ _ _ hr.var
  have HR := Lib.hid hr
  clear hr
  go_enter Tryz.func66, Tryz.ntmps66
  go_wp2
  go_still_tail 13, (by kernel_rfl)
  go_wp2
  go_ret
  exact ⟨rfl, (HR.out.setBad true).draw, ((RKeep.refl N w).set (p := ⟨N + 1, 2, none⟩) (.inr rfl) _).draw⟩
set_option maxRecDepth 10000 in
set_option maxHeartbeats 1000000 in
theorem take_short (w : World) (N b : Nat) (A : Option Addr) (n c : Nat) (size : Int) (hr : RBlk w N b A n c false) (hs : (n : Int) < size) :
    Calls Tryz.prog 66 #[I size, pt (N + 2), pt N] w (takeGot N w (.slice none 0 0) fun w' => RBlk w' N b A n c true) := by
  have c0 : w.cell? ⟨N, 0, none⟩ = some (.slice A n c) := cell_of_row w N 0 _ _ _ hr.rest
  have c1 : w.cell? ⟨N + 1, 2, none⟩ = some (.bool false) := cell_of_row w (N + 1) 2 _ _ _ hr.rd
  have f1 := frozen_of_row w (N + 1) 2 _ _ hr.rd
  have c2 : w.cell? ⟨N + 2, 0, none⟩ = some (pt (N + 1)) := cell_of_row w (N + 2) 0 _ _ _ hr.var
  have hd : decide ((n : Int) < size) = true := decide_eq_true hs
  have HR := Lib.hid hr
  clear hr
  go_enter Tryz.func66, Tryz.ntmps66
  go_wp2
  go_still_tail 13, (by kernel_rfl)
  go_wp2
  go_ret
  exact ⟨rfl, (HR.out.setBad true).draw, ((RKeep.refl N w).set (p := ⟨N + 1, 2, none⟩) (.inr rfl) _).draw⟩
set_option maxRecDepth 10000 in
set_option maxHeartbeats 1000000 in
theorem take_ok (w : World) (N b bb off n c size : Nat) (hr : RBlk w N b (some ⟨bb, off, none⟩) n c false) (hs : size ≤ n) (hn : n ≤ c) (_hc : c ≤ 140737488355328) (hne : c ≠ size) :
    Calls Tryz.prog 66 #[I size, pt (N + 2), pt N] w (takeGot N w (.slice (some ⟨bb, off, none⟩) size c) fun w' => RBlk w' N b (some ⟨bb, off + size, none⟩) (n - size) (c - size) false) := by
  have c0 : w.cell? ⟨N, 0, none⟩ = some (.slice (some ⟨bb, off, none⟩) n c) := cell_of_row w N 0 _ _ _ hr.rest
  have f0 := frozen_of_row w N 0 _ _ hr.rest
  have c1 : w.cell? ⟨N + 1, 2, none⟩ = some (.bool false) := cell_of_row w (N + 1) 2 _ _ _ hr.rd
  have f1 := frozen_of_row w (N + 1) 2 _ _ hr.rd
  have c2 : w.cell? ⟨N + 2, 0, none⟩ = some (pt (N + 1)) := cell_of_row w (N + 2) 0 _ _ _ hr.var
  have hd : decide ((n : Int) < (size : Int)) = false := decide_eq_false (by omega)
  have HR := Lib.hid hr
  clear hr
  go_enter Tryz.func66, Tryz.ntmps66
  go_wp2
  go_still_tail 13, (by kernel_rfl)
  go_wp2
  go_ret
  exact ⟨rfl, ((HR.out.setBad false).setRest).draw, (((RKeep.refl N w).set (p := ⟨N + 1, 2, none⟩) (.inr rfl) _).set (p := ⟨N, 0, none⟩) (.inl rfl) _).draw⟩
set_option maxRecDepth 10000 in
set_option maxHeartbeats 1000000 in
theorem take_all (w : World) (N b bb off size : Nat) (hr : RBlk w N b (some ⟨bb, off, none⟩) size size false) (_hc : size ≤ 140737488355328) :
    Calls Tryz.prog 66 #[I size, pt (N + 2), pt N] w (takeGot N w (.slice (some ⟨bb, off, none⟩) size size) fun w' => RBlk w' N b (some ⟨bb, off, none⟩) 0 0 false) := by
  have c0 : w.cell? ⟨N, 0, none⟩ = some (.slice (some ⟨bb, off, none⟩) size size) := cell_of_row w N 0 _ _ _ hr.rest
  have f0 := frozen_of_row w N 0 _ _ hr.rest
  have c1 : w.cell? ⟨N + 1, 2, none⟩ = some (.bool false) := cell_of_row w (N + 1) 2 _ _ _ hr.rd
  have f1 := frozen_of_row w (N + 1) 2 _ _ hr.rd
  have c2 : w.cell? ⟨N + 2, 0, none⟩ = some (pt (N + 1)) := cell_of_row w (N + 2) 0 _ _ _ hr.var
  have hd : decide ((size : Int) < (size : Int)) = false := decide_eq_false (by omega)
  have HR := Lib.hid hr
  clear hr
  go_enter Tryz.func66, Tryz.ntmps66
  go_wp2
  go_still_tail 13, (by kernel_rfl)
  go_wp2
  go_ret
  exact ⟨rfl, ((HR.out.setBad false).setRest).draw, (((RKeep.refl N w).set (p := ⟨N + 1, 2, none⟩) (.inr rfl) _).set (p := ⟨N, 0, none⟩) (.inl rfl) _).draw⟩
set_option maxRecDepth 10000 in
set_option maxHeartbeats 1000000 in
theorem take_nil (w : World) (N b : Nat) (hr : RBlk w N b none 0 0 false) :
    Calls Tryz.prog 66 #[I 0, pt (N + 2), pt N] w (takeGot N w (.slice none 0 0) fun w' => RBlk w' N b none 0 0 false) := by
  have c0 : w.cell? ⟨N, 0, none⟩ = some (.slice none 0 0) := cell_of_row w N 0 _ _ _ hr.rest
  have f0 := frozen_of_row w N 0 _ _ hr.rest
  have c1 : w.cell? ⟨N + 1, 2, none⟩ = some (.bool false) := cell_of_row w (N + 1) 2 _ _ _ hr.rd
  have f1 := frozen_of_row w (N + 1) 2 _ _ hr.rd
  have c2 : w.cell? ⟨N + 2, 0, none⟩ = some (pt (N + 1)) := cell_of_row w (N + 2) 0 _ _ _ hr.var
  have HR := Lib.hid hr
  clear hr
  go_enter Tryz.func66, Tryz.ntmps66
  go_wp2
  go_still_tail 13, (by kernel_rfl)
  go_wp2
  go_ret
  exact ⟨rfl, ((HR.out.setBad false).setRest).draw, (((RKeep.refl N w).set (p := ⟨N + 1, 2, none⟩) (.inr rfl) _).set (p := ⟨N, 0, none⟩) (.inl rfl) _).draw⟩
set_option maxRecDepth 10000 in
set_option maxHeartbeats 1000000 in
theorem take_zero (w : World) (N b : Nat) (a : Addr) (c : Nat) (hr : RBlk w N b (some a) 0 c false) :
    Calls Tryz.prog 66 #[I 0, pt (N + 2), pt N] w (takeGot N w (.slice (some a) 0 c) fun w' => RBlk w' N b (some a) 0 c false) := by
  have c0 : w.cell? ⟨N, 0, none⟩ = some (.slice (some a) 0 c) := cell_of_row w N 0 _ _ _ hr.rest
  have f0 := frozen_of_row w N 0 _ _ hr.rest
  have c1 : w.cell? ⟨N + 1, 2, none⟩ = some (.bool false) := cell_of_row w (N + 1) 2 _ _ _ hr.rd
  have f1 := frozen_of_row w (N + 1) 2 _ _ hr.rd
  have c2 : w.cell? ⟨N + 2, 0, none⟩ = some (pt (N + 1)) := cell_of_row w (N + 2) 0 _ _ _ hr.var
  have HR := Lib.hid hr
  clear hr
  go_enter Tryz.func66, Tryz.ntmps66
  go_wp2
  go_still_tail 13, (by kernel_rfl)
  go_wp2
  go_ret
  exact ⟨rfl, ((HR.out.setBad false).setRest).draw, (((RKeep.refl N w).set (p := ⟨N + 1, 2, none⟩) (.inr rfl) _).set (p := ⟨N, 0, none⟩) (.inl rfl) _).draw⟩
set_option maxRecDepth 10000 in
set_option maxHeartbeats 1000000 in
theorem done_any (w : World) (N b : Nat) (A : Option Addr) (n c : Nat) (bad : Bool) (hr : RBlk w N b A n c bad) :
    Calls Tryz.prog 67 #[pt (N + 2), pt N] w fun e w' => e = .returned (.bool (!bad && ((n : Int) == 0))) ∧ w = w' := by
  have c0 : w.cell? ⟨N, 0, none⟩ = some (.slice A n c) := cell_of_row w N 0 _ _ _ hr.rest
  have c1 : w.cell? ⟨N + 1, 2, none⟩ = some (.bool bad) := cell_of_row w (N + 1) 2 _ _ _ hr.rd
  have c2 : w.cell? ⟨N + 2, 0, none⟩ = some (pt (N + 1)) := cell_of_row w (N + 2) 0 _ _ _ hr.var
  clear hr
  cases bad
  all_goals
    go_enter Tryz.func67, Tryz.ntmps67
    go_wp2
    go_ret
    exact ⟨rfl, rfl⟩

/-- The reader: what is left to be read, and whether it has failed; the bytes lie below block B. -/
def RSt (w : World) (N b B : Nat) (rest : List UInt8) (bad : Bool) : Prop :=
  ∃ A c, RBlk w N b A rest.length c bad ∧ rest.length ≤ c ∧ c ≤ 140737488355328 ∧ BytesAt w B A rest ∧ (A = none → c = 0)
def TakePost (w : World) (N b B : Nat) (rest : List UInt8) (bad : Bool) (size : Nat) (e : Ending) (w' : World) : Prop :=
  if bad = true ∨ rest.length < size then e = .returned (.slice none 0 0) ∧ RSt w' N b B rest true ∧ RKeep N w w'
  else ∃ A c, e = .returned (.slice A size c) ∧ size ≤ c ∧ c ≤ 140737488355328 ∧ BytesAt w' B A (rest.take size) ∧ RSt w' N b B (rest.drop size) false ∧ RKeep N w w'
theorem BytesAt.rkeep {w w' : World} {N B : Nat} {A : Option Addr} {bs : List UInt8} (h : BytesAt w B A bs) (hk : RKeep N w w') (hB : B ≤ N) (hN : N < w.heap.size) : BytesAt w' B A bs := by
  rcases h with h | ⟨b, off, hA, hbB, hc⟩
  · exact .inl h
  · exact .inr ⟨b, off, hA, hbB, fun j hj => (World.cell?_of_block (a := ⟨b, off + j, none⟩) (hk.block b (by omega) (by omega) (by omega))).trans (hc j hj)⟩
theorem take_any (w : World) (N b B : Nat) (rest : List UInt8) (bad : Bool) (size : Nat) (hB : B ≤ N) (hN : N < w.heap.size) (hr : RSt w N b B rest bad) :
    Calls Tryz.prog 66 #[I size, pt (N + 2), pt N] w (TakePost w N b B rest bad size) := by
  obtain ⟨A, c, hb, hc1, hc2, hby, hnil⟩ := hr
  by_cases hs : rest.length < size
  · have hpos : bad = true ∨ rest.length < size := .inr hs
    cases bad with
    | true => exact (take_bad w N b A _ c size hb).mono fun e w' ⟨he, hw, hk⟩ => by unfold TakePost; rw [if_pos hpos]; exact ⟨he, ⟨A, c, hw, hc1, hc2, hby.rkeep hk hB hN, hnil⟩, hk⟩
    | false => exact (take_short w N b A _ c size hb (by omega)).mono fun e w' ⟨he, hw, hk⟩ => by unfold TakePost; rw [if_pos hpos]; exact ⟨he, ⟨A, c, hw, hc1, hc2, hby.rkeep hk hB hN, hnil⟩, hk⟩
  · cases bad with
    | true => exact (take_bad w N b A _ c size hb).mono fun e w' ⟨he, hw, hk⟩ => by unfold TakePost; rw [if_pos (.inl rfl)]; exact ⟨he, ⟨A, c, hw, hc1, hc2, hby.rkeep hk hB hN, hnil⟩, hk⟩
    | false =>
      have hneg : ¬ (false = true ∨ rest.length < size) := by simp [hs]
      have htl : (rest.take size).length = size := by simp; omega
      have hdl : (rest.drop size).length = rest.length - size := by simp
      cases A with
      | none =>
        have h0 : c = 0 := hnil rfl
        have hl0 : rest.length = 0 := by omega
        have hs0 : size = 0 := by omega
        subst h0 hs0
        have hr0 := List.eq_nil_of_length_eq_zero hl0
        subst hr0
        refine (take_nil w N b hb).mono fun e w' ⟨he, hw, hk⟩ => ?_
        unfold TakePost
        rw [if_neg hneg]
        exact ⟨none, 0, he, Nat.le_refl _, by omega, .inl rfl, ⟨none, 0, hw, Nat.le_refl _, by omega, .inl rfl, fun _ => rfl⟩, hk⟩
      | some a =>
        by_cases h0 : rest.length = 0
        · have hs0 : size = 0 := by omega
          subst hs0
          have hr0 := List.eq_nil_of_length_eq_zero h0
          subst hr0
          refine (take_zero w N b a c hb).mono fun e w' ⟨he, hw, hk⟩ => ?_
          unfold TakePost
          rw [if_neg hneg]
          exact ⟨some a, c, he, Nat.zero_le _, hc2, .inl rfl, ⟨some a, c, hw, Nat.zero_le _, hc2, .inl rfl, fun h => by cases h⟩, hk⟩
        · rcases hby with h | ⟨bb, off, e, hbB, hcl⟩
          · exact absurd h h0
          · injection e with e
            subst e
            have got : ∀ w', RKeep N w w' → BytesAt w' B (some ⟨bb, off, none⟩) (rest.take size) := fun w' hk =>
              BytesAt.rkeep (.inr ⟨bb, off, rfl, hbB, fun j hj => by rw [hcl j (by omega)]; rw [List.getElem?_take_of_lt (by omega)]⟩) hk hB hN
            by_cases hcs : c = size
            · have hls : rest.length = size := by omega
              subst hcs
              rw [hls] at hb
              refine (take_all w N b bb off c hb hc2).mono fun e w' ⟨he, hw, hk⟩ => ?_
              unfold TakePost
              rw [if_neg hneg]
              have hd0 : (rest.drop c).length = 0 := by omega
              exact ⟨_, c, he, Nat.le_refl _, hc2, got w' hk, ⟨some ⟨bb, off, none⟩, 0, by rw [hd0]; exact hw, by omega, by omega, .inl hd0, fun h => by cases h⟩, hk⟩
            · refine (take_ok w N b bb off _ c size hb (by omega) hc1 hc2 hcs).mono fun e w' ⟨he, hw, hk⟩ => ?_
              unfold TakePost
              rw [if_neg hneg]
              refine ⟨_, c, he, by omega, hc2, got w' hk, ⟨some ⟨bb, off + size, none⟩, c - size, by rw [hdl]; exact hw, by omega, by omega, ?_, fun h => by cases h⟩, hk⟩
              exact BytesAt.rkeep (.inr ⟨bb, off + size, rfl, hbB, fun j hj => by rw [show off + size + j = off + (size + j) by omega, hcl (size + j) (by omega), List.getElem?_drop]⟩) hk hB hN
end Go.Proofs.YtpgagfmpikhpkaaGreatDoor

/- slices.Backward over bytes: its contract as an iterator. -/
namespace Go.Proofs.YtpgagfmpikhpkaaGreatDoor
open Go Go.RowKit Go.Shelf
attribute [local go_sem] Oper.semAt_some

/-- What has come when k rounds are over: f 0, .., f (k - 1). -/
def upto {α : Type} (f : Nat → α) (k : Nat) : List α := (List.range k).map f
theorem upto_succ {α : Type} (f : Nat → α) (k : Nat) : upto f (k + 1) = upto f k ++ [f k] := by simp [upto, List.range_succ]
theorem upto_length {α : Type} (f : Nat → α) (k : Nat) : (upto f k).length = k := by simp [upto]
/-- The k-th element from the end, with its index. -/
def bk (bs : List UInt8) (k : Nat) : Nat × UInt8 := (bs.length - 1 - k, bs[bs.length - 1 - k]?.getD 0)

/-- What a round must keep: what lies below n₀, and the slice's box. -/
structure BK (n₀ Bs : Nat) (A B : World) : Prop where
  lo : Below n₀ A B
  box : B.cell? ⟨Bs, 0, none⟩ = A.cell? ⟨Bs, 0, none⟩
theorem BK.refl (n₀ Bs : Nat) (A : World) : BK n₀ Bs A A := ⟨Below.refl _ _, rfl⟩
theorem BK.trans {n₀ Bs : Nat} {A B C : World} (h : BK n₀ Bs A B) (k : BK n₀ Bs B C) : BK n₀ Bs A C := ⟨h.lo.trans k.lo, k.box.trans h.box⟩
theorem bk_b {n₀ Bs : Nat} {w : World} (hn : n₀ ≤ w.heap.size) (hB : Bs < w.heap.size) (W : World) (l : Nat) (o o' : Obj) (hl : w.heap.size ≤ l) (h : W.heap[l]? = some o) (hc : o.isCells = false) (hk : o.isWalk = false) : BK n₀ Bs W (W.putObj l o') :=
  ⟨belowK_b hn W l o o' hl h hc hk, (belowK_b (n₀ := Bs + 1) hB W l o o' hl h hc hk).cell (p := ⟨Bs, 0, none⟩) (Nat.lt_succ_self _)⟩

set_option maxRecDepth 100000 in
set_option maxHeartbeats 2000000 in
theorem back1_in (F : Fence) (n : Nat) (h7 : F.fn 85) (hro : F.round = none) (hn : 1 ≤ n) (l Bs n₀ b off cap : Nat) (bs : List UInt8) (hreach : bs.length ≤ 140737488351232) (hb : b < n₀) (J Jx : List (Nat × UInt8) → World → Prop)
    (hY : ∀ pre x W, J pre W → pre.length < bs.length → YieldAt F (n - 1) Tryz.prog l #[.int .i64 (x.1 : Int), Extern.Stop.cell x.2] W fun e W' =>
      (e = .returned (.bool true) ∧ J (pre ++ [x]) W' ∧ BK n₀ Bs W W') ∨ (e = .returned (.bool false) ∧ Jx (pre ++ [x]) W'))
    (W : World) (hBs : W.cell? ⟨Bs, 0, none⟩ = some (.slice (some ⟨b, off, none⟩) bs.length cap)) (hc : ∀ j, j < bs.length → W.cell? ⟨b, off + j, none⟩ = some (Extern.Stop.cell (bs[j]?.getD 0))) (h0 : J [] W) :
    CallsIn F n Tryz.prog 85 #[.func (.yield l) #[] #[], .pointer (some ⟨Bs, 0, none⟩)] W fun e W' => (∃ v, e = .returned v) ∧
      ((∃ ys, ys = upto (bk bs) bs.length ∧ J ys W') ∨ (∃ pre, (∃ k, k ≤ bs.length ∧ pre = upto (bk bs) k) ∧ Jx pre W')) := by
  refine callsIn_of_wp Tryz.func85 rfl h7 ?_ hro
  simp only [Tryz.ntmps85, List.size_toArray, List.length_cons, List.length_nil, Nat.reduceAdd, Nat.reduceSub, Array.replicate_succ, Array.replicate_zero, List.push_toArray, List.append_toArray, List.nil_append, List.cons_append]
  gi_wp2
  gi_loopw [3] (fun i wr => ∃ k : Nat, k ≤ bs.length ∧ i = .int .i64 ((bs.length : Int) - 1 - k) ∧ J (upto (bk bs) k) wr ∧ BK n₀ Bs W wr)
    (fun i _ => ((intOf i) + 1).toNat)
  case atStart => exact ⟨0, Nat.zero_le _, by go_num, h0, BK.refl _ _ _⟩
  case round =>
    obtain ⟨k, hk, rfl, hJs, hnx⟩ := hrel
    by_cases hlt : k < bs.length
    · obtain ⟨m, hm⟩ : ∃ m : Nat, m = bs.length - 1 - k := ⟨_, rfl⟩
      have hmi : (bs.length : Int) - 1 - k = (m : Int) := by omega
      have hml : m < bs.length := by omega
      have hx : bk bs k = (m, bs[m]?.getD 0) := by unfold bk; rw [← hm]
      obtain ⟨x, hxx⟩ : ∃ x, bs[m]?.getD 0 = x := ⟨_, rfl⟩
      rw [hxx] at hx
      have hcx : wr.cell? ⟨b, off + m, none⟩ = some (Extern.Stop.cell x) := by rw [← hxx]; exact (hnx.lo.cell (p := ⟨b, off + m, none⟩) hb).trans (hc m hml)
      have hbx : wr.cell? ⟨Bs, 0, none⟩ = some (.slice (some ⟨b, off, none⟩) bs.length cap) := hnx.box.trans hBs
      obtain ⟨fn, tmps, assign, body, hy, hR⟩ := hY _ (m, x) wr hJs (by rw [upto_length]; exact hlt)
      dsimp only at hy
      rw [hmi]
      have HM := Lib.hid hm
      have HMI := Lib.hid hmi
      have HX := Lib.hid hx
      clear hm hmi hx hxx
      gi_wp2
      refine hR.mono ?_
      rintro e W3 (⟨rfl, hJ3, hk3⟩ | ⟨rfl, hJx3⟩)
      · gi_wp2
        go_roundw
        case rel => exact ⟨k + 1, by omega, by have := HMI.out; congr 1; omega, by rw [upto_succ, HX.out]; exact hJ3, hnx.trans hk3⟩
        case measure => simp [intOf]
      · gi_wp2
        refine bodyPost_ret (results_none rfl _ _ _) rfl ?_
        exact ⟨⟨_, rfl⟩, .inr ⟨_, ⟨k + 1, by omega, by rw [upto_succ, HX.out]⟩, hJx3⟩⟩
    · have hke : k = bs.length := by omega
      have HKE := Lib.hid hke
      clear hke
      gi_wp2
      go_end0
      exact ⟨⟨_, rfl⟩, .inl ⟨_, by rw [HKE.out], hJs⟩⟩
set_option maxRecDepth 100000 in
set_option maxHeartbeats 1000000 in
theorem back1_nil_in (F : Fence) (n : Nat) (h7 : F.fn 85) (hro : F.round = none) (l Bs : Nat) (A : Option Addr) (c : Nat) (J : List (Nat × UInt8) → World → Prop) (W : World) (hBs : W.cell? ⟨Bs, 0, none⟩ = some (.slice A 0 c)) (h0 : J [] W) :
    CallsIn F n Tryz.prog 85 #[.func (.yield l) #[] #[], .pointer (some ⟨Bs, 0, none⟩)] W fun e W' => (∃ v, e = .returned v) ∧ J [] W' := by
  refine callsIn_of_wp Tryz.func85 rfl h7 ?_ hro
  simp only [Tryz.ntmps85, List.size_toArray, List.length_cons, List.length_nil, Nat.reduceAdd, Nat.reduceSub, Array.replicate_succ, Array.replicate_zero, List.push_toArray, List.append_toArray, List.nil_append, List.cons_append]
  gi_wp2
  gi_loopw [3] (fun i wr => i = .int .i64 (-1) ∧ J [] wr) (fun _ _ => 0)
  case atStart => exact ⟨rfl, h0⟩
  case round =>
    obtain ⟨rfl, hJs⟩ := hrel
    gi_wp2
    go_end0
    exact ⟨⟨_, rfl⟩, hJs⟩
set_option maxHeartbeats 1000000 in
/-- slices.Backward(s): the slice value is boxed; the function value captures the box. -/
theorem back_in (F : Fence) (n : Nat) (h5 : F.fn 68) (hro : F.round = none) (a : Option Addr) (len cap : Nat) (w : World) :
    CallsIn F n Tryz.prog 68 #[.slice a len cap] w fun e w' => e = .returned (.func (.func 85) #[] #[.pointer (some ⟨w.heap.size, 0, none⟩)]) ∧ w' = w.alloc (.cells #[.slice a len cap] 42) := by
  refine callsIn_of_wp Tryz.func68 rfl h5 ?_ hro
  simp only [Tryz.ntmps68, List.size_toArray, List.length_cons, List.length_nil, Nat.reduceAdd, Nat.reduceSub, Array.replicate_succ, Array.replicate_zero, List.push_toArray, List.append_toArray, List.nil_append, List.cons_append]
  gi_wp2
  go_ret
  exact ⟨rfl, rfl⟩
theorem back_stops (F : Fence) (n : Nat) (h7 : F.fn 85) (hro : F.round = none) (hn : 1 ≤ n) (Bs n₀ : Nat) (A : Option Addr) (cap : Nat) (bs : List UInt8) (hreach : bs.length ≤ 140737488351232) (w : World) (hBs : Bs < w.heap.size) (hn₀ : n₀ ≤ w.heap.size)
    (hc : w.cell? ⟨Bs, 0, none⟩ = some (.slice A bs.length cap)) (hI : BytesAt w n₀ A bs) :
    SeqStopsK F n Tryz.prog 85 #[.pointer (some ⟨Bs, 0, none⟩)] (fun x : Nat × UInt8 => #[Value.int .i64 (x.1 : Int), Extern.Stop.cell x.2]) (BK n₀ Bs) (fun ys => ys = upto (bk bs) bs.length)
      (fun pre => ∃ k, k ≤ bs.length ∧ pre = upto (bk bs) k) bs.length w := fun l J Jx W hW _ _ hY h0 => by
  have hc' := (hW.cell (p := ⟨Bs, 0, none⟩) hBs).trans hc
  rcases hI.keep (hW.mono hn₀) with h | ⟨b, off, rfl, hb, hcs⟩
  · rw [h] at hc'
    exact (back1_nil_in F n h7 hro l Bs A cap J W hc' h0).mono fun e W' ⟨he, hj⟩ => ⟨he, .inl ⟨_, by rw [h]; rfl, hj⟩⟩
  · exact back1_in F n h7 hro hn l Bs n₀ b off cap bs hreach hb J Jx hY W hc' hcs h0
end Go.Proofs.YtpgagfmpikhpkaaGreatDoor
