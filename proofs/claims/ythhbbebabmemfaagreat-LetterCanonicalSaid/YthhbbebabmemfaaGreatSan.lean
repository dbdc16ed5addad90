/- The law's fixed examples: the calls that they make. -/
import Derived.Test.YthhbbebabmemfaaGreatClosed
import Derived.Test.YthhbbebabmemfaaGreatName
import Derived.BigQuiet
import Derived.Deep.AppendLies
import Derived.Deep.CutBlock
import Derived.Deep.DeepCutAuto
import Derived.Deep.DrawnRows
import Derived.Deep.MidRow
import Derived.Deep.QuietTactic
import Derived.Deep.RegionHeld3
import Derived.Deep.RegionLaw
import Derived.Deep.WholeRow
import Derived.Great.BuildSlice
import Derived.Laws.BytesString
import Derived.Laws.CopyOwn
import Derived.Laws.EntriesVeiled
import Derived.Laws.MakeOwn
import Derived.Laws.ResultCell
import Derived.Laws.Rows
import Derived.Laws.Tables
import Derived.Lib.Hide
import Derived.LoopIn
import Derived.LoopNIn
import Derived.Maps.AppendAt
import Derived.Outline
import Derived.OwnWalkIn
import Derived.RangeFuncBound
import Derived.RangeFuncBox
import Derived.RangeFuncCalls
import Derived.RangeFuncLeaves
import Derived.RangeFuncNested
import Derived.Shelf.Abstract
import Derived.Shelf.Bytes.SlSmallAll
import Derived.Shelf.RegionOpen
import Derived.StillTailTactics
import Derived.Stop.BytesEq
import Derived.TacticsInMore
import Derived.WalkKit
import Derived.WalkLawsBesides
import Derived.WalkSpells
namespace Go.Proofs.YthhbbebabmemfaaGreat
open Go Go.RowKit

theorem bytesAt_len {w : World} {B : Nat} {A : Option Addr} {bs : List UInt8} (h : BytesAt w B A bs) (h0 : bs.length ≠ 0) : ∃ b off, A = some ⟨b, off, none⟩ ∧ b < B ∧ ∀ j, j < bs.length → w.cell? ⟨b, off + j, none⟩ = some (Extern.Stop.cell (bs[j]?.getD 0)) := by
  rcases h with h | h
  · exact absurd h h0
  · exact h
set_option maxRecDepth 10000 in
set_option maxHeartbeats 400000 in
theorem plain_any (w : World) : Calls Tryz.prog 10 #[] w (Gives (.agg (ltVal plainLt zSl)) w) := by
  go_enter Tryz.func10, Tryz.ntmps10
  go_wp2_with (first
    | (refine wpList_alloc_as rfl _ rfl (ltVal zLt zSl) lt_zero ?_)
    | (refine wpList_build_as rfl _ rfl (ltVal plainLt zSl) (by kernel_rfl) ?_)
    | (refine wpList_store_row rfl _ _ _ rfl w.heap.size (ltVal plainLt zSl) rfl rfl 37 (ltVal zLt zSl) (heap_alloc_last w _) (size62 _ _ rfl) rfl (ltVal_one _ _) ?_))
  refine bodyPost_ret (v := .agg (ltVal plainLt zSl)) (results_cell_row rfl _ _ w.heap.size _ (ltVal plainLt zSl) (0, 0) _ rfl (setRow_heap _ _ _ _ _ _ (heap_alloc_last w _)) Tryz.underlying37 rfl (size62 _ _ rfl)) rfl ⟨rfl, ?_⟩
  exact below_setRow (below_var w _) (Nat.le_refl _) _
theorem nums2 : ∀ k : Nat, k < 17 → usesB 2 k = true → ∃ o, numOff k = some o := fun k hk =>
  all17 (p := fun k => usesB 2 k = true → ∃ o, numOff k = some o) (by refine ⟨?_, ?_, ?_, ?_, ?_, ?_, ?_, ?_, ?_, ?_, ?_, ?_, ?_, ?_, ?_, ?_, ?_⟩ <;> (intro h; first | exact ⟨_, rfl⟩ | (cases h))) k hk
theorem want_kind : (rdHead wantB).l.kind = 2 := by kernel_rfl
theorem short_kind : (rdHead (wantB.take 26)).l.kind = 2 := by kernel_rfl
theorem read_want (w : World) (A : Option Addr) (c : Nat) (hl : 27 ≤ c) (hc : c ≤ 140737488355328) (hby : BytesAt w w.heap.size A wantB) (hn : A = none → c = 0) :
    Calls Tryz.prog 5 #[.slice A 27 c] w (ReadGot w 0 plainLt) := by
  have h := read_nums w A wantB c hl hc hby hn (by rw [want_kind]; exact nums2) 0 wantB (fun _ w' _ => by rw [rd_want, ← plain_bytes]; exact bytes_bare plainLt zSl w' bare_plain (by kernel_rfl) (by kernel_rfl) (by kernel_rfl) (by kernel_rfl) c_plain) true (by rw [rd_want]; kernel_rfl)
  rw [rd_want] at h
  exact h
theorem read_short (w : World) (A : Option Addr) (c : Nat) (hl : 26 ≤ c) (hc : c ≤ 140737488355328) (hby : BytesAt w w.heap.size A (wantB.take 26)) (hn : A = none → c = 0) :
    Calls Tryz.prog 5 #[.slice A 26 c] w (ReadGot w 3 zLt) := by
  exact read_nums w A (wantB.take 26) c hl hc hby hn (by rw [short_kind]; exact nums2) 0 [] (fun h => by rw [rd_short] at h; cases h) false (by rw [rd_short]; rfl)
def wantCells : Array Value := #[.int .u8 2, .int .u8 1, .int .u8 0, .int .u8 5, .int .u8 0, .int .u8 0, .int .u8 0, .int .u8 0, .int .u8 0, .int .u8 0, .int .u8 0, .int .u8 1, .int .u8 0, .int .u8 0, .int .u8 0, .int .u8 0, .int .u8 0, .int .u8 0, .int .u8 0, .int .u8 17, .int .u8 0, .int .u8 0, .int .u8 0, .int .u8 0, .int .u8 0, .int .u8 0, .int .u8 0]
theorem wantCells_eq : wantCells = (wantB.map Extern.Stop.cell).toArray := by kernel_rfl
theorem bytesAt_new (w : World) (bs : List UInt8) (cs : Array Value) (t : TypeId) (h : cs = (bs.map Extern.Stop.cell).toArray) : BytesAt (w.alloc (.cells cs t)) (w.heap.size + 1) (some ⟨w.heap.size, 0, none⟩) bs := by
  subst h
  refine .inr ⟨w.heap.size, 0, rfl, by omega, fun j hj => ?_⟩
  rw [(Row.new w _ t).2]
  simp [hj]
theorem BytesAt.take {w : World} {B : Nat} {A : Option Addr} {bs : List UInt8} (h : BytesAt w B A bs) (n : Nat) : BytesAt w B A (bs.take n) := by
  rcases h with h | ⟨b, off, hA, hb, hc⟩
  · exact .inl (by rw [List.length_take, h]; exact Nat.min_zero _)
  · refine .inr ⟨b, off, hA, hb, fun j hj => ?_⟩
    rw [List.length_take] at hj
    rw [hc j (by omega), List.getElem?_take_of_lt (by omega)]
theorem bytesAt_grow {w w' : World} {A : Option Addr} {bs : List UInt8} (h : BytesAt w w.heap.size A bs) (hb : Below w.heap.size w w') : BytesAt w' w'.heap.size A bs := (h.keep hb).more hb.size
theorem lt_info (l : Lt) (h : l.ref.length = 32) : (Tryz.prog.info? 37).map (fun i => (i.zero, i.size)) = some (some (.agg (ltVal zLt zSl)), (ltVal l zSl).size) := by
  unfold ltVal; rw [lt_size _ _ _ _ h]; kernel_rfl
theorem ack_len : (ltBytes ackLt []).length = 43 := by kernel_rfl
theorem ask_len : (ltBytes askLt []).length = 43 := by kernel_rfl
/-- Bytes at a letter without lists, its result spelled out. -/
theorem bytes_spelled (l : Lt) (w : World) (h : Bare l) (hf : allFit l = true) (hh : headOK l = true) (hn : noSerB l = true) (hu : usesB l.kind 10 = false) (hc : vCode l 0 = 0) (n : Nat) (hl : (ltBytes l []).length = n) :
    Calls Tryz.prog 6 #[.agg (ltVal l zSl)] w fun e w' => ∃ A c, e = .returned (.tuple #[.slice A n c, I 0]) ∧ BytesAt w' w'.heap.size A (ltBytes l []) ∧ Below w.heap.size w w' := by
  refine (bytes_bare l zSl w h hf hh hn hu hc).mono fun e w' ⟨h1, hb⟩ => ?_
  rw [if_pos rfl] at h1
  obtain ⟨v, rfl, hv⟩ := h1
  obtain ⟨A, c, rfl, _, _, _, hy⟩ := bytesAt_own hv
  rw [hl]
  exact ⟨A, c, rfl, hy, hb⟩
structure SanA (w : World) (n3 n4 : Nat) (A1 : Option Addr) (w' : World) : Prop where
  lo : Below w.heap.size w w'
  b : BytesAt w' w'.heap.size A1 wantB
  want : BytesAt w' w'.heap.size (some ⟨n3, 0, none⟩) wantB
  back : Row w' n4 (ltVal plainLt zSl)
theorem SanA.grow {w w1 w2 : World} {n3 n4 : Nat} {A1 : Option Addr} (h : SanA w n3 n4 A1 w1) (hb : Below w1.heap.size w1 w2) : SanA w n3 n4 A1 w2 :=
  ⟨below_trans h.lo hb, bytesAt_grow h.b hb, bytesAt_grow h.want hb, h.back.keep hb⟩
structure SanB (w : World) (n3 n4 n10 : Nat) (A1 A8 A11 : Option Addr) (w' : World) : Prop extends SanA w n3 n4 A1 w' where
  ack : BytesAt w' w'.heap.size A8 (ltBytes ackLt [])
  long : BytesAt w' w'.heap.size A11 (ltBytes askLt [])
  ask : Row w' n10 (ltVal askLt zSl)
theorem SanB.grow {w w1 w2 : World} {n3 n4 n10 : Nat} {A1 A8 A11 : Option Addr} (h : SanB w n3 n4 n10 A1 A8 A11 w1) (hb : Below w1.heap.size w1 w2) : SanB w n3 n4 n10 A1 A8 A11 w2 :=
  { h.toSanA.grow hb with ack := bytesAt_grow h.ack hb, long := bytesAt_grow h.long hb, ask := h.ask.keep hb }
theorem plain_row {w : World} {b : Nat} (h : Row w b (ltVal plainLt zSl)) : ∀ i, w.cell? ⟨b, i, none⟩ = (#[I 2, I 1, I 0, I 5, I 1, I 0, I 0, I 17, I 0, I 0, I 0, I 0, I 0, .bool false, I 0, I 0, I 0, .slice none 0 0, I 0, I 0, .string ByteArray.empty, I 0, I 0, .slice none 0 0, I 0, I 0, I 0, I 0, I 0, .slice none 0 0, .int .u8 0, .int .u8 0, .int .u8 0, .int .u8 0, .int .u8 0, .int .u8 0, .int .u8 0, .int .u8 0, .int .u8 0, .int .u8 0, .int .u8 0, .int .u8 0, .int .u8 0, .int .u8 0, .int .u8 0, .int .u8 0, .int .u8 0, .int .u8 0, .int .u8 0, .int .u8 0, .int .u8 0, .int .u8 0, .int .u8 0, .int .u8 0, .int .u8 0, .int .u8 0, .int .u8 0, .int .u8 0, .int .u8 0, .int .u8 0, .int .u8 0, .int .u8 0] : Array Value)[i]? := h.2
theorem SanB.drew {w w1 : World} {n3 n4 n10 : Nat} {A1 A8 A11 : Option Addr} (h : SanB w n3 n4 n10 A1 A8 A11 w1) : SanB w n3 n4 n10 A1 A8 A11 w1.drew :=
  ⟨⟨h.lo.drew, h.b, h.want, h.back⟩, h.ack, h.long, h.ask⟩
def SanCut (w : World) (n3 n4 n10 c8 c11 : Nat) (A1 A8 A11 : Option Addr) (p8 p10 p11 v : Value) (w' : World) : Prop := p8 = .slice A8 43 c8 ∧ p10 = pt n10 ∧ p11 = .slice A11 43 c11 ∧ v = .bool false ∧ SanB w n3 n4 n10 A1 A8 A11 w'
theorem sameBytes_want (A B : Option Addr) (c d : Nat) (w : World) (hA : BytesAt w w.heap.size A wantB) (hB : BytesAt w w.heap.size B wantB) : Calls Tryz.prog 7 #[.slice A 27 c, .slice B 27 d] w (Gives (.bool true) w) := by
  have := sameBytes_any A B c d wantB wantB w hA hB (by decide)
  exact this
theorem wpAnyH_take_dst {P : Program} {ops : Array Oper} {Q : Exit → Act → World → Prop} {md : Region.Mode} {S : World → Prop} {i : Nat} {oi : Oper} {v : Value} {d : Tmp} {fuel : Nat} {listed : Array Bool} {a : Act} {w : World} (hi : ops[i]? = some oi) (hd : oi.dst = some d)
    (hs : Region.noSelect ops = true) (hf : Region.free md ops listed i = true) (hr : (Region.ready md ops listed).contains i = true)
    (hQ : ∀ c a w, Q (.panic c) (a.put oi.dst v) w → Q (.panic c) a w) (hy : YieldsIf P ops S oi v a) (hS : S w)
    (h : wpAnyH P md ops Q S fuel (listed.setIfInBounds i true) (a.put (some d) v) w) : wpAnyH P md ops Q S (fuel + 1) listed a w :=
  wpAnyH_take hi hs hf hr hQ hy hS (by rw [hd]; exact h)
theorem yieldsIf_load_Row {P : Program} {ops : Array Oper} {S : World → Prop} {op : Oper} {a : Act} (hw : Region.wanted op (yielded ops a.tmps) = true) (ty : TypeId) (x : Operand) (ho : op.op = .load ty x)
    (b : Nat) (hx : a.eval x = .pointer (some ⟨b, 0, none⟩)) (cs : Array Value) (d : TypeDesc) (hS : ∀ w, S w → Row w b cs)
    (hu : P.underlying ty = some d) (hd : d.isRow = true) (hi : (P.info? ty).map (·.size) = some cs.size) : YieldsIf P ops S op (.agg cs) a := by
  have := yieldsIf_load_mid (P := P) (S := S) hw ty x ho b 0 hx cs.toList d (fun w h => fun j v hv => by rw [Nat.zero_add, (hS w h).2 j]; simpa using hv) hu hd (by rw [hi]; simp)
  simpa using this
/-- Letters and lists as they lie, each at its block. -/
def RowsAt (w : World) (l : List (Nat × Array Value)) : Prop := ∀ p ∈ l, Row w p.1 p.2
theorem RowsAt.grow {w w' : World} {l : List (Nat × Array Value)} (h : RowsAt w l) (hb : Below w.heap.size w w') : RowsAt w' l := fun p hp => (h p hp).keep hb
theorem RowsAt.new {w : World} {l : List (Nat × Array Value)} (h : RowsAt w l) (cs : Array Value) (t : TypeId) : RowsAt (w.alloc (.cells cs t)) ((w.heap.size, cs) :: l) := fun p hp => by
  rcases List.mem_cons.1 hp with rfl | hp
  · exact Row.new w cs t
  · exact (h p hp).keep (below_var w _)
def hSl (n : Nat) : Sl := ⟨none, none, some ⟨n, 0, none⟩, 0, 0, 2⟩
theorem ints12 {w : World} {n : Nat} (h : Row w n #[I 1, I 2]) : IntsAt w w.heap.size (hSl n).C [1, 2] :=
  .inr ⟨n, 0, rfl, h.1, fun j hj => by
    rw [h.2]
    match j, hj with
    | 0, _ => rfl
    | 1, _ => rfl⟩
theorem hold_ok : LtOK holdLt := ⟨by decide, by decide, by decide, rfl, by decide⟩
theorem full_ok : LtOK fullLt := ⟨by decide, by decide, by decide, rfl, by decide⟩
theorem bare_wrong : Bare wrongLt := ⟨rfl, rfl, rfl, rfl, rfl⟩
theorem bare_coarse : Bare coarseLt := ⟨rfl, rfl, rfl, rfl, rfl⟩
theorem valid_bare (l : Lt) (w : World) (c : Int) (h : Bare l) (hh : headOK l = true) (hn : noSerB l = true) (hc : vCode l 0 = c) : Calls Tryz.prog 12 #[.agg (ltVal l zSl)] w (Gives (I c) w) :=
  valid_at l zSl w c h.ok (.inl (by rw [h.cells]; rfl)) hh hn hc
theorem same_end : (numsEq endLt laterLt && headEq endLt laterLt && serEq endLt.series laterLt.series) = false := by kernel_rfl
theorem lt_info' (l : Lt) (s : Sl) (h : l.ref.length = 32) : (Tryz.prog.info? 37).map (fun i => (i.zero, i.size)) = some (some (.agg (ltVal zLt zSl)), (ltVal l s).size) := by
  unfold ltVal; rw [lt_size _ _ _ _ h]; kernel_rfl
section
variable {P : Program} {ops : Array Oper} {Q : Exit → Act → World → Prop} {a : Act} {w : World} {rest : List Oper} {d : Option Tmp} {t : TypeId} {pos : String} {af : Array Edge} {g : Option (Nat × Bool)}
/-- Guards for the arms: the walk stands at a load, an alloc, a composite literal of that type. -/
theorem at_load (ty : TypeId) {x : Operand} (h : wpList P ops Q (⟨d, .load ty x, t, pos, af, g⟩ :: rest) a w) : wpList P ops Q (⟨d, .load ty x, t, pos, af, g⟩ :: rest) a w := h
theorem at_alloc (ty : TypeId) (h : wpList P ops Q (⟨d, .alloc ty, t, pos, af, g⟩ :: rest) a w) : wpList P ops Q (⟨d, .alloc ty, t, pos, af, g⟩ :: rest) a w := h
theorem at_build (ty : TypeId) {x : Array (Nat × Operand)} (h : wpList P ops Q (⟨d, .build ty x, t, pos, af, g⟩ :: rest) a w) : wpList P ops Q (⟨d, .build ty x, t, pos, af, g⟩ :: rest) a w := h
end
theorem wrong_set : (ltVal askLt zSl).setIfInBounds 3 (.int .i64 1) = ltVal wrongLt zSl := (ltVal_setNum askLt zSl 1 0 3 (by omega) rfl).symm
theorem coarse_set : (ltVal askLt zSl).setIfInBounds 26 (.int .i64 0) = ltVal coarseLt zSl := (ltVal_setNum askLt zSl 0 13 26 (by omega) rfl).symm
theorem full_set (s : Sl) : (ltVal holdLt s).setIfInBounds 25 (.int .i64 1) = ltVal fullLt s := (ltVal_setNum holdLt s 1 12 25 (by omega) rfl).symm
theorem later_set : (ltVal endLt zSl).setIfInBounds 4 (.int .i64 2) = ltVal laterLt zSl := (ltVal_setNum endLt zSl 2 1 4 (by omega) rfl).symm
theorem same_plain : (numsEq plainLt plainLt && headEq plainLt plainLt && serEq plainLt.series plainLt.series) = true := by kernel_rfl
attribute [local go_sem] ltVal_get lt_get3 lt_get4 lt_get25 lt_get26
set_option maxRecDepth 10000 in
set_option maxHeartbeats 4000000 in
theorem sanity_any (w : World) : Calls Tryz.prog 4 #[] w (Gives (.bool true) w) := by
  go_enter Tryz.func4, Tryz.ntmps4
  go_wp2_with fail
  refine (plain_any _).mono ?_
  rintro e w1 ⟨rfl, hb1⟩
  have HB1 := Lib.hid hb1
  clear hb1
  go_wp2_with fail
  refine (bytes_spelled plainLt _ bare_plain (by kernel_rfl) (by kernel_rfl) (by kernel_rfl) (by kernel_rfl) c_plain 27 (by kernel_rfl)).mono ?_
  rintro e w2 ⟨A1, c1, rfl, hy2, hb2⟩
  rw [plain_bytes] at hy2
  have HB2 := Lib.hid (below_trans HB1.out hb2)
  have HY1 := Lib.hid hy2
  clear hb2 hy2 HB1
  have HWT : Hid (BytesAt (w2.alloc (.cells wantCells 5)) (w2.heap.size + 1) (some ⟨w2.heap.size, 0, none⟩) wantB) := Lib.hid (bytesAt_new w2 wantB _ _ wantCells_eq)
  have HB2' := Lib.hid (below_trans HB2.out (below_var w2 (.cells wantCells 5)))
  have HY2 := Lib.hid (bytesAt_grow HY1.out (below_var w2 (.cells wantCells 5)))
  go_wp2_with fail
  refine (read_want _ _ 27 (by omega) (by omega) (HWT.out.more (by simp)) (fun e => by cases e)).mono ?_
  rintro e w3 ⟨rfl, hb3⟩
  have HWT3 := Lib.hid (bytesAt_grow (HWT.out.more (by simp)) hb3)
  have HB3 := Lib.hid (below_trans HB2'.out hb3)
  have HY3 := Lib.hid (bytesAt_grow HY2.out hb3)
  have hl3 : w2.heap.size < w3.heap.size := by have := hb3.size; simp at this; omega
  clear hb3 HWT HB2' HY2 HB2 HY1
  have HWT3' := Lib.hid (bytesAt_grow HWT3.out (below_var w3 (.cells (ltVal plainLt zSl) 37)))
  have HB3' := Lib.hid (below_trans HB3.out (below_var w3 (.cells (ltVal plainLt zSl) 37)))
  have HY3' := Lib.hid (bytesAt_grow HY3.out (below_var w3 (.cells (ltVal plainLt zSl) 37)))
  have HR3' := Lib.hid (Row.new w3 (ltVal plainLt zSl) 37)
  have HA3 : Hid (SanA w w2.heap.size w3.heap.size A1 (w3.alloc (.cells (ltVal plainLt zSl) 37))) := Lib.hid ⟨HB3'.out, HY3'.out, HWT3'.out, HR3'.out⟩
  clear HWT3 HB3 HY3 HWT3' HB3' HY3' HR3'
  go_wp2_with (refine wpList_var_row rfl rfl _ _ _ rfl rfl rfl rfl _ (ltVal plainLt zSl) (lt_info _ rfl) rfl rfl rfl (ltVal_one _ _) ?_)
  refine (read_short _ _ 27 (by omega) (by omega) (HA3.out.want.take 26) (fun e => by cases e)).mono ?_
  rintro e w4 ⟨rfl, hb4⟩
  have HA4 := Lib.hid ((HA3.out.grow hb4).grow (below_var w4 (.cells (ltVal zLt zSl) 37)))
  clear hb4 HA3 hl3
  obtain ⟨n3, hn3⟩ : ∃ n, w2.heap.size = n := ⟨_, rfl⟩
  obtain ⟨n4, hn4⟩ : ∃ n, w3.heap.size = n := ⟨_, rfl⟩
  rw [hn3, hn4] at HA4 ⊢
  clear hn3 hn4
  go_wp2_with (first
    | (refine wpList_var_row rfl rfl _ _ _ rfl rfl rfl rfl _ (ltVal zLt zSl) (lt_info _ rfl) rfl rfl rfl (ltVal_one _ _) ?_)
    | (refine wpList_build_as (t := 37) rfl _ rfl (ltVal ackLt zSl) (by kernel_rfl) ?_))
  refine (bytes_spelled ackLt _ bare_ack (by kernel_rfl) (by kernel_rfl) (by kernel_rfl) (by kernel_rfl) c_ack 43 ack_len).mono ?_
  rintro e w5 ⟨A8, c8, rfl, hy5, hb5⟩
  have HA5 := Lib.hid ((HA4.out.grow hb5).grow (below_var w5 (.cells (ltVal askLt zSl) 37)))
  have HK5 := Lib.hid (bytesAt_grow hy5 (below_var w5 (.cells (ltVal askLt zSl) 37)))
  have HR5 := Lib.hid (Row.new w5 (ltVal askLt zSl) 37)
  clear hy5 hb5 HA4
  go_wp2_with (first
    | (refine wpList_build_as (t := 37) rfl _ rfl (ltVal askLt zSl) (by kernel_rfl) ?_)
    | (refine wpList_var_row rfl rfl _ _ _ rfl rfl rfl rfl _ (ltVal askLt zSl) (lt_info _ rfl) rfl rfl rfl (ltVal_one _ _) ?_)
    | (refine wpList_load_Row rfl _ _ rfl w5.heap.size rfl (ltVal askLt zSl) HR5.out _ Tryz.underlying37 rfl (size62 _ _ rfl) ?_))
  refine (bytes_spelled askLt _ bare_ask (by kernel_rfl) (by kernel_rfl) (by kernel_rfl) (by kernel_rfl) c_ask 43 ask_len).mono ?_
  rintro e w6 ⟨A11, c11, rfl, hy6, hb6⟩
  have HA6 : Hid (SanB w n3 n4 w5.heap.size A1 A8 A11 w6) := Lib.hid { HA5.out.grow hb6 with ack := bytesAt_grow HK5.out hb6, long := hy6, ask := HR5.out.keep hb6 }
  clear hy6 hb6 HA5 HK5 HR5
  obtain ⟨n10, hn10⟩ : ∃ n, w5.heap.size = n := ⟨_, rfl⟩
  rw [hn10] at HA6 ⊢
  clear hn10
  go_upto_region 8 with fail
  go_cut [8, 10, 11, 87] (fun p8 p10 p11 v wx => SanCut w n3 n4 n10 c8 c11 A1 A8 A11 p8 p10 p11 v wx)
  case first =>
    refine wp_region_held_drew (S := SanB w n3 n4 n10 A1 A8 A11) (by kernel_rfl) HA6.out.drew (fun hH0 => ?_)
    refine wpAnyH_take_dst (i := 0) (v := ?v0) (d := 48) rfl rfl (by kernel_rfl) (by kernel_rfl) (by kernel_rfl) (fun _ _ _ h => h) (Or.inl ⟨by rfl, ?hy0⟩) (by assumption) ?r0
    case hy0 => intro w' hSw; first | (go_simp; done) | (go_simp; with_reducible rfl)
    try simp only [Act.put, List.setIfInBounds_toArray, List.set_cons_zero, List.set_cons_succ]
    refine wpAnyH_take_dst (i := 1) (v := ?v1) (d := 49) rfl rfl (by kernel_rfl) (by kernel_rfl) (by kernel_rfl) (fun _ _ _ h => h) (Or.inl ⟨by rfl, ?hy1⟩) (by assumption) ?r1
    case hy1 => intro w' hSw; first | (go_simp; done) | (go_simp; with_reducible rfl)
    try simp only [Act.put, List.setIfInBounds_toArray, List.set_cons_zero, List.set_cons_succ]
    refine wpAnyH_take_dst (i := 2) (v := ?v2) (d := 50) rfl rfl (by kernel_rfl) (by kernel_rfl) (by kernel_rfl) (fun _ _ _ h => h) (Or.inl ⟨by rfl, ?hy2⟩) (by assumption) ?r2
    case hy2 => intro w' hSw; first | (go_simp; done) | (go_simp; with_reducible rfl)
    try simp only [Act.put, List.setIfInBounds_toArray, List.set_cons_zero, List.set_cons_succ]
    refine wpAnyH_take_dst (i := 3) (v := ?v3) (d := 51) rfl rfl (by kernel_rfl) (by kernel_rfl) (by kernel_rfl) (fun _ _ _ h => h) (Or.inl ⟨by rfl, ?hy3⟩) (by assumption) ?r3
    case hy3 => intro w' hSw; first | (go_simp; done) | (go_simp; with_reducible rfl)
    try simp only [Act.put, List.setIfInBounds_toArray, List.set_cons_zero, List.set_cons_succ]
    refine wpAnyH_take_dst (i := 4) (v := ?v4) (d := 52) rfl rfl (by kernel_rfl) (by kernel_rfl) (by kernel_rfl) (fun _ _ _ h => h) (Or.inl ⟨by rfl, ?hy4⟩) (by assumption) ?r4
    case hy4 => intro w' hSw; first | (go_simp; done) | (go_simp; with_reducible rfl)
    try simp only [Act.put, List.setIfInBounds_toArray, List.set_cons_zero, List.set_cons_succ]
    refine wpAnyH_take_dst (i := 5) (v := ?v5) (d := 53) rfl rfl (by kernel_rfl) (by kernel_rfl) (by kernel_rfl) (fun _ _ _ h => h) (Or.inl ⟨by rfl, ?hy5⟩) (by assumption) ?r5
    case hy5 => intro w' hSw; first | (go_simp; done) | (go_simp; with_reducible rfl)
    try simp only [Act.put, List.setIfInBounds_toArray, List.set_cons_zero, List.set_cons_succ]
    refine wpAnyH_take_dst (i := 6) (v := ?v6) (d := 54) rfl rfl (by kernel_rfl) (by kernel_rfl) (by kernel_rfl) (fun _ _ _ h => h) (Or.inl ⟨by rfl, ?hy6⟩) (by assumption) ?r6
    case hy6 => intro w' hSw; first | (go_simp; done) | (go_simp; with_reducible rfl)
    try simp only [Act.put, List.setIfInBounds_toArray, List.set_cons_zero, List.set_cons_succ]
    refine wpAnyH_take_dst (i := 7) (v := ?v7) (d := 55) rfl rfl (by kernel_rfl) (by kernel_rfl) (by kernel_rfl) (fun _ _ _ h => h) (Or.inl ⟨by rfl, ?hy7⟩) (by assumption) ?r7
    case hy7 => intro w' hSw; first | (go_simp; done) | (go_simp; with_reducible rfl)
    try simp only [Act.put, List.setIfInBounds_toArray, List.set_cons_zero, List.set_cons_succ]
    refine wpAnyH_take_dst (i := 8) (v := ?v8) (d := 56) rfl rfl (by kernel_rfl) (by kernel_rfl) (by kernel_rfl) (fun _ _ _ h => h) (Or.inl ⟨by rfl, ?hy8⟩) (by assumption) ?r8
    case hy8 => intro w' hSw; first | (go_simp; done) | (go_simp; with_reducible rfl)
    try simp only [Act.put, List.setIfInBounds_toArray, List.set_cons_zero, List.set_cons_succ]
    refine wpAnyH_take_dst (i := 9) (v := ?v9) (d := 57) rfl rfl (by kernel_rfl) (by kernel_rfl) (by kernel_rfl) (fun _ _ _ h => h) (Or.inl ⟨by rfl, ?hy9⟩) (by assumption) ?r9
    case hy9 => intro w' hSw; first | (go_simp; done) | (go_simp; with_reducible rfl)
    try simp only [Act.put, List.setIfInBounds_toArray, List.set_cons_zero, List.set_cons_succ]
    refine wpAnyH_take_dst (i := 10) (v := ?v10) (d := 58) rfl rfl (by kernel_rfl) (by kernel_rfl) (by kernel_rfl) (fun _ _ _ h => h) (Or.inl ⟨by rfl, ?hy10⟩) (by assumption) ?r10
    case hy10 => intro w' hSw; first | (go_simp; done) | (go_simp; with_reducible rfl)
    try simp only [Act.put, List.setIfInBounds_toArray, List.set_cons_zero, List.set_cons_succ]
    refine wpAnyH_take_dst (i := 11) (v := ?v11) (d := 59) rfl rfl (by kernel_rfl) (by kernel_rfl) (by kernel_rfl) (fun _ _ _ h => h) (Or.inl ⟨by rfl, ?hy11⟩) (by assumption) ?r11
    case hy11 => intro w' hSw; first | (go_simp; done) | (go_simp; with_reducible rfl)
    try simp only [Act.put, List.setIfInBounds_toArray, List.set_cons_zero, List.set_cons_succ]
    refine wpAnyH_take_dst (i := 12) (v := ?v12) (d := 60) rfl rfl (by kernel_rfl) (by kernel_rfl) (by kernel_rfl) (fun _ _ _ h => h) (Or.inl ⟨by rfl, ?hy12⟩) (by assumption) ?r12
    case hy12 => intro w' hSw; first | (go_simp; done) | (go_simp; with_reducible rfl)
    try simp only [Act.put, List.setIfInBounds_toArray, List.set_cons_zero, List.set_cons_succ]
    refine wpAnyH_take_dst (i := 13) (v := ?v13) (d := 61) rfl rfl (by kernel_rfl) (by kernel_rfl) (by kernel_rfl) (fun _ _ _ h => h) (Or.inl ⟨by rfl, ?hy13⟩) (by assumption) ?r13
    case hy13 => intro w' hSw; first | (go_simp; done) | (go_simp; with_reducible rfl)
    try simp only [Act.put, List.setIfInBounds_toArray, List.set_cons_zero, List.set_cons_succ]
    refine wpAnyH_take_dst (i := 14) (v := ?v14) (d := 62) rfl rfl (by kernel_rfl) (by kernel_rfl) (by kernel_rfl) (fun _ _ _ h => h) (Or.inl ⟨by rfl, ?hy14⟩) (by assumption) ?r14
    case hy14 => intro w' hSw; first | (go_simp; done) | (go_simp; with_reducible rfl)
    try simp only [Act.put, List.setIfInBounds_toArray, List.set_cons_zero, List.set_cons_succ]
    refine wpAnyH_take_dst (i := 15) (v := ?v15) (d := 63) rfl rfl (by kernel_rfl) (by kernel_rfl) (by kernel_rfl) (fun _ _ _ h => h) (Or.inl ⟨by rfl, ?hy15⟩) (by assumption) ?r15
    case hy15 => intro w' hSw; first | (go_simp; done) | (go_simp; with_reducible rfl)
    try simp only [Act.put, List.setIfInBounds_toArray, List.set_cons_zero, List.set_cons_succ]
    refine wpAnyH_take_dst (i := 16) (v := ?v16) (d := 64) rfl rfl (by kernel_rfl) (by kernel_rfl) (by kernel_rfl) (fun _ _ _ h => h) (Or.inl ⟨by rfl, ?hy16⟩) (by assumption) ?r16
    case hy16 => intro w' hSw; first | (go_simp; done) | (go_simp; with_reducible rfl)
    try simp only [Act.put, List.setIfInBounds_toArray, List.set_cons_zero, List.set_cons_succ]
    refine wpAnyH_take_dst (i := 17) (v := ?v17) (d := 65) rfl rfl (by kernel_rfl) (by kernel_rfl) (by kernel_rfl) (fun _ _ _ h => h) (Or.inl ⟨by rfl, ?hy17⟩) (by assumption) ?r17
    case hy17 => intro w' hSw; first | (go_simp; done) | (go_simp; with_reducible rfl)
    try simp only [Act.put, List.setIfInBounds_toArray, List.set_cons_zero, List.set_cons_succ]
    refine wpAnyH_take_dst (i := 18) (v := ?v18) (d := 66) rfl rfl (by kernel_rfl) (by kernel_rfl) (by kernel_rfl) (fun _ _ _ h => h) (Or.inl ⟨by rfl, ?hy18⟩) (by assumption) ?r18
    case hy18 => intro w' hSw; first | (go_simp; done) | (go_simp; with_reducible rfl)
    try simp only [Act.put, List.setIfInBounds_toArray, List.set_cons_zero, List.set_cons_succ]
    refine wpAnyH_take_dst (i := 19) (v := ?v19) (d := 67) rfl rfl (by kernel_rfl) (by kernel_rfl) (by kernel_rfl) (fun _ _ _ h => h) (Or.inl ⟨by rfl, ?hy19⟩) (by assumption) ?r19
    case hy19 => intro w' hSw; first | (go_simp; done) | (go_simp; with_reducible rfl)
    try simp only [Act.put, List.setIfInBounds_toArray, List.set_cons_zero, List.set_cons_succ]
    refine wpAnyH_take_dst (i := 20) (v := ?v20) (d := 68) rfl rfl (by kernel_rfl) (by kernel_rfl) (by kernel_rfl) (fun _ _ _ h => h) (Or.inl ⟨by rfl, ?hy20⟩) (by assumption) ?r20
    case hy20 => intro w' hSw; first | (go_simp; done) | (go_simp; with_reducible rfl)
    try simp only [Act.put, List.setIfInBounds_toArray, List.set_cons_zero, List.set_cons_succ]
    refine wpAnyH_ready (rs := [21]) (by kernel_rfl) (by simp) ?_
    refine AllReadyH.cons rfl (fun K hK => ?_) AllReadyH.nil
    go_simp
    refine (sameBytes_want A1 (some ⟨n3, 0, none⟩) c1 27 _ HA6.out.drew.b HA6.out.drew.want).mono ?_
    rintro e ws ⟨rfl, hbs⟩
    have HS8 := HA6.out.drew.grow hbs
    clear hbs
    refine hK.out _ _ HS8 (fun hHeld => ?_)
    clear hHeld
    clear hK K
    try simp only [Act.put, List.setIfInBounds_toArray, List.set_cons_zero, List.set_cons_succ]
    refine wpAnyH_take_dst (i := 22) (v := ?v22) (d := 70) rfl rfl (by kernel_rfl) (by kernel_rfl) (by kernel_rfl) (fun _ _ _ h => h) (Or.inl ⟨by rfl, ?hy22⟩) (by assumption) ?r22
    case hy22 => intro w' hSw; first | (go_simp; done) | (go_simp; with_reducible rfl)
    try simp only [Act.put, List.setIfInBounds_toArray, List.set_cons_zero, List.set_cons_succ]
    refine wpAnyH_take_dst (i := 23) (v := ?v23) (d := 71) rfl rfl (by kernel_rfl) (by kernel_rfl) (by kernel_rfl) (fun _ _ _ h => h) (Or.inl ⟨by rfl, ?hy23⟩) (by assumption) ?r23
    case hy23 => intro w' hSw; first | (go_simp; done) | (go_simp; with_reducible rfl)
    try simp only [Act.put, List.setIfInBounds_toArray, List.set_cons_zero, List.set_cons_succ]
    refine wpAnyH_take_dst (i := 24) (v := ?v24) (d := 72) rfl rfl (by kernel_rfl) (by kernel_rfl) (by kernel_rfl) (fun _ _ _ h => h) (Or.inl ⟨by rfl, ?hy24⟩) (by assumption) ?r24
    case hy24 => intro w' hSw; first | (go_simp; done) | (go_simp; with_reducible rfl)
    try simp only [Act.put, List.setIfInBounds_toArray, List.set_cons_zero, List.set_cons_succ]
    refine wpAnyH_take_dst (i := 25) (v := _) (d := 73) rfl rfl (by kernel_rfl) (by kernel_rfl) (by kernel_rfl) (fun _ _ _ h => h) (yieldsIf_load_Row (by rfl) _ _ rfl n4 rfl (ltVal plainLt zSl) _ (fun w' h => h.back) Tryz.underlying37 rfl (size62 _ _ rfl)) (by assumption) ?r25
    try simp only [Act.put, List.setIfInBounds_toArray, List.set_cons_zero, List.set_cons_succ]
    refine wpAnyH_ready (rs := [26]) (by kernel_rfl) (by simp) ?_
    refine AllReadyH.cons rfl (fun K hK => ?_) AllReadyH.nil
    go_simp
    refine (plain_any _).mono ?_
    rintro e wp ⟨rfl, hbp⟩
    have HP8 := HS8.grow hbp
    clear hbp
    refine hK.out _ _ HP8 (fun hHeld => ?_)
    clear hHeld
    clear hK K
    try simp only [Act.put, List.setIfInBounds_toArray, List.set_cons_zero, List.set_cons_succ]
    refine wpAnyH_ready (rs := [27]) (by kernel_rfl) (by simp) ?_
    refine AllReadyH.cons rfl (fun K hK => ?_) AllReadyH.nil
    go_simp
    refine (same_bare plainLt plainLt zSl zSl _ bare_plain bare_plain).mono ?_
    rintro e wq ⟨rfl, hbq⟩
    rw [same_plain]
    have HQ8 := HP8.grow hbq
    clear hbq
    refine hK.out _ _ HQ8 (fun hHeld => ?_)
    clear hHeld
    clear hK K
    try simp only [Act.put, List.setIfInBounds_toArray, List.set_cons_zero, List.set_cons_succ]
    refine wpAnyH_take_dst (i := 28) (v := ?v28) (d := 76) rfl rfl (by kernel_rfl) (by kernel_rfl) (by kernel_rfl) (fun _ _ _ h => h) (Or.inl ⟨by rfl, ?hy28⟩) (by assumption) ?r28
    case hy28 => intro w' hSw; first | (go_simp; done) | (go_simp; with_reducible rfl)
    try simp only [Act.put, List.setIfInBounds_toArray, List.set_cons_zero, List.set_cons_succ]
    refine wpAnyH_take_dst (i := 29) (v := ?v29) (d := 77) rfl rfl (by kernel_rfl) (by kernel_rfl) (by kernel_rfl) (fun _ _ _ h => h) (Or.inl ⟨by rfl, ?hy29⟩) (by assumption) ?r29
    case hy29 => intro w' hSw; first | (go_simp; done) | (go_simp; with_reducible rfl)
    try simp only [Act.put, List.setIfInBounds_toArray, List.set_cons_zero, List.set_cons_succ]
    refine wpAnyH_take_dst (i := 30) (v := ?v30) (d := 78) rfl rfl (by kernel_rfl) (by kernel_rfl) (by kernel_rfl) (fun _ _ _ h => h) (Or.inl ⟨by rfl, ?hy30⟩) (by assumption) ?r30
    case hy30 => intro w' hSw; first | (go_simp; done) | (go_simp; with_reducible rfl)
    try simp only [Act.put, List.setIfInBounds_toArray, List.set_cons_zero, List.set_cons_succ]
    refine wpAnyH_take_dst (i := 31) (v := ?v31) (d := 79) rfl rfl (by kernel_rfl) (by kernel_rfl) (by kernel_rfl) (fun _ _ _ h => h) (Or.inl ⟨by rfl, ?hy31⟩) (by assumption) ?r31
    case hy31 => intro w' hSw; first | (go_simp; done) | (go_simp; with_reducible rfl)
    try simp only [Act.put, List.setIfInBounds_toArray, List.set_cons_zero, List.set_cons_succ]
    refine wpAnyH_take_dst (i := 32) (v := ?v32) (d := 80) rfl rfl (by kernel_rfl) (by kernel_rfl) (by kernel_rfl) (fun _ _ _ h => h) (Or.inl ⟨by rfl, ?hy32⟩) (by assumption) ?r32
    case hy32 => intro w' hSw; first | (go_simp; done) | (go_simp; with_reducible rfl)
    try simp only [Act.put, List.setIfInBounds_toArray, List.set_cons_zero, List.set_cons_succ]
    refine wpAnyH_take_dst (i := 33) (v := ?v33) (d := 81) rfl rfl (by kernel_rfl) (by kernel_rfl) (by kernel_rfl) (fun _ _ _ h => h) (Or.inl ⟨by rfl, ?hy33⟩) (by assumption) ?r33
    case hy33 => intro w' hSw; first | (go_simp; done) | (go_simp; with_reducible rfl)
    try simp only [Act.put, List.setIfInBounds_toArray, List.set_cons_zero, List.set_cons_succ]
    refine wpAnyH_take_dst (i := 34) (v := ?v34) (d := 82) rfl rfl (by kernel_rfl) (by kernel_rfl) (by kernel_rfl) (fun _ _ _ h => h) (Or.inl ⟨by rfl, ?hy34⟩) (by assumption) ?r34
    case hy34 => intro w' hSw; first | (go_simp; done) | (go_simp; with_reducible rfl)
    try simp only [Act.put, List.setIfInBounds_toArray, List.set_cons_zero, List.set_cons_succ]
    refine wpAnyH_take_dst (i := 35) (v := ?v35) (d := 83) rfl rfl (by kernel_rfl) (by kernel_rfl) (by kernel_rfl) (fun _ _ _ h => h) (Or.inl ⟨by rfl, ?hy35⟩) (by assumption) ?r35
    case hy35 => intro w' hSw; first | (go_simp; done) | (go_simp; with_reducible rfl)
    try simp only [Act.put, List.setIfInBounds_toArray, List.set_cons_zero, List.set_cons_succ]
    refine wpAnyH_take_dst (i := 36) (v := ?v36) (d := 84) rfl rfl (by kernel_rfl) (by kernel_rfl) (by kernel_rfl) (fun _ _ _ h => h) (Or.inl ⟨by rfl, ?hy36⟩) (by assumption) ?r36
    case hy36 => intro w' hSw; first | (go_simp; done) | (go_simp; with_reducible rfl)
    try simp only [Act.put, List.setIfInBounds_toArray, List.set_cons_zero, List.set_cons_succ]
    refine wpAnyH_take_dst (i := 37) (v := ?v37) (d := 85) rfl rfl (by kernel_rfl) (by kernel_rfl) (by kernel_rfl) (fun _ _ _ h => h) (Or.inl ⟨by rfl, ?hy37⟩) (by assumption) ?r37
    case hy37 => intro w' hSw; first | (go_simp; done) | (go_simp; with_reducible rfl)
    try simp only [Act.put, List.setIfInBounds_toArray, List.set_cons_zero, List.set_cons_succ]
    refine wpAnyH_take_dst (i := 38) (v := ?v38) (d := 86) rfl rfl (by kernel_rfl) (by kernel_rfl) (by kernel_rfl) (fun _ _ _ h => h) (Or.inl ⟨by rfl, ?hy38⟩) (by assumption) ?r38
    case hy38 => intro w' hSw; first | (go_simp; done) | (go_simp; with_reducible rfl)
    try simp only [Act.put, List.setIfInBounds_toArray, List.set_cons_zero, List.set_cons_succ]
    refine wpAnyH_take_dst (i := 39) (v := ?v39) (d := 87) rfl rfl (by kernel_rfl) (by kernel_rfl) (by kernel_rfl) (fun _ _ _ h => h) (Or.inl ⟨by rfl, ?hy39⟩) (by assumption) ?r39
    case hy39 => intro w' hSw; first | (go_simp; done) | (go_simp; with_reducible rfl)
    try simp only [Act.put, List.setIfInBounds_toArray, List.set_cons_zero, List.set_cons_succ]
    refine wpAnyH_done (by kernel_rfl) ?_ _
    go_wp2_with fail
    go_meet
    exact ⟨rfl, rfl, rfl, rfl, HQ8⟩
  case rest =>
    obtain ⟨rfl, rfl, rfl, rfl, hc⟩ := hcut
    have HC8 := Lib.hid hc
    clear hc HA6
    obtain ⟨b8, o8, rfl, -, hc8⟩ := bytesAt_len HC8.out.ack (by rw [ack_len]; decide)
    obtain ⟨b11, o11, rfl, -, hc11⟩ := bytesAt_len HC8.out.long (by rw [ask_len]; decide)
    have k3 : wc.cell? ⟨b8, o8 + 3, none⟩ = some (.int .u8 2) := hc8 3 (by rw [ack_len]; decide)
    have k4 : wc.cell? ⟨b8, o8 + 4, none⟩ = some (.int .u8 1) := hc8 4 (by rw [ack_len]; decide)
    have k5 : wc.cell? ⟨b8, o8 + 5, none⟩ = some (.int .u8 0) := hc8 5 (by rw [ack_len]; decide)
    have k27 : wc.cell? ⟨b11, o11 + 27, none⟩ = some (.int .u8 255) := hc11 27 (by rw [ask_len]; decide)
    have k34 : wc.cell? ⟨b11, o11 + 34, none⟩ = some (.int .u8 255) := hc11 34 (by rw [ask_len]; decide)
    have k35 : wc.cell? ⟨b11, o11 + 35, none⟩ = some (.int .u8 160) := hc11 35 (by rw [ask_len]; decide)
    have k36 : wc.cell? ⟨b11, o11 + 36, none⟩ = some (.int .u8 5) := hc11 36 (by rw [ask_len]; decide)
    have k37 : wc.cell? ⟨b11, o11 + 37, none⟩ = some (.int .u8 0) := hc11 37 (by rw [ask_len]; decide)
    have HR0 : Hid (RowsAt wc [(n10, ltVal askLt zSl)]) := Lib.hid (fun p hp => by rcases List.mem_cons.1 hp with rfl | hp; exact HC8.out.ask; cases hp)
    have HL0 := Lib.hid HC8.out.lo
    clear HC8 hc8 hc11
    go_upto_region 12 with fail
    clear k3 k4 k5 k27 k34 k35 k36 k37
    have R0 : Hid (Row wc n10 (ltVal askLt zSl)) := Lib.hid (HR0.out (n10, ltVal askLt zSl) (.head _))
    go_upto_region 14 with (first
      | (with_reducible refine at_load 37 ?_; refine wpList_load_Row rfl _ _ rfl n10 rfl (ltVal askLt zSl) R0.out _ Tryz.underlying37 rfl (size62 _ _ rfl) ?_)
      | (with_reducible refine at_alloc 37 ?_; refine wpList_var_row rfl rfl _ _ _ rfl rfl rfl rfl _ (ltVal askLt zSl) (lt_info' askLt zSl rfl) rfl rfl rfl (ltVal_one _ _) ?_))
    rw [wrong_set]
    have HR1 := Lib.hid (HR0.out.new (ltVal wrongLt zSl) 37)
    have HL1 := Lib.hid (below_trans HL0.out (below_var wc (.cells (ltVal wrongLt zSl) 37)))
    obtain ⟨n13, hn13⟩ : ∃ n, wc.heap.size = n := ⟨_, rfl⟩
    rw [hn13] at HR1 ⊢
    obtain ⟨W1, hW1⟩ : ∃ W, wc.alloc (.cells (ltVal wrongLt zSl) 37) = W := ⟨_, rfl⟩
    rw [hW1] at HR1 HL1 ⊢
    clear hW1 hn13 HR0 HL0
    have R1 : Hid (Row W1 n10 (ltVal askLt zSl)) := Lib.hid (HR1.out (n10, ltVal askLt zSl) (.tail _ (.head _)))
    clear R0
    go_upto_region 16 with (first
      | (with_reducible refine at_load 37 ?_; refine wpList_load_Row rfl _ _ rfl n10 rfl (ltVal askLt zSl) R1.out _ Tryz.underlying37 rfl (size62 _ _ rfl) ?_)
      | (with_reducible refine at_alloc 37 ?_; refine wpList_var_row rfl rfl _ _ _ rfl rfl rfl rfl _ (ltVal askLt zSl) (lt_info' askLt zSl rfl) rfl rfl rfl (ltVal_one _ _) ?_))
    rw [coarse_set]
    have HR2 := Lib.hid (HR1.out.new (ltVal coarseLt zSl) 37)
    have HL2 := Lib.hid (below_trans HL1.out (below_var W1 (.cells (ltVal coarseLt zSl) 37)))
    obtain ⟨n14, hn14⟩ : ∃ n, W1.heap.size = n := ⟨_, rfl⟩
    rw [hn14] at HR2 ⊢
    obtain ⟨W2, hW2⟩ : ∃ W, W1.alloc (.cells (ltVal coarseLt zSl) 37) = W := ⟨_, rfl⟩
    rw [hW2] at HR2 HL2 ⊢
    clear hW2 hn14 HR1 HL1
    clear R1
    go_upto_region 17 with (first
      | (with_reducible refine at_build 37 ?_; refine wpList_build_as rfl _ rfl (ltVal holdLt (hSl W2.heap.size)) (by kernel_rfl) ?_)
      | (with_reducible refine at_alloc 37 ?_; refine wpList_var_row rfl rfl _ _ _ rfl rfl rfl rfl _ (ltVal holdLt (hSl W2.heap.size)) (lt_info' holdLt _ rfl) rfl rfl rfl (ltVal_one _ _) ?_))
    try simp only [Act.put, List.setIfInBounds_toArray, List.set_cons_zero, List.set_cons_succ]
    have HR3 := Lib.hid (HR2.out.new (#[I 1, I 2]) 3)
    have HL3 := Lib.hid (below_trans HL2.out (below_var W2 (.cells (#[I 1, I 2]) 3)))
    obtain ⟨n138, hn138⟩ : ∃ n, W2.heap.size = n := ⟨_, rfl⟩
    rw [hn138] at HR3 ⊢
    obtain ⟨W3, hW3⟩ : ∃ W, W2.alloc (.cells (#[I 1, I 2]) 3) = W := ⟨_, rfl⟩
    rw [hW3] at HR3 HL3 ⊢
    clear hW3 hn138 HR2 HL2
    have HR4 := Lib.hid (HR3.out.new (ltVal holdLt (hSl n138)) 37)
    have HL4 := Lib.hid (below_trans HL3.out (below_var W3 (.cells (ltVal holdLt (hSl n138)) 37)))
    obtain ⟨n15, hn15⟩ : ∃ n, W3.heap.size = n := ⟨_, rfl⟩
    rw [hn15] at HR4 ⊢
    obtain ⟨W4, hW4⟩ : ∃ W, W3.alloc (.cells (ltVal holdLt (hSl n138)) 37) = W := ⟨_, rfl⟩
    rw [hW4] at HR4 HL4 ⊢
    clear hW4 hn15 HR3 HL3
    have R4 : Hid (Row W4 n15 (ltVal holdLt (hSl n138))) := Lib.hid (HR4.out (n15, ltVal holdLt (hSl n138)) (.head _))
    go_upto_region 19 with (first
      | (with_reducible refine at_load 37 ?_; refine wpList_load_Row rfl _ _ rfl n15 rfl (ltVal holdLt (hSl n138)) R4.out _ Tryz.underlying37 rfl (size62 _ _ rfl) ?_)
      | (with_reducible refine at_alloc 37 ?_; refine wpList_var_row rfl rfl _ _ _ rfl rfl rfl rfl _ (ltVal holdLt (hSl n138)) (lt_info' holdLt _ rfl) rfl rfl rfl (ltVal_one _ _) ?_))
    rw [full_set]
    have HR5 := Lib.hid (HR4.out.new (ltVal fullLt (hSl n138)) 37)
    have HL5 := Lib.hid (below_trans HL4.out (below_var W4 (.cells (ltVal fullLt (hSl n138)) 37)))
    obtain ⟨n16, hn16⟩ : ∃ n, W4.heap.size = n := ⟨_, rfl⟩
    rw [hn16] at HR5 ⊢
    obtain ⟨W5, hW5⟩ : ∃ W, W4.alloc (.cells (ltVal fullLt (hSl n138)) 37) = W := ⟨_, rfl⟩
    rw [hW5] at HR5 HL5 ⊢
    clear hW5 hn16 HR4 HL4
    clear R4
    go_upto_region 20 with (first
      | (with_reducible refine at_build 37 ?_; refine wpList_build_as rfl _ rfl (ltVal endLt zSl) (by kernel_rfl) ?_)
      | (with_reducible refine at_alloc 37 ?_; refine wpList_var_row rfl rfl _ _ _ rfl rfl rfl rfl _ (ltVal endLt zSl) (lt_info' endLt zSl rfl) rfl rfl rfl (ltVal_one _ _) ?_))
    try simp only [Act.put, List.setIfInBounds_toArray, List.set_cons_zero, List.set_cons_succ]
    have HR6 := Lib.hid (HR5.out.new (ltVal endLt zSl) 37)
    have HL6 := Lib.hid (below_trans HL5.out (below_var W5 (.cells (ltVal endLt zSl) 37)))
    obtain ⟨n17, hn17⟩ : ∃ n, W5.heap.size = n := ⟨_, rfl⟩
    rw [hn17] at HR6 ⊢
    obtain ⟨W6, hW6⟩ : ∃ W, W5.alloc (.cells (ltVal endLt zSl) 37) = W := ⟨_, rfl⟩
    rw [hW6] at HR6 HL6 ⊢
    clear hW6 hn17 HR5 HL5
    have R6 : Hid (Row W6 n17 (ltVal endLt zSl)) := Lib.hid (HR6.out (n17, ltVal endLt zSl) (.head _))
    go_upto_region 22 with (first
      | (with_reducible refine at_load 37 ?_; refine wpList_load_Row rfl _ _ rfl n17 rfl (ltVal endLt zSl) R6.out _ Tryz.underlying37 rfl (size62 _ _ rfl) ?_)
      | (with_reducible refine at_alloc 37 ?_; refine wpList_var_row rfl rfl _ _ _ rfl rfl rfl rfl _ (ltVal endLt zSl) (lt_info' endLt zSl rfl) rfl rfl rfl (ltVal_one _ _) ?_))
    rw [later_set]
    have HR7 := Lib.hid (HR6.out.new (ltVal laterLt zSl) 37)
    have HL7 := Lib.hid (below_trans HL6.out (below_var W6 (.cells (ltVal laterLt zSl) 37)))
    obtain ⟨n18, hn18⟩ : ∃ n, W6.heap.size = n := ⟨_, rfl⟩
    rw [hn18] at HR7 ⊢
    obtain ⟨W7, hW7⟩ : ∃ W, W6.alloc (.cells (ltVal laterLt zSl) 37) = W := ⟨_, rfl⟩
    rw [hW7] at HR7 HL7 ⊢
    clear hW7 hn18 HR6 HL6
    clear R6
    have R8 : Hid (Row W7 n13 (ltVal wrongLt zSl)) := Lib.hid (HR7.out (n13, ltVal wrongLt zSl) (.tail _ (.tail _ (.tail _ (.tail _ (.tail _ (.tail _ (.head _))))))))
    go_wp2_with (with_reducible refine at_load 37 ?_; refine wpList_load_Row rfl _ _ rfl n13 rfl (ltVal wrongLt zSl) R8.out _ Tryz.underlying37 rfl (size62 _ _ rfl) ?_)
    clear R8
    refine (valid_bare wrongLt _ 1 bare_wrong (by kernel_rfl) (by kernel_rfl) c_wrong).mono ?_
    rintro e W8 ⟨rfl, hb8⟩
    have HR8 := Lib.hid (HR7.out.grow hb8)
    have HL8 := Lib.hid (below_trans HL7.out hb8)
    clear hb8 HR7 HL7
    have R9 : Hid (Row W8 n14 (ltVal coarseLt zSl)) := Lib.hid (HR8.out (n14, ltVal coarseLt zSl) (.tail _ (.tail _ (.tail _ (.tail _ (.tail _ (.head _)))))))
    go_wp2_with (with_reducible refine at_load 37 ?_; refine wpList_load_Row rfl _ _ rfl n14 rfl (ltVal coarseLt zSl) R9.out _ Tryz.underlying37 rfl (size62 _ _ rfl) ?_)
    clear R9
    refine (valid_bare coarseLt _ 1 bare_coarse (by kernel_rfl) (by kernel_rfl) c_coarse).mono ?_
    rintro e W9 ⟨rfl, hb9⟩
    have HR9 := Lib.hid (HR8.out.grow hb9)
    have HL9 := Lib.hid (below_trans HL8.out hb9)
    clear hb9 HR8 HL8
    have R10 : Hid (Row W9 n15 (ltVal holdLt (hSl n138))) := Lib.hid (HR9.out (n15, ltVal holdLt (hSl n138)) (.tail _ (.tail _ (.tail _ (.head _)))))
    go_wp2_with (with_reducible refine at_load 37 ?_; refine wpList_load_Row rfl _ _ rfl n15 rfl (ltVal holdLt (hSl n138)) R10.out _ Tryz.underlying37 rfl (size62 _ _ rfl) ?_)
    clear R10
    refine (valid_at holdLt (hSl n138) _ 0 hold_ok (ints12 (HR9.out (n138, #[I 1, I 2]) (.tail _ (.tail _ (.tail _ (.tail _ (.head _))))))) (by kernel_rfl) (by kernel_rfl) c_hold).mono ?_
    rintro e W10 ⟨rfl, hb10⟩
    have HR10 := Lib.hid (HR9.out.grow hb10)
    have HL10 := Lib.hid (below_trans HL9.out hb10)
    clear hb10 HR9 HL9
    have R11 : Hid (Row W10 n16 (ltVal fullLt (hSl n138))) := Lib.hid (HR10.out (n16, ltVal fullLt (hSl n138)) (.tail _ (.tail _ (.head _))))
    go_wp2_with (with_reducible refine at_load 37 ?_; refine wpList_load_Row rfl _ _ rfl n16 rfl (ltVal fullLt (hSl n138)) R11.out _ Tryz.underlying37 rfl (size62 _ _ rfl) ?_)
    clear R11
    refine (valid_at fullLt (hSl n138) _ 1 full_ok (ints12 (HR10.out (n138, #[I 1, I 2]) (.tail _ (.tail _ (.tail _ (.tail _ (.head _))))))) (by kernel_rfl) (by kernel_rfl) c_full).mono ?_
    rintro e W11 ⟨rfl, hb11⟩
    have HR11 := Lib.hid (HR10.out.grow hb11)
    have HL11 := Lib.hid (below_trans HL10.out hb11)
    clear hb11 HR10 HL10
    have R12 : Hid (Row W11 n17 (ltVal endLt zSl)) := Lib.hid (HR11.out (n17, ltVal endLt zSl) (.tail _ (.head _)))
    go_wp2_with (with_reducible refine at_load 37 ?_; refine wpList_load_Row rfl _ _ rfl n17 rfl (ltVal endLt zSl) R12.out _ Tryz.underlying37 rfl (size62 _ _ rfl) ?_)
    clear R12
    refine (valid_bare endLt _ 1 bare_end (by kernel_rfl) (by kernel_rfl) c_end).mono ?_
    rintro e W12 ⟨rfl, hb12⟩
    have HR12 := Lib.hid (HR11.out.grow hb12)
    have HL12 := Lib.hid (below_trans HL11.out hb12)
    clear hb12 HR11 HL11
    have R13 : Hid (Row W12 n18 (ltVal laterLt zSl)) := Lib.hid (HR12.out (n18, ltVal laterLt zSl) (.head _))
    go_wp2_with (with_reducible refine at_load 37 ?_; refine wpList_load_Row rfl _ _ rfl n18 rfl (ltVal laterLt zSl) R13.out _ Tryz.underlying37 rfl (size62 _ _ rfl) ?_)
    clear R13
    refine (valid_bare laterLt _ 0 bare_later (by kernel_rfl) (by kernel_rfl) c_later).mono ?_
    rintro e W13 ⟨rfl, hb13⟩
    have HR13 := Lib.hid (HR12.out.grow hb13)
    have HL13 := Lib.hid (below_trans HL12.out hb13)
    clear hb13 HR12 HL12
    go_wp2_with fail
    refine (name_any 7 _).mono ?_
    rintro e W14 ⟨rfl, rfl⟩
    have HR14 := Lib.hid (HR13.out.grow (below_var W13 (.cells nameCells 83)))
    have HL14 := Lib.hid (below_trans HL13.out (below_var W13 (.cells nameCells 83)))
    clear HR13 HL13
    rw [show (if (0 : Int) ≤ 7 ∧ (7 : Int) < 19 then nameOf 7 else ⟨#[]⟩) = (⟨#[119, 105, 116, 104, 100, 114, 97, 119]⟩ : ByteArray) from by kernel_rfl]
    obtain ⟨W14, hW14⟩ : ∃ W, W13.alloc (.cells nameCells 83) = W := ⟨_, rfl⟩
    rw [hW14] at HR14 HL14 ⊢
    clear hW14
    go_wp2_with fail
    refine (name_any 0 _).mono ?_
    rintro e W15 ⟨rfl, rfl⟩
    have HR15 := Lib.hid (HR14.out.grow (below_var W14 (.cells nameCells 83)))
    have HL15 := Lib.hid (below_trans HL14.out (below_var W14 (.cells nameCells 83)))
    clear HR14 HL14
    rw [show (if (0 : Int) ≤ 0 ∧ (0 : Int) < 19 then nameOf 0 else ⟨#[]⟩) = (⟨#[]⟩ : ByteArray) from by kernel_rfl]
    obtain ⟨W15, hW15⟩ : ∃ W, W14.alloc (.cells nameCells 83) = W := ⟨_, rfl⟩
    rw [hW15] at HR15 HL15 ⊢
    clear hW15
    have R17 : Hid (Row W15 n17 (ltVal endLt zSl)) := Lib.hid (HR15.out (n17, ltVal endLt zSl) (.tail _ (.head _)))
    have R18 : Hid (Row W15 n18 (ltVal laterLt zSl)) := Lib.hid (HR15.out (n18, ltVal laterLt zSl) (.head _))
    go_wp2_with (first
      | (with_reducible refine at_load 37 ?_; refine wpList_load_Row rfl _ _ rfl n17 rfl (ltVal endLt zSl) R17.out _ Tryz.underlying37 rfl (size62 _ _ rfl) ?_)
      | (with_reducible refine at_load 37 ?_; refine wpList_load_Row rfl _ _ rfl n18 rfl (ltVal laterLt zSl) R18.out _ Tryz.underlying37 rfl (size62 _ _ rfl) ?_))
    refine (same_bare endLt laterLt zSl zSl _ bare_end bare_later).mono ?_
    rintro e W16 ⟨rfl, hb16⟩
    rw [same_end]
    have HL16 := Lib.hid (below_trans HL15.out hb16)
    clear hb16
    go_wp2_with fail
    go_ret
    exact ⟨rfl, HL16.out⟩
end Go.Proofs.YthhbbebabmemfaaGreat
