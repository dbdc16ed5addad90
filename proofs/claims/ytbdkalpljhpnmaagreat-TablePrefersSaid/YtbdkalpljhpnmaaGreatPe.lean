/- slices.Backward over tables; laws for whole structs in a fenced walk. -/
import Derived.Test.YtbdkalpljhpnmaaGreatPb
import Derived.Test.YtbdkalpljhpnmaaGreatBack
import Derived.BigQuiet
import Derived.Deep.AppendLies
import Derived.Deep.CutBlock
import Derived.Deep.DeepCutAuto
import Derived.Deep.DrawnRows
import Derived.Deep.MidRow
import Derived.Deep.QuietTactic
import Derived.Deep.RegionHeld3
import Derived.Deep.RegionLaw
import Derived.Deep.WholeRow
import Derived.Great.BuildSlice
import Derived.Laws.BytesString
import Derived.Laws.CopyOwn
import Derived.Laws.EntriesVeiled
import Derived.Laws.MakeOwn
import Derived.Laws.ResultCell
import Derived.Laws.Rows
import Derived.Laws.Tables
import Derived.Lib.Hide
import Derived.LoopIn
import Derived.LoopNIn
import Derived.Maps.AppendAt
import Derived.Outline
import Derived.OwnWalkIn
import Derived.RangeFuncBound
import Derived.RangeFuncBox
import Derived.RangeFuncCalls
import Derived.RangeFuncLeaves
import Derived.RangeFuncNested
import Derived.Shelf.Abstract
import Derived.Shelf.Bytes.SlSmallAll
import Derived.Shelf.RegionOpen
import Derived.StillTailTactics
import Derived.Stop.BytesEq
import Derived.TacticsInMore
import Derived.WalkKit
import Derived.WalkLawsBesides
import Derived.WalkSpells

namespace Go.Proofs.YtbdkalpljhpnmaaGreat
open Go Go.RowKit Go.Shelf
attribute [local go_sem] Oper.semAt_some

section
variable {F : Fence} {n : Nat} {P : Program} {ops : Array Oper} {Q : Exit → Act → World → Prop} {a : Act} {w : World} {rest : List Oper} {o : Oper}
/-- A load of a whole struct in a fenced walk. -/
theorem inList_load_mid (hg : o.guard = none) (ty : TypeId) (x : Operand) (ho : o.op = .load ty x) (b off : Nat) (hx : a.eval x = .pointer (some ⟨b, off, none⟩)) (cs : List Value) (d : TypeDesc) (hc : w.rangeAt b off cs)
    (hu : P.underlying ty = some d) (hd : d.isRow = true) (hi : (P.info? ty).map (·.size) = some cs.length)
    (h : wpListIn F n P ops Q rest (a.put o.dst (.agg cs.toArray)) w) : wpListIn F n P ops Q (o :: rest) a w := by
  refine wpListIn_plain hg fun K hK => ?_
  unfold Oper.wpIn
  refine ⟨?_, ?_⟩
  · intro f hf
    simp [Oper.about, ho] at hf
  · rw [Oper.semAt_plain F _ _ (by rw [ho]; intro c hc'; cases hc')]
    unfold execOp
    simp only [ho, hx, Instr.loadAt, Instr.sureAddr, Sem.run_bind, Sem.run_pure, Result.andThen_ok, run_loadVar_mid w b off ty cs d hc hu hd hi]
    exact hK _ _ h
theorem inList_alloc_as (hg : o.guard = none) (t : TypeId) (ho : o.op = .alloc t) (cells : Array Value) (hz : (P.info? t).map (fun i => (i.zero, i.size)) = some (some (.agg cells), cells.size))
    (h : wpListIn F n P ops Q rest (a.put o.dst (.pointer (some ⟨w.heap.size, 0, none⟩))) (w.alloc (.cells cells t))) : wpListIn F n P ops Q (o :: rest) a w := by
  refine wpListIn_plain hg fun K hK => ?_
  unfold Oper.wpIn
  refine ⟨?_, ?_⟩
  · intro f hf
    simp [Oper.about, ho] at hf
  · rw [Oper.semAt_plain F _ _ (by rw [ho]; intro c hc'; cases hc')]
    unfold execOp
    simp only [ho, Sem.run_bind, run_alloc_var w t (.agg cells) _ hz, Result.andThen_ok]
    exact hK _ _ h
theorem inList_store_row (hg : o.guard = none) (ty : TypeId) (x y : Operand) (ho : o.op = .store ty x y) (g : Nat) (cells : Array Value) (hx : a.eval x = .pointer (some ⟨g, 0, none⟩)) (hy : a.eval y = .agg cells)
    (t : TypeId) (old : Array Value) (hb : w.heap[g]? = some (.cells old t (0, 0))) (hi : (P.info? ty).map (·.size) = some cells.size) (hold : old.size = cells.size) (h1 : cells.all (·.oneCell') = true)
    (h : wpListIn F n P ops Q rest (a.put o.dst undef) (w.setRow g cells)) : wpListIn F n P ops Q (o :: rest) a w := by
  refine wpListIn_plain hg fun K hK => ?_
  unfold Oper.wpIn
  refine ⟨?_, ?_⟩
  · intro f hf
    simp [Oper.about, ho] at hf
  · rw [Oper.semAt_plain F _ _ (by rw [ho]; intro c hc'; cases hc')]
    unfold execOp
    simp only [ho, hx, hy, Instr.storeAt, Instr.sureAddr, Sem.run_bind, Sem.run_pure, Result.andThen_ok, run_storeVar_row w g t ty old cells hb hi hold h1]
    exact hK _ _ h
variable {d : Option Tmp} {t : TypeId} {pos : String} {af : Array Edge} {g : Option (Nat × Bool)}
theorem gi_load (ty : TypeId) {x : Operand} (h : wpListIn F n P ops Q (⟨d, .load ty x, t, pos, af, g⟩ :: rest) a w) : wpListIn F n P ops Q (⟨d, .load ty x, t, pos, af, g⟩ :: rest) a w := h
theorem gi_store (ty : TypeId) {x y : Operand} (h : wpListIn F n P ops Q (⟨d, .store ty x y, t, pos, af, g⟩ :: rest) a w) : wpListIn F n P ops Q (⟨d, .store ty x y, t, pos, af, g⟩ :: rest) a w := h
theorem gi_alloc (ty : TypeId) (h : wpListIn F n P ops Q (⟨d, .alloc ty, t, pos, af, g⟩ :: rest) a w) : wpListIn F n P ops Q (⟨d, .alloc ty, t, pos, af, g⟩ :: rest) a w := h
end
/-- A table of a chain, with its index. -/
def El (ts : List TbV) : Type := { x : Nat × TbV // ts[x.1]? = some x.2 }
def elt (ts : List TbV) (m : Nat) : List (El ts) := if h : m < ts.length then [⟨(m, ts[m]), List.getElem?_eq_getElem h⟩] else []
/-- The last k tables, from the last on. -/
def bkL (ts : List TbV) : Nat → List (El ts)
  | 0 => []
  | k + 1 => bkL ts k ++ elt ts (ts.length - 1 - k)
theorem bkL_succ (ts : List TbV) (k m : Nat) (x : TbV) (hx : ts[m]? = some x) (hm : m = ts.length - 1 - k) : bkL ts (k + 1) = bkL ts k ++ [⟨(m, x), hx⟩] := by
  subst hm
  obtain ⟨h1, h2⟩ := List.getElem?_eq_some_iff.1 hx
  subst h2
  show bkL ts k ++ elt ts (ts.length - 1 - k) = _
  unfold elt
  rw [dif_pos h1]
theorem bkL_length (ts : List TbV) (k : Nat) (hk : k ≤ ts.length) : (bkL ts k).length = k := by
  induction k with
  | zero => rfl
  | succ k ih =>
    show (bkL ts k ++ elt ts (ts.length - 1 - k)).length = k + 1
    unfold elt
    rw [List.length_append, ih (by omega), dif_pos (by omega)]
    rfl
/-- Tables at an address. -/
def TabsAt (w : World) (b off : Nat) (ts : List TbV) : Prop := ∀ j x, ts[j]? = some x → w.rangeAt b (off + j * 68) x.cells ∧ x.cells.length = 68
set_option maxRecDepth 100000 in
set_option maxHeartbeats 2000000 in
theorem backT1_in (F : Fence) (n : Nat) (h7 : F.fn 53) (hro : F.round = none) (hn : 1 ≤ n) (l Bs n₀ b off cap : Nat) (bs : List TbV) (hreach : bs.length ≤ 100000) (hb : b < n₀) (J Jx : List (El bs) → World → Prop)
    (hY : ∀ pre x W, J pre W → pre.length < bs.length → YieldAt F (n - 1) Tryz.prog l #[.int .i64 (x.1.1 : Int), .agg x.1.2.cells.toArray] W fun e W' =>
      (e = .returned (.bool true) ∧ J (pre ++ [x]) W' ∧ BK n₀ Bs W W') ∨ (e = .returned (.bool false) ∧ Jx (pre ++ [x]) W'))
    (W : World) (hBs : W.cell? ⟨Bs, 0, none⟩ = some (.slice (some ⟨b, off, none⟩) bs.length cap)) (hc : TabsAt W b off bs) (h0 : J [] W) :
    CallsIn F n Tryz.prog 53 #[.func (.yield l) #[] #[], .pointer (some ⟨Bs, 0, none⟩)] W fun e W' => (∃ v, e = .returned v) ∧
      ((∃ ys, ys = bkL bs bs.length ∧ J ys W') ∨ (∃ pre, (∃ k, k ≤ bs.length ∧ pre = bkL bs k) ∧ Jx pre W')) := by
  refine callsIn_of_wp Tryz.func53 rfl h7 ?_ hro
  simp only [Tryz.ntmps53, List.size_toArray, List.length_cons, List.length_nil, Nat.reduceAdd, Nat.reduceSub, Array.replicate_succ, Array.replicate_zero, List.push_toArray, List.append_toArray, List.nil_append, List.cons_append]
  gi_wp2
  gi_loopw [3] (fun i wr => ∃ k : Nat, k ≤ bs.length ∧ i = .int .i64 ((bs.length : Int) - 1 - k) ∧ J (bkL bs k) wr ∧ BK n₀ Bs W wr)
    (fun i _ => ((intOf i) + 1).toNat)
  case atStart => exact ⟨0, Nat.zero_le _, by go_num, h0, BK.refl _ _ _⟩
  case round =>
    obtain ⟨k, hk, rfl, hJs, hnx⟩ := hrel
    by_cases hlt : k < bs.length
    · obtain ⟨m, hm⟩ : ∃ m : Nat, m = bs.length - 1 - k := ⟨_, rfl⟩
      have hmi : (bs.length : Int) - 1 - k = (m : Int) := by omega
      have hml : m < bs.length := by omega
      obtain ⟨x, hxx⟩ : ∃ x, bs[m]? = some x := ⟨_, List.getElem?_eq_getElem hml⟩
      have hcx : wr.rangeAt b (off + m * 68) x.cells ∧ x.cells.length = 68 := ⟨rangeAt_keep (hc m x hxx).1 hnx.lo hb, (hc m x hxx).2⟩
      obtain ⟨hcx, hc68⟩ := hcx
      have HCX := Lib.hid hcx
      have H68 : Hid ((Tryz.prog.info? 47).map (·.size) = some x.cells.length) := Lib.hid (by rw [hc68]; kernel_rfl)
      have hbx : wr.cell? ⟨Bs, 0, none⟩ = some (.slice (some ⟨b, off, none⟩) bs.length cap) := hnx.box.trans hBs
      obtain ⟨fn, tmps, assign, body, hy, hR⟩ := hY _ ⟨(m, x), hxx⟩ wr hJs (by rw [bkL_length _ _ hk]; exact hlt)
      dsimp only at hy
      rw [hmi]
      have HM := Lib.hid hm
      have HMI := Lib.hid hmi
      have HX : Hid (bkL bs (k + 1) = bkL bs k ++ [⟨(m, x), hxx⟩]) := Lib.hid (bkL_succ bs k m x hxx hm)
      clear hm hmi hcx hc68
      gi_wp2_with (with_reducible refine gi_load 47 ?_; refine inList_load_mid rfl _ _ rfl b (off + m * 68) rfl x.cells _ HCX.out Tryz.underlying47 rfl H68.out ?_)
      refine hR.mono ?_
      rintro e W3 (⟨rfl, hJ3, hk3⟩ | ⟨rfl, hJx3⟩)
      · gi_wp2
        go_roundw
        case rel => exact ⟨k + 1, by omega, by have := HMI.out; congr 1; omega, by rw [HX.out]; exact hJ3, hnx.trans hk3⟩
        case measure => simp [intOf]
      · gi_wp2
        refine bodyPost_ret (results_none rfl _ _ _) rfl ?_
        exact ⟨⟨_, rfl⟩, .inr ⟨_, ⟨k + 1, by omega, by rw [HX.out]⟩, hJx3⟩⟩
    · have hke : k = bs.length := by omega
      have HKE := Lib.hid hke
      clear hke
      gi_wp2
      go_end0
      exact ⟨⟨_, rfl⟩, .inl ⟨_, by rw [HKE.out], hJs⟩⟩
set_option maxRecDepth 100000 in
set_option maxHeartbeats 1000000 in
theorem backT1_nil_in (F : Fence) (n : Nat) (h7 : F.fn 53) (hro : F.round = none) (l Bs : Nat) (A : Option Addr) (c : Nat) {α : Type} (J : List α → World → Prop) (W : World) (hBs : W.cell? ⟨Bs, 0, none⟩ = some (.slice A 0 c)) (h0 : J [] W) :
    CallsIn F n Tryz.prog 53 #[.func (.yield l) #[] #[], .pointer (some ⟨Bs, 0, none⟩)] W fun e W' => (∃ v, e = .returned v) ∧ J [] W' := by
  refine callsIn_of_wp Tryz.func53 rfl h7 ?_ hro
  simp only [Tryz.ntmps53, List.size_toArray, List.length_cons, List.length_nil, Nat.reduceAdd, Nat.reduceSub, Array.replicate_succ, Array.replicate_zero, List.push_toArray, List.append_toArray, List.nil_append, List.cons_append]
  gi_wp2
  gi_loopw [3] (fun i wr => i = .int .i64 (-1) ∧ J [] wr) (fun _ _ => 0)
  case atStart => exact ⟨rfl, h0⟩
  case round =>
    obtain ⟨rfl, hJs⟩ := hrel
    gi_wp2
    go_end0
    exact ⟨⟨_, rfl⟩, hJs⟩
set_option maxHeartbeats 1000000 in
/-- slices.Backward(s): the slice value is boxed; the function value captures the box. -/
theorem backT_in (F : Fence) (n : Nat) (h5 : F.fn 35) (hro : F.round = none) (a : Option Addr) (len cap : Nat) (w : World) :
    CallsIn F n Tryz.prog 35 #[.slice a len cap] w fun e w' => e = .returned (.func (.func 53) #[] #[.pointer (some ⟨w.heap.size, 0, none⟩)]) ∧ w' = w.alloc (.cells #[.slice a len cap] 26) := by
  refine callsIn_of_wp Tryz.func35 rfl h5 ?_ hro
  simp only [Tryz.ntmps35, List.size_toArray, List.length_cons, List.length_nil, Nat.reduceAdd, Nat.reduceSub, Array.replicate_succ, Array.replicate_zero, List.push_toArray, List.append_toArray, List.nil_append, List.cons_append]
  gi_wp2
  go_ret
  exact ⟨rfl, rfl⟩
theorem backT_stops (F : Fence) (n : Nat) (h7 : F.fn 53) (hro : F.round = none) (hn : 1 ≤ n) (Bs n₀ : Nat) (A : Option Addr) (cap : Nat) (bs : List TbV) (hreach : bs.length ≤ 100000) (w : World) (hBs : Bs < w.heap.size) (hn₀ : n₀ ≤ w.heap.size)
    (hc : w.cell? ⟨Bs, 0, none⟩ = some (.slice A bs.length cap)) (hI : bs.length = 0 ∨ ∃ b off, A = some ⟨b, off, none⟩ ∧ b < n₀ ∧ TabsAt w b off bs) :
    SeqStopsK F n Tryz.prog 53 #[.pointer (some ⟨Bs, 0, none⟩)] (fun x : El bs => #[Value.int .i64 (x.1.1 : Int), .agg x.1.2.cells.toArray]) (BK n₀ Bs) (fun ys => ys = bkL bs bs.length)
      (fun pre => ∃ k, k ≤ bs.length ∧ pre = bkL bs k) bs.length w := fun l J Jx W hW _ _ hY h0 => by
  have hc' := (hW.cell (p := ⟨Bs, 0, none⟩) hBs).trans hc
  rcases hI with h | ⟨b, off, rfl, hb, hcs0⟩
  · rw [h] at hc'
    exact (backT1_nil_in F n h7 hro l Bs A cap J W hc' h0).mono fun e W' ⟨he, hj⟩ => ⟨he, .inl ⟨_, by rw [h]; rfl, hj⟩⟩
  · exact backT1_in F n h7 hro hn l Bs n₀ b off cap bs hreach hb J Jx hY W hc' (fun j x hx => ⟨rangeAt_keep (hcs0 j x hx).1 (hW.mono hn₀) hb, (hcs0 j x hx).2⟩) h0
end Go.Proofs.YtbdkalpljhpnmaaGreat
