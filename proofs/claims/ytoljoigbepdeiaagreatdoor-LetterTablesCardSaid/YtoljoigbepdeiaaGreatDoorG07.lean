/- The texts DgA, DgL, DgB, DgH, in this order. -/
import Derived.Test.YtoljoigbepdeiaaGreatDoorG06
import Derived.BigQuiet
import Derived.Deep.CutBlock
import Derived.Deep.DeepCutAuto
import Derived.Deep.MidRow
import Derived.Deep.RegionHeld3
import Derived.Deep.WholeRow
import Derived.Laws.ResultCell
import Derived.Laws.Rows
import Derived.Laws.Tables
import Derived.Lib.Hide
import Derived.Outline
import Derived.StillTailTactics
import Derived.Stop.BytesEq
import Derived.WalkKit
import Derived.WalkLawsBesides
import Derived.WalkSpells
import Derived.Test.YtoljoigbepdeiaaGreatDoorAid
import Derived.RangeFuncBound
import Derived.RangeFuncBox
import Derived.RangeFuncCalls
import Derived.RangeFuncLeaves
import Derived.RangeFuncNested
import Derived.Test.YtoljoigbepdeiaaGreatDoorG02
import Derived.Test.YtoljoigbepdeiaaGreatDoorBack
import Derived.Test.YtoljoigbepdeiaaGreatDoorPm
import Derived.Deep.AppendLies
import Derived.Deep.DrawnRows
import Derived.Deep.QuietTactic
import Derived.Deep.RegionLaw
import Derived.Defers
import Derived.Great.BuildSlice
import Derived.Laws.AppendOwnNone
import Derived.Laws.BitsAllLaws
import Derived.Laws.BytesArg
import Derived.Laws.BytesString
import Derived.Laws.CopyOwn
import Derived.Laws.Cover3
import Derived.Laws.EntriesVeiled
import Derived.Laws.MakeOwn
import Derived.Lib.AppendStr
import Derived.Lib.ByteType
import Derived.LoopIn
import Derived.LoopNIn
import Derived.MapKept
import Derived.Maps.AppendAt
import Derived.OwnWalkIn
import Derived.Recover
import Derived.Shelf.Abstract
import Derived.Shelf.Bytes.SlSmallAll
import Derived.Shelf.RegionOpen
import Derived.TacticsInMore
/- (*kalends/digest.state).add (printed by gen_dga.py). -/
namespace Go.Proofs.YtoljoigbepdeiaaGreatDoor
open Go Go.RowKit

/-- Only block b has changed. -/
structure SKeep (b : Nat) (w w' : World) : Prop where
  os : w'.os = w.os
  tape : w'.tape = w.tape
  output : w'.output = w.output
  size : w.heap.size ≤ w'.heap.size
  block : ∀ k, k < w.heap.size → k ≠ b → w'.heap[k]? = w.heap[k]?
theorem wpAnyH_take_d2 {P : Program} {ops : Array Oper} {Q : Exit → Act → World → Prop} {md : Region.Mode} {S : World → Prop} {i : Nat} {oi : Oper} {v : Value} {d : Tmp} {fuel : Nat} {listed : Array Bool} {a : Act} {w : World} (hi : ops[i]? = some oi) (hd : oi.dst = some d)
    (hs : Region.noSelect ops = true) (hf : Region.free md ops listed i = true) (hr : (Region.ready md ops listed).contains i = true)
    (hQ : ∀ c a w, Q (.panic c) (a.put oi.dst v) w → Q (.panic c) a w) (hy : YieldsIf P ops S oi v a) (hS : S w)
    (h : wpAnyH P md ops Q S fuel (listed.setIfInBounds i true) (a.put (some d) v) w) : wpAnyH P md ops Q S (fuel + 1) listed a w :=
  wpAnyH_take hi hs hf hr hQ hy hS (by rw [hd]; exact h)
theorem yieldsIf_load_nm {P : Program} {ops : Array Oper} {S : World → Prop} {op : Oper} {a : Act} (hw : Region.wanted op (yielded ops a.tmps) = true) (ty : TypeId) (x : Operand) (ho : op.op = .load ty x)
    (b : Nat) (hx : a.eval x = .pointer (some ⟨b, 0, none⟩)) (cs : Array Value) (d : TypeDesc) (hS : ∀ w, S w → RowU w b cs)
    (hu : P.underlying ty = some d) (hd : d.isRow = true) (hi : (P.info? ty).map (·.size) = some cs.size) : YieldsIf P ops S op (.agg cs) a := by
  have := yieldsIf_load_mid (P := P) (S := S) hw ty x ho b 0 hx cs.toList d (fun w h => fun j v hv => by rw [Nat.zero_add, (hS w h).2 j]; simpa using hv) hu hd (by rw [hi]; simp)
  simpa using this
section
variable {P : Program} {ops : Array Oper} {o : Oper} {a : Act} {w : World} {K : Act → World → Prop} {Q : Exit → Act → World → Prop} {E : Prop}
theorem step_alloc_nm (hgd : o.guard = none) (t : TypeId) (ho : o.op = .alloc t) (cells : Array Value) (hz : (P.info? t).map (fun i => (i.zero, i.size)) = some (some (.agg cells), cells.size))
    (h : K (a.put o.dst (.pointer (some ⟨w.heap.size, 0, none⟩))) (w.alloc (.cells cells t))) : if Region.wanted o (yielded ops a.tmps) = true then Oper.wp P o a w K Q else E := by
  have hw : Region.wanted o (yielded ops a.tmps) = true := by simp [Region.wanted, hgd]
  rw [if_pos hw]
  unfold Oper.wp execOp
  simp only [ho, Sem.run_bind, run_alloc_var w t (.agg cells) _ hz, Result.andThen_ok]
  exact h
theorem step_store_nm (hgd : o.guard = none) (ty : TypeId) (x y : Operand) (ho : o.op = .store ty x y) (g : Nat) (cells : Array Value) (hx : a.eval x = .pointer (some ⟨g, 0, none⟩)) (hy : a.eval y = .agg cells)
    (t : TypeId) (old : Array Value) (hg : w.heap[g]? = some (.cells old t (0, 0))) (hi : (P.info? ty).map (·.size) = some cells.size) (hold : old.size = cells.size) (h1 : cells.all (·.oneCell') = true)
    (h : K (a.put o.dst undef) (w.setRow g cells)) : if Region.wanted o (yielded ops a.tmps) = true then Oper.wp P o a w K Q else E := by
  have hw : Region.wanted o (yielded ops a.tmps) = true := by simp [Region.wanted, hgd]
  rw [if_pos hw]
  exact wp_store_row ty x y ho g cells hx hy t old hg hi hold h1 h
end
theorem zero8_info : (Tryz.prog.info? 147).map (fun i => (i.zero, i.size)) = some (some (.agg (cellsU (List.replicate 8 0))), (cellsU (List.replicate 8 0)).size) := by kernel_rfl
/-- Between the operations of the first region: the two variables as far as they are there. -/
structure AX (w : World) (o4 o5 : Option Nat) (W : World) : Prop where
  lo : Below w.heap.size w W
  v4 : ∀ b, o4 = some b → AV b 209 (cellsU (List.replicate 64 0)) W ∧ w.heap.size ≤ b
  v5 : ∀ b, o5 = some b → AV b 147 (cellsU (List.replicate 8 0)) W ∧ w.heap.size ≤ b
  ne : ∀ b c, o4 = some b → o5 = some c → b ≠ c
/-- Behind the first store. -/
structure AY (w : World) (cs : Array Value) (b c : Nat) (W : World) : Prop where
  lo : Below w.heap.size w W
  v4 : AV b 209 cs W ∧ w.heap.size ≤ b
  v5 : AV c 147 (cellsU (List.replicate 8 0)) W ∧ w.heap.size ≤ c
  ne : b ≠ c
/-- Behind both. -/
structure AZ (w : World) (cs ds : Array Value) (b c : Nat) (W : World) : Prop where
  lo : Below w.heap.size w W
  w4 : AV b 209 cs W
  w5 : AV c 147 ds W
  l4 : w.heap.size ≤ b
  l5 : w.heap.size ≤ c
  ne : b ≠ c
section
variable {w W W' : World} {o4 o5 : Option Nat} {b c sb : Nat} {cs ds ss : Array Value} {t : TypeId}
theorem rowU_lo (lo : Below w.heap.size w W) (hs : AV sb t ss w) : RowU W sb ss := ⟨Nat.lt_of_lt_of_le hs.lt lo.size, fun i => (lo.cell (p := ⟨sb, i, none⟩) hs.lt).trans (hs.cell i)⟩
theorem AV.lows (hs : AV sb t ss w) (lo : Below w.heap.size w W) : AV sb t ss W := ⟨(lo.block _ hs.lt).trans hs.var⟩
theorem AX.row (h : AX w o4 o5 W) (hs : AV sb t ss w) : RowU W sb ss := rowU_lo h.lo hs
theorem AY.row (h : AY w cs b c W) (hs : AV sb t ss w) : RowU W sb ss := rowU_lo h.lo hs
theorem AZ.row (h : AZ w cs ds b c W) (hs : AV sb t ss w) : RowU W sb ss := rowU_lo h.lo hs
theorem AX.call (h : AX w o4 o5 W) (hb : Below W.heap.size W W') : AX w o4 o5 W' :=
  ⟨h.lo.trans (hb.mono h.lo.size), fun b e => ⟨(h.v4 b e).1.below hb, (h.v4 b e).2⟩, fun b e => ⟨(h.v5 b e).1.below hb, (h.v5 b e).2⟩, h.ne⟩
theorem AX.a4 (h : AX w none o5 W) : AX w (some W.heap.size) o5 (W.alloc (.cells (cellsU (List.replicate 64 0)) 209)) :=
  ⟨h.lo.trans ((below_var W _).mono h.lo.size), fun b e => by injection e with e; subst e; exact ⟨AV.new W _ _, h.lo.size⟩, fun b e => ⟨(h.v5 b e).1.below (below_var W _), (h.v5 b e).2⟩, fun b c e e' => by
    injection e with e
    subst e
    have := (h.v5 c e').1.lt
    omega⟩
theorem AX.a5 (h : AX w o4 none W) : AX w o4 (some W.heap.size) (W.alloc (.cells (cellsU (List.replicate 8 0)) 147)) :=
  ⟨h.lo.trans ((below_var W _).mono h.lo.size), fun b e => ⟨(h.v4 b e).1.below (below_var W _), (h.v4 b e).2⟩, fun b e => by injection e with e; subst e; exact ⟨AV.new W _ _, h.lo.size⟩, fun b c e e' => by
    injection e' with e'
    subst e'
    have := (h.v4 b e).1.lt
    omega⟩
theorem AV.row (h : AV b t cs W) (ds : Array Value) : AV b t ds (W.setRow b ds) := ⟨setRow_heap _ _ _ _ _ _ h.var⟩
theorem AV.rowFar (h : AV b t cs W) (hn : b ≠ c) (ds : Array Value) : AV b t cs (W.setRow c ds) := ⟨(setRow_other _ _ b _ hn).trans h.var⟩
theorem AX.s4 (h : AX w (some b) (some c) W) (cs : Array Value) : AY w cs b c (W.setRow b cs) :=
  ⟨below_setRow' h.lo (h.v4 b rfl).2 _, ⟨(h.v4 b rfl).1.row _, (h.v4 b rfl).2⟩, ⟨(h.v5 c rfl).1.rowFar (fun e => h.ne b c rfl rfl e.symm) _, (h.v5 c rfl).2⟩, h.ne b c rfl rfl⟩
theorem AY.s5 (h : AY w cs b c W) (ds : Array Value) : AZ w cs ds b c (W.setRow c ds) :=
  ⟨below_setRow' h.lo h.v5.2 _, h.v4.1.rowFar h.ne _, h.v5.1.row _, h.v4.2, h.v5.2, h.ne⟩
theorem AX.start (w : World) : AX w none none w.drew := ⟨(Below.refl _ w).drew, (fun _ e => nomatch e), (fun _ e => nomatch e), (fun _ _ e => nomatch e)⟩
end
def ACut (w : World) (ws st : List Int) (p q : Value) (wx : World) : Prop :=
  ∃ wb tb : Nat, p = .pointer (some ⟨wb, 0, none⟩) ∧ q = .pointer (some ⟨tb, 0, none⟩) ∧ wb ≠ tb ∧ w.heap.size ≤ wb ∧ w.heap.size ≤ tb ∧ AV wb 209 (cellsU ws) wx ∧ AV tb 147 (cellsU st) wx ∧ Below w.heap.size w wx
theorem index_cellsU (zs : List Int) (hz : zs.length = 64) (k : Nat) (hk : k < 64) (w : World) : (Instr.index 209 (.agg (cellsU zs)) (.int .i64 (k : Int))).run Tryz.prog w = .ok (.int .u32 (zs[k]?.getD 0)) w := by
  have h1 : (0 : Int) ≤ (k : Int) := by omega
  have h3 := cellsU_get zs k (by omega)
  simp [Instr.index, run_underlying Tryz.underlying209, asIntOf, h1, go_sem]
  simp [go_sem, h3]
  intro h
  omega
/-- The two variables, beside what was there before. -/
structure AW (w : World) (wb tb : Nat) (ws t : List Int) (W : World) : Prop where
  v4 : AV wb 209 (cellsU ws) W
  v5 : AV tb 147 (cellsU t) W
  lo : Below w.heap.size w W
theorem AW.drew {w W : World} {wb tb : Nat} {ws t : List Int} (h : AW w wb tb ws t W) : AW w wb tb ws t W.drew := ⟨h.v4.drew, h.v5.drew, h.lo.drew⟩
def xF (e f g h k wi : Int) : Int :=
  IntKind.u32.wrap (IntKind.u32.wrap (IntKind.u32.wrap (IntKind.u32.wrap (h + bits BinOp.xor IntKind.u32 (bits BinOp.xor IntKind.u32 (rotv e (amt (-6))) (rotv e (amt (-11)))) (rotv e (amt (-25)))) + bits BinOp.xor IntKind.u32 (bits BinOp.and IntKind.u32 e f) (bits BinOp.and IntKind.u32 (bits BinOp.xor IntKind.u32 (if IntKind.u32.signed = true then -1 else IntKind.u32.max) e) g)) + k) + wi)
def yF (a b c : Int) : Int :=
  IntKind.u32.wrap (bits BinOp.xor IntKind.u32 (bits BinOp.xor IntKind.u32 (rotv a (amt (-2))) (rotv a (amt (-13)))) (rotv a (amt (-22))) + bits BinOp.xor IntKind.u32 (bits BinOp.xor IntKind.u32 (bits BinOp.and IntKind.u32 a b) (bits BinOp.and IntKind.u32 a c)) (bits BinOp.and IntKind.u32 b c))
section
variable {P : Program} {ops : Array Oper} {Q : Exit → Act → World → Prop} {a : Act} {w : World} {rest : List Oper} {d : Option Tmp} {t : TypeId} {pos : String} {af : Array Edge} {g : Option (Nat × Bool)}
theorem g_st (ty : TypeId) {x y : Operand} (h : wpList P ops Q (⟨d, .store ty x y, t, pos, af, g⟩ :: rest) a w) : wpList P ops Q (⟨d, .store ty x y, t, pos, af, g⟩ :: rest) a w := h
end
/-- One round. -/
def roundF (k wi : Int) (t : List Int) : List Int :=
  match t with
  | [a, b, c, d, e, f, g, h] => [(xF e f g h k wi + yF a b c) % 4294967296, a, b, c, (d + xF e f g h k wi) % 4294967296, e, f, g]
  | l => l
theorem roundF_length (k wi : Int) (t : List Int) (h : t.length = 8) : (roundF k wi t).length = 8 := by
  match t, h with
  | [a, b, c, d, e, f, g, i], _ => rfl
def rT (KR ws st : List Int) : Nat → List Int
  | 0 => st
  | i + 1 => roundF (KR[i]?.getD 0) (ws[i]?.getD 0) (rT KR ws st i)
theorem rT_length (KR ws st : List Int) (h : st.length = 8) (i : Nat) : (rT KR ws st i).length = 8 := by
  induction i with
  | zero => exact h
  | succ i ih => exact roundF_length _ _ _ ih
/-- The sums of the two states, below i. -/
def sumT (st t : List Int) : Nat → List Int
  | 0 => st
  | i + 1 => (sumT st t i).set i (((st[i]?.getD 0) + (t[i]?.getD 0)) % 4294967296)
theorem sumT_length (st t : List Int) (i : Nat) : (sumT st t i).length = st.length := by
  induction i with
  | zero => rfl
  | succ i ih => simp [sumT, ih]
theorem sumT_get (st t : List Int) (i : Nat) : ∀ j, i ≤ j → (sumT st t i)[j]? = st[j]? := by
  induction i with
  | zero => exact fun _ _ => rfl
  | succ i ih => intro j hj; unfold sumT; rw [List.getElem?_set_ne (by omega)]; exact ih j (by omega)
def addF (KR st : List Int) (xs : List UInt8) : List Int := sumT st (rT KR (schT xs 64) st 64) 8
theorem eight {t : List Int} (h : t.length = 8) : ∃ a b c d e f g i, t = [a, b, c, d, e, f, g, i] := by
  match t, h with
  | [a, b, c, d, e, f, g, i], _ => exact ⟨a, b, c, d, e, f, g, i, rfl⟩
set_option maxRecDepth 10000 in
set_option maxHeartbeats 8000000 in
theorem add_any (KR : List Int) (hK : KR.length = 64) (w : World) (hG : RowU w 0 (cellsU KR)) (sb bb off c : Nat) (st : List Int) (xs : List UInt8) (hst : st.length = 8) (hs : AV sb 147 (cellsU st) w) (hx : xs.length = 64) (hb : bb < w.heap.size) (hA : ∀ j, j < 64 → w.cell? ⟨bb, off + j, none⟩ = some (Extern.Stop.cell (xs[j]?.getD 0))) :
    Calls Tryz.prog 66 #[.pointer (some ⟨sb, 0, none⟩), .slice (some ⟨bb, off, none⟩) 64 c] w fun e w' => e = .returned (.tuple #[]) ∧ AV sb 147 (cellsU (addF KR st xs)) w' ∧ SKeep sb w w' := by
  have HSC : Hid (∀ W, Below w.heap.size w W → Calls Tryz.prog 97 #[.slice (some ⟨bb, off, none⟩) 64 c] W fun e w' => e = .returned (.agg (cellsU (schT xs 64))) ∧ Below W.heap.size W w') :=
    Lib.hid fun W h => schedule_any W bb off c xs hx (Nat.lt_of_lt_of_le hb h.size) fun j hj => (h.cell (p := ⟨bb, off + j, none⟩) hb).trans (hA j hj)
  have hwl := schT_length xs 64
  obtain ⟨ws, hws⟩ : ∃ ws, schT xs 64 = ws := ⟨_, rfl⟩
  rw [hws] at HSC hwl
  have HG := Lib.hid hG
  have HKL := Lib.hid hK
  clear hG hK
  have HSB := Lib.hid hs
  have HST := Lib.hid hst
  have HI4 : Hid ((Tryz.prog.info? 209).map (·.size) = some (cellsU ws).size) := Lib.hid (by rw [cellsU_size, hwl]; kernel_rfl)
  have HI8 : Hid ((Tryz.prog.info? 147).map (·.size) = some (cellsU st).size) := Lib.hid (by rw [cellsU_size, hst]; kernel_rfl)
  have HZ4 : Hid ((cellsU (List.replicate 64 0)).size = (cellsU ws).size) := Lib.hid (by rw [cellsU_size, cellsU_size, hwl]; simp)
  have HZ8 : Hid ((cellsU (List.replicate 8 0)).size = (cellsU st).size) := Lib.hid (by rw [cellsU_size, cellsU_size, hst]; simp)
  have HWL := Lib.hid hwl
  have HWS := Lib.hid hws
  clear hs hst hx hA hwl hws
  go_enter Tryz.func66, Tryz.ntmps66
  go_upto_region 0 with fail
  go_cut [4, 5] (fun p q wx => ACut w ws st p q wx)
  case first =>
    have hX0 := AX.start w
    refine wp_region_held_drew (S := fun W => RowU W sb (cellsU st)) (by kernel_rfl) (hX0.row HSB.out) (fun hH0 => ?_)
    refine wpAnyH_take_d2 (i := 0) (v := ?v0a) (d := 11) rfl rfl (by kernel_rfl) (by kernel_rfl) (by kernel_rfl) (fun _ _ _ h => h) (Or.inl ⟨by rfl, ?hy0a⟩) (by assumption) ?r0a
    case hy0a => intro w' hSw; clear hSw; first | (go_simp; done) | (go_simp; with_reducible rfl)
    try simp only [Act.put, List.setIfInBounds_toArray, List.set_cons_zero, List.set_cons_succ]
    refine wpAnyH_take_d2 (i := 2) (v := ?v2a) (d := 13) rfl rfl (by kernel_rfl) (by kernel_rfl) (by kernel_rfl) (fun _ _ _ h => h) (Or.inl ⟨by rfl, ?hy2a⟩) (by assumption) ?r2a
    case hy2a => intro w' hSw; clear hSw; first | (go_simp; done) | (go_simp; with_reducible rfl)
    try simp only [Act.put, List.setIfInBounds_toArray, List.set_cons_zero, List.set_cons_succ]
    refine wpAnyH_take_d2 (i := 3) (v := ?v3a) (d := 14) rfl rfl (by kernel_rfl) (by kernel_rfl) (by kernel_rfl) (fun _ _ _ h => h) (Or.inl ⟨by rfl, ?hy3a⟩) (by assumption) ?r3a
    case hy3a => intro w' hSw; clear hSw; first | (go_simp; done) | (go_simp; with_reducible rfl)
    try simp only [Act.put, List.setIfInBounds_toArray, List.set_cons_zero, List.set_cons_succ]
    refine wpAnyH_take_d2 (i := 4) (v := .agg (cellsU st)) (d := 15) rfl rfl (by kernel_rfl) (by kernel_rfl) (by kernel_rfl) (fun _ _ _ h => h) (yieldsIf_load_nm rfl _ _ rfl sb rfl (cellsU st) _ (fun _ h => h) Tryz.underlying147 rfl HI8.out) (by assumption) ?r4a
    try simp only [Act.put, List.setIfInBounds_toArray, List.set_cons_zero, List.set_cons_succ]
    refine wpAnyH_ready (rs := [1, 5, 6]) (by kernel_rfl) (by simp) ?_
    refine AllReadyH.cons rfl (fun K hK => ?_) (AllReadyH.cons rfl (fun K hK => ?_) (AllReadyH.cons rfl (fun K hK => ?_) AllReadyH.nil))
    · go_simp
      refine (HSC.out _ hX0.lo).mono ?_
      rintro e w1 ⟨rfl, hb1⟩
      have hX1 := hX0.call hb1
      refine hK.out _ _ (hX1.row HSB.out) (fun hHeld => ?_)
      clear hHeld hK K
      try simp only [Act.put, List.setIfInBounds_toArray, List.set_cons_zero, List.set_cons_succ]
      refine wpAnyH_ready (rs := [5, 6]) (by kernel_rfl) (by simp) ?_
      refine AllReadyH.cons rfl (fun K hK => ?_) (AllReadyH.cons rfl (fun K hK => ?_) AllReadyH.nil)
      · refine step_alloc_nm (o := ⟨some 4, .alloc 209, _, _, _, none⟩) rfl 209 rfl (cellsU (List.replicate 64 0)) zero64_info ?_
        have hX2 := hX1.a4
        refine hK.out _ _ (hX2.row HSB.out) (fun hHeld => ?_)
        clear hHeld hK K
        try simp only [Act.put, List.setIfInBounds_toArray, List.set_cons_zero, List.set_cons_succ]
        refine wpAnyH_ready (rs := [6]) (by kernel_rfl) (by simp) ?_
        refine AllReadyH.cons rfl (fun K hK => ?_) AllReadyH.nil
        refine step_alloc_nm (o := ⟨some 5, .alloc 147, _, _, _, none⟩) rfl 147 rfl (cellsU (List.replicate 8 0)) zero8_info ?_
        have hX3 := hX2.a5
        refine hK.out _ _ (hX3.row HSB.out) (fun hHeld => ?_)
        clear hHeld hK K
        try simp only [Act.put, List.setIfInBounds_toArray, List.set_cons_zero, List.set_cons_succ]
        refine wpAnyH_ready (rs := [7]) (by kernel_rfl) (by simp) ?_
        refine AllReadyH.cons rfl (fun K hK => ?_) AllReadyH.nil
        refine step_store_nm (o := ⟨none, .store 209 (.tmp 4) (.tmp 12), _, _, _, none⟩) rfl 209 _ _ rfl (w1.heap.size) (cellsU ws) rfl rfl 209 (cellsU (List.replicate 64 0)) (hX3.v4 _ rfl).1.var HI4.out HZ4.out (cellsU_one _) ?_
        have hY := hX3.s4 (cellsU ws)
        refine hK.out _ _ (hY.row HSB.out) (fun hHeld => ?_)
        clear hHeld hK K
        try simp only [Act.put]
        refine wpAnyH_ready (rs := [8]) (by kernel_rfl) (by simp) ?_
        refine AllReadyH.cons rfl (fun K hK => ?_) AllReadyH.nil
        refine step_store_nm (o := ⟨none, .store 147 (.tmp 5) (.tmp 15), _, _, _, none⟩) rfl 147 _ _ rfl ((w1.alloc (.cells (cellsU (List.replicate 64 0)) 209)).heap.size) (cellsU st) rfl rfl 147 (cellsU (List.replicate 8 0)) hY.v5.1.var HI8.out HZ8.out (cellsU_one _) ?_
        have hV := hY.s5 (cellsU st)
        refine hK.out _ _ (hV.row HSB.out) (fun hHeld => ?_)
        clear hHeld hK K
        try simp only [Act.put]
        refine wpAnyH_done (by kernel_rfl) ?_ _
        clear hH0
        have hcut : ACut w ws st _ _ _ := ⟨w1.heap.size, (w1.alloc (.cells (cellsU (List.replicate 64 0)) 209)).heap.size, rfl, rfl, hV.ne, hV.l4, hV.l5, hV.w4, hV.w5, hV.lo⟩
        go_wp2_with fail
        go_meet
        exact hcut
      · refine step_alloc_nm (o := ⟨some 5, .alloc 147, _, _, _, none⟩) rfl 147 rfl (cellsU (List.replicate 8 0)) zero8_info ?_
        have hX4 := hX1.a5
        refine hK.out _ _ (hX4.row HSB.out) (fun hHeld => ?_)
        clear hHeld hK K
        try simp only [Act.put, List.setIfInBounds_toArray, List.set_cons_zero, List.set_cons_succ]
        refine wpAnyH_ready (rs := [5]) (by kernel_rfl) (by simp) ?_
        refine AllReadyH.cons rfl (fun K hK => ?_) AllReadyH.nil
        refine step_alloc_nm (o := ⟨some 4, .alloc 209, _, _, _, none⟩) rfl 209 rfl (cellsU (List.replicate 64 0)) zero64_info ?_
        have hX5 := hX4.a4
        refine hK.out _ _ (hX5.row HSB.out) (fun hHeld => ?_)
        clear hHeld hK K
        try simp only [Act.put, List.setIfInBounds_toArray, List.set_cons_zero, List.set_cons_succ]
        refine wpAnyH_ready (rs := [7]) (by kernel_rfl) (by simp) ?_
        refine AllReadyH.cons rfl (fun K hK => ?_) AllReadyH.nil
        refine step_store_nm (o := ⟨none, .store 209 (.tmp 4) (.tmp 12), _, _, _, none⟩) rfl 209 _ _ rfl ((w1.alloc (.cells (cellsU (List.replicate 8 0)) 147)).heap.size) (cellsU ws) rfl rfl 209 (cellsU (List.replicate 64 0)) (hX5.v4 _ rfl).1.var HI4.out HZ4.out (cellsU_one _) ?_
        have hY := hX5.s4 (cellsU ws)
        refine hK.out _ _ (hY.row HSB.out) (fun hHeld => ?_)
        clear hHeld hK K
        try simp only [Act.put]
        refine wpAnyH_ready (rs := [8]) (by kernel_rfl) (by simp) ?_
        refine AllReadyH.cons rfl (fun K hK => ?_) AllReadyH.nil
        refine step_store_nm (o := ⟨none, .store 147 (.tmp 5) (.tmp 15), _, _, _, none⟩) rfl 147 _ _ rfl (w1.heap.size) (cellsU st) rfl rfl 147 (cellsU (List.replicate 8 0)) hY.v5.1.var HI8.out HZ8.out (cellsU_one _) ?_
        have hV := hY.s5 (cellsU st)
        refine hK.out _ _ (hV.row HSB.out) (fun hHeld => ?_)
        clear hHeld hK K
        try simp only [Act.put]
        refine wpAnyH_done (by kernel_rfl) ?_ _
        clear hH0
        have hcut : ACut w ws st _ _ _ := ⟨(w1.alloc (.cells (cellsU (List.replicate 8 0)) 147)).heap.size, w1.heap.size, rfl, rfl, hV.ne, hV.l4, hV.l5, hV.w4, hV.w5, hV.lo⟩
        go_wp2_with fail
        go_meet
        exact hcut
    · refine step_alloc_nm (o := ⟨some 4, .alloc 209, _, _, _, none⟩) rfl 209 rfl (cellsU (List.replicate 64 0)) zero64_info ?_
      have hX6 := hX0.a4
      refine hK.out _ _ (hX6.row HSB.out) (fun hHeld => ?_)
      clear hHeld hK K
      try simp only [Act.put, List.setIfInBounds_toArray, List.set_cons_zero, List.set_cons_succ]
      refine wpAnyH_ready (rs := [1, 6]) (by kernel_rfl) (by simp) ?_
      refine AllReadyH.cons rfl (fun K hK => ?_) (AllReadyH.cons rfl (fun K hK => ?_) AllReadyH.nil)
      · go_simp
        refine (HSC.out _ hX6.lo).mono ?_
        rintro e w7 ⟨rfl, hb7⟩
        have hX7 := hX6.call hb7
        refine hK.out _ _ (hX7.row HSB.out) (fun hHeld => ?_)
        clear hHeld hK K
        try simp only [Act.put, List.setIfInBounds_toArray, List.set_cons_zero, List.set_cons_succ]
        refine wpAnyH_ready (rs := [6]) (by kernel_rfl) (by simp) ?_
        refine AllReadyH.cons rfl (fun K hK => ?_) AllReadyH.nil
        refine step_alloc_nm (o := ⟨some 5, .alloc 147, _, _, _, none⟩) rfl 147 rfl (cellsU (List.replicate 8 0)) zero8_info ?_
        have hX8 := hX7.a5
        refine hK.out _ _ (hX8.row HSB.out) (fun hHeld => ?_)
        clear hHeld hK K
        try simp only [Act.put, List.setIfInBounds_toArray, List.set_cons_zero, List.set_cons_succ]
        refine wpAnyH_ready (rs := [7]) (by kernel_rfl) (by simp) ?_
        refine AllReadyH.cons rfl (fun K hK => ?_) AllReadyH.nil
        refine step_store_nm (o := ⟨none, .store 209 (.tmp 4) (.tmp 12), _, _, _, none⟩) rfl 209 _ _ rfl (w.drew.heap.size) (cellsU ws) rfl rfl 209 (cellsU (List.replicate 64 0)) (hX8.v4 _ rfl).1.var HI4.out HZ4.out (cellsU_one _) ?_
        have hY := hX8.s4 (cellsU ws)
        refine hK.out _ _ (hY.row HSB.out) (fun hHeld => ?_)
        clear hHeld hK K
        try simp only [Act.put]
        refine wpAnyH_ready (rs := [8]) (by kernel_rfl) (by simp) ?_
        refine AllReadyH.cons rfl (fun K hK => ?_) AllReadyH.nil
        refine step_store_nm (o := ⟨none, .store 147 (.tmp 5) (.tmp 15), _, _, _, none⟩) rfl 147 _ _ rfl (w7.heap.size) (cellsU st) rfl rfl 147 (cellsU (List.replicate 8 0)) hY.v5.1.var HI8.out HZ8.out (cellsU_one _) ?_
        have hV := hY.s5 (cellsU st)
        refine hK.out _ _ (hV.row HSB.out) (fun hHeld => ?_)
        clear hHeld hK K
        try simp only [Act.put]
        refine wpAnyH_done (by kernel_rfl) ?_ _
        clear hH0
        have hcut : ACut w ws st _ _ _ := ⟨w.drew.heap.size, w7.heap.size, rfl, rfl, hV.ne, hV.l4, hV.l5, hV.w4, hV.w5, hV.lo⟩
        go_wp2_with fail
        go_meet
        exact hcut
      · refine step_alloc_nm (o := ⟨some 5, .alloc 147, _, _, _, none⟩) rfl 147 rfl (cellsU (List.replicate 8 0)) zero8_info ?_
        have hX9 := hX6.a5
        refine hK.out _ _ (hX9.row HSB.out) (fun hHeld => ?_)
        clear hHeld hK K
        try simp only [Act.put, List.setIfInBounds_toArray, List.set_cons_zero, List.set_cons_succ]
        refine wpAnyH_ready (rs := [1]) (by kernel_rfl) (by simp) ?_
        refine AllReadyH.cons rfl (fun K hK => ?_) AllReadyH.nil
        go_simp
        refine (HSC.out _ hX9.lo).mono ?_
        rintro e w10 ⟨rfl, hb10⟩
        have hX10 : AX w (some w.heap.size) (some (w.heap.size + 1)) w10 := by have h := hX9.call hb10; rw [show (World.alloc w.drew _).heap.size = w.heap.size + 1 by simp] at h; exact h
        refine hK.out _ _ (hX10.row HSB.out) (fun hHeld => ?_)
        clear hHeld hK K
        try simp only [Act.put, List.setIfInBounds_toArray, List.set_cons_zero, List.set_cons_succ]
        refine wpAnyH_ready (rs := [7]) (by kernel_rfl) (by simp) ?_
        refine AllReadyH.cons rfl (fun K hK => ?_) AllReadyH.nil
        refine step_store_nm (o := ⟨none, .store 209 (.tmp 4) (.tmp 12), _, _, _, none⟩) rfl 209 _ _ rfl (w.heap.size) (cellsU ws) rfl rfl 209 (cellsU (List.replicate 64 0)) (hX10.v4 _ rfl).1.var HI4.out HZ4.out (cellsU_one _) ?_
        have hY := hX10.s4 (cellsU ws)
        refine hK.out _ _ (hY.row HSB.out) (fun hHeld => ?_)
        clear hHeld hK K
        try simp only [Act.put]
        refine wpAnyH_ready (rs := [8]) (by kernel_rfl) (by simp) ?_
        refine AllReadyH.cons rfl (fun K hK => ?_) AllReadyH.nil
        refine step_store_nm (o := ⟨none, .store 147 (.tmp 5) (.tmp 15), _, _, _, none⟩) rfl 147 _ _ rfl ((w.heap.size + 1)) (cellsU st) rfl rfl 147 (cellsU (List.replicate 8 0)) hY.v5.1.var HI8.out HZ8.out (cellsU_one _) ?_
        have hV := hY.s5 (cellsU st)
        refine hK.out _ _ (hV.row HSB.out) (fun hHeld => ?_)
        clear hHeld hK K
        try simp only [Act.put]
        refine wpAnyH_done (by kernel_rfl) ?_ _
        clear hH0
        have hcut : ACut w ws st _ _ _ := ⟨w.heap.size, (w.heap.size + 1), rfl, rfl, hV.ne, hV.l4, hV.l5, hV.w4, hV.w5, hV.lo⟩
        go_wp2_with fail
        go_meet
        exact hcut
    · refine step_alloc_nm (o := ⟨some 5, .alloc 147, _, _, _, none⟩) rfl 147 rfl (cellsU (List.replicate 8 0)) zero8_info ?_
      have hX11 := hX0.a5
      refine hK.out _ _ (hX11.row HSB.out) (fun hHeld => ?_)
      clear hHeld hK K
      try simp only [Act.put, List.setIfInBounds_toArray, List.set_cons_zero, List.set_cons_succ]
      refine wpAnyH_ready (rs := [1, 5]) (by kernel_rfl) (by simp) ?_
      refine AllReadyH.cons rfl (fun K hK => ?_) (AllReadyH.cons rfl (fun K hK => ?_) AllReadyH.nil)
      · go_simp
        refine (HSC.out _ hX11.lo).mono ?_
        rintro e w12 ⟨rfl, hb12⟩
        have hX12 := hX11.call hb12
        refine hK.out _ _ (hX12.row HSB.out) (fun hHeld => ?_)
        clear hHeld hK K
        try simp only [Act.put, List.setIfInBounds_toArray, List.set_cons_zero, List.set_cons_succ]
        refine wpAnyH_ready (rs := [5]) (by kernel_rfl) (by simp) ?_
        refine AllReadyH.cons rfl (fun K hK => ?_) AllReadyH.nil
        refine step_alloc_nm (o := ⟨some 4, .alloc 209, _, _, _, none⟩) rfl 209 rfl (cellsU (List.replicate 64 0)) zero64_info ?_
        have hX13 := hX12.a4
        refine hK.out _ _ (hX13.row HSB.out) (fun hHeld => ?_)
        clear hHeld hK K
        try simp only [Act.put, List.setIfInBounds_toArray, List.set_cons_zero, List.set_cons_succ]
        refine wpAnyH_ready (rs := [7]) (by kernel_rfl) (by simp) ?_
        refine AllReadyH.cons rfl (fun K hK => ?_) AllReadyH.nil
        refine step_store_nm (o := ⟨none, .store 209 (.tmp 4) (.tmp 12), _, _, _, none⟩) rfl 209 _ _ rfl (w12.heap.size) (cellsU ws) rfl rfl 209 (cellsU (List.replicate 64 0)) (hX13.v4 _ rfl).1.var HI4.out HZ4.out (cellsU_one _) ?_
        have hY := hX13.s4 (cellsU ws)
        refine hK.out _ _ (hY.row HSB.out) (fun hHeld => ?_)
        clear hHeld hK K
        try simp only [Act.put]
        refine wpAnyH_ready (rs := [8]) (by kernel_rfl) (by simp) ?_
        refine AllReadyH.cons rfl (fun K hK => ?_) AllReadyH.nil
        refine step_store_nm (o := ⟨none, .store 147 (.tmp 5) (.tmp 15), _, _, _, none⟩) rfl 147 _ _ rfl (w.drew.heap.size) (cellsU st) rfl rfl 147 (cellsU (List.replicate 8 0)) hY.v5.1.var HI8.out HZ8.out (cellsU_one _) ?_
        have hV := hY.s5 (cellsU st)
        refine hK.out _ _ (hV.row HSB.out) (fun hHeld => ?_)
        clear hHeld hK K
        try simp only [Act.put]
        refine wpAnyH_done (by kernel_rfl) ?_ _
        clear hH0
        have hcut : ACut w ws st _ _ _ := ⟨w12.heap.size, w.drew.heap.size, rfl, rfl, hV.ne, hV.l4, hV.l5, hV.w4, hV.w5, hV.lo⟩
        go_wp2_with fail
        go_meet
        exact hcut
      · refine step_alloc_nm (o := ⟨some 4, .alloc 209, _, _, _, none⟩) rfl 209 rfl (cellsU (List.replicate 64 0)) zero64_info ?_
        have hX14 := hX11.a4
        refine hK.out _ _ (hX14.row HSB.out) (fun hHeld => ?_)
        clear hHeld hK K
        try simp only [Act.put, List.setIfInBounds_toArray, List.set_cons_zero, List.set_cons_succ]
        refine wpAnyH_ready (rs := [1]) (by kernel_rfl) (by simp) ?_
        refine AllReadyH.cons rfl (fun K hK => ?_) AllReadyH.nil
        go_simp
        refine (HSC.out _ hX14.lo).mono ?_
        rintro e w15 ⟨rfl, hb15⟩
        have hX15 : AX w (some (w.heap.size + 1)) (some w.heap.size) w15 := by have h := hX14.call hb15; rw [show (World.alloc w.drew _).heap.size = w.heap.size + 1 by simp] at h; exact h
        refine hK.out _ _ (hX15.row HSB.out) (fun hHeld => ?_)
        clear hHeld hK K
        try simp only [Act.put, List.setIfInBounds_toArray, List.set_cons_zero, List.set_cons_succ]
        refine wpAnyH_ready (rs := [7]) (by kernel_rfl) (by simp) ?_
        refine AllReadyH.cons rfl (fun K hK => ?_) AllReadyH.nil
        refine step_store_nm (o := ⟨none, .store 209 (.tmp 4) (.tmp 12), _, _, _, none⟩) rfl 209 _ _ rfl ((w.heap.size + 1)) (cellsU ws) rfl rfl 209 (cellsU (List.replicate 64 0)) (hX15.v4 _ rfl).1.var HI4.out HZ4.out (cellsU_one _) ?_
        have hY := hX15.s4 (cellsU ws)
        refine hK.out _ _ (hY.row HSB.out) (fun hHeld => ?_)
        clear hHeld hK K
        try simp only [Act.put]
        refine wpAnyH_ready (rs := [8]) (by kernel_rfl) (by simp) ?_
        refine AllReadyH.cons rfl (fun K hK => ?_) AllReadyH.nil
        refine step_store_nm (o := ⟨none, .store 147 (.tmp 5) (.tmp 15), _, _, _, none⟩) rfl 147 _ _ rfl (w.heap.size) (cellsU st) rfl rfl 147 (cellsU (List.replicate 8 0)) hY.v5.1.var HI8.out HZ8.out (cellsU_one _) ?_
        have hV := hY.s5 (cellsU st)
        refine hK.out _ _ (hV.row HSB.out) (fun hHeld => ?_)
        clear hHeld hK K
        try simp only [Act.put]
        refine wpAnyH_done (by kernel_rfl) ?_ _
        clear hH0
        have hcut : ACut w ws st _ _ _ := ⟨(w.heap.size + 1), w.heap.size, rfl, rfl, hV.ne, hV.l4, hV.l5, hV.w4, hV.w5, hV.lo⟩
        go_wp2_with fail
        go_meet
        exact hcut
  case rest =>
    obtain ⟨wb, tb, rfl, rfl, hne, hl4, hl5, hv4, hv5, hlo⟩ := hcut
    have HLO := Lib.hid hlo
    have HV4 := Lib.hid hv4
    have HV5 := Lib.hid hv5
    have HGC : Hid (RowU wc 0 (cellsU KR)) := Lib.hid ⟨Nat.lt_of_lt_of_le HG.out.1 hlo.size, fun i => (hlo.cell (p := ⟨0, i, none⟩) HG.out.1).trans (HG.out.2 i)⟩
    have HIK : Hid ((Tryz.prog.info? 209).map (·.size) = some (cellsU KR).size) := Lib.hid (by rw [cellsU_size, HKL.out]; kernel_rfl)
    clear hv4 hv5 hlo HSC HI4 HZ4 HZ8
    go_wp2_with (refine wpList_load_nm rfl _ _ rfl 0 rfl (cellsU KR) HGC.out _ Tryz.underlying209 rfl HIK.out ?_)
    go_loopw [17] (fun i wr => ∃ k : Nat, k ≤ 64 ∧ i = I k ∧ AV wb 209 (cellsU ws) wr ∧ AV tb 147 (cellsU (rT KR ws st k)) wr ∧ Below w.heap.size w wr) (fun i _ => 64 - (intOf i).toNat)
    case atStart => exact ⟨0, Nat.zero_le _, rfl, HV4.out, HV5.out, HLO.out⟩
    case round =>
      obtain ⟨k, hk, rfl, hw, ht, hlo⟩ := hrel
      have HW := Lib.hid hw
      have HT := Lib.hid ht
      have HL := Lib.hid hlo
      have hlen := rT_length KR ws st HST.out k
      clear hw ht hlo HV4 HV5 HLO
      by_cases hlt : k < 64
      · have i1 : (k : Int) < 64 := by omega
        obtain ⟨t0, t1, t2, t3, t4, t5, t6, t7, he⟩ := eight hlen
        have HE := Lib.hid he
        have hct := HT.out.cell
        rw [he] at hct
        have c0 : wr.cell? ⟨tb, 0, none⟩ = some (.int .u32 t0) := hct 0
        have c1 : wr.cell? ⟨tb, 1, none⟩ = some (.int .u32 t1) := hct 1
        have c2 : wr.cell? ⟨tb, 2, none⟩ = some (.int .u32 t2) := hct 2
        have c3 : wr.cell? ⟨tb, 3, none⟩ = some (.int .u32 t3) := hct 3
        have c4 : wr.cell? ⟨tb, 4, none⟩ = some (.int .u32 t4) := hct 4
        have c5 : wr.cell? ⟨tb, 5, none⟩ = some (.int .u32 t5) := hct 5
        have c6 : wr.cell? ⟨tb, 6, none⟩ = some (.int .u32 t6) := hct 6
        have c7 : wr.cell? ⟨tb, 7, none⟩ = some (.int .u32 t7) := hct 7
        obtain ⟨kk, hkk⟩ : ∃ z, KR[k]?.getD 0 = z := ⟨_, rfl⟩
        obtain ⟨wi, hwi⟩ : ∃ z, ws[k]?.getD 0 = z := ⟨_, rfl⟩
        have hix : ∀ W, (Instr.index 209 (.agg (cellsU KR)) (.int .i64 (k : Int))).run Tryz.prog W = .ok (.int .u32 kk) W := fun W => by rw [index_cellsU KR HKL.out k hlt W, hkk]
        have hcw : wr.cell? ⟨wb, k, none⟩ = some (.int .u32 wi) := (HW.out.cell k).trans (by rw [cellsU_get _ _ (by rw [HWL.out]; exact hlt), hwi])
        have HKK := Lib.hid (And.intro hkk hwi)
        have HAW : Hid (AW w wb tb ws [t0, t1, t2, t3, t4, t5, t6, t7] wr) := Lib.hid ⟨HW.out, by rw [← he]; exact HT.out, HL.out⟩
        clear hct hkk hwi hlen he
        go_upto_region 4 with fail
        go_cut [8] (fun p wx => p = .int .u32 (xF t4 t5 t6 t7 kk wi) ∧ AW w wb tb ws [t0, t1, t2, t3, t4, t5, t6, t7] wx)
        case first =>
          refine wp_region_still_lit (by kernel_rfl) (by kernel_rfl) ?_
          repeat (first | still_step | still_call (rot_at _ _ _ (by kernel_rfl)))
          refine wpStill_nil ?_
          rename_i J K1 hJ hmet
          refine hmet _ _ (Met.intro (hJ _ _ ?_))
          repeat apply Exists.intro
          refine ⟨?rel, rfl⟩
          case rel => exact ⟨rfl, HAW.out.drew⟩
        case rest =>
          obtain ⟨rfl, haw⟩ := hcut
          obtain ⟨X, hX⟩ : ∃ z, xF t4 t5 t6 t7 kk wi = z := ⟨_, rfl⟩
          rw [hX]
          have HXX := Lib.hid hX
          clear hX c0 c1 c2 c3 c4 c5 c6 c7 hix hcw HAW
          have HAW := Lib.hid haw
          have c0 : wc.cell? ⟨tb, 0, none⟩ = some (.int .u32 t0) := haw.v5.cell 0
          have c1 : wc.cell? ⟨tb, 1, none⟩ = some (.int .u32 t1) := haw.v5.cell 1
          have c2 : wc.cell? ⟨tb, 2, none⟩ = some (.int .u32 t2) := haw.v5.cell 2
          have c3 : wc.cell? ⟨tb, 3, none⟩ = some (.int .u32 t3) := haw.v5.cell 3
          have c4 : wc.cell? ⟨tb, 4, none⟩ = some (.int .u32 t4) := haw.v5.cell 4
          have c5 : wc.cell? ⟨tb, 5, none⟩ = some (.int .u32 t5) := haw.v5.cell 5
          have c6 : wc.cell? ⟨tb, 6, none⟩ = some (.int .u32 t6) := haw.v5.cell 6
          have c7 : wc.cell? ⟨tb, 7, none⟩ = some (.int .u32 t7) := haw.v5.cell 7
          clear haw
          go_upto_region 5 with fail
          go_cut [9] (fun p wx => p = .int .u32 (yF t0 t1 t2) ∧ AW w wb tb ws [t0, t1, t2, t3, t4, t5, t6, t7] wx)
          case first =>
            refine wp_region_still_lit (by kernel_rfl) (by kernel_rfl) ?_
            repeat (first | still_step | still_call (rot_at _ _ _ (by kernel_rfl)))
            refine wpStill_nil ?_
            rename_i J K1 hJ hmet
            refine hmet _ _ (Met.intro (hJ _ _ ?_))
            repeat apply Exists.intro
            refine ⟨?rel, rfl⟩
            case rel => exact ⟨rfl, HAW.out.drew⟩
          case rest =>
            clear c0 c1 c2 c3 c4 c5 c6 c7 HAW
            obtain ⟨rfl, haw⟩ := hcut
            obtain ⟨Y, hY⟩ : ∃ z, yF t0 t1 t2 = z := ⟨_, rfl⟩
            rw [hY]
            have HYY := Lib.hid hY
            clear hY
            have HAW := Lib.hid haw
            have c0 : wc.cell? ⟨tb, 0, none⟩ = some (.int .u32 t0) := haw.v5.cell 0
            have c1 : wc.cell? ⟨tb, 1, none⟩ = some (.int .u32 t1) := haw.v5.cell 1
            have c2 : wc.cell? ⟨tb, 2, none⟩ = some (.int .u32 t2) := haw.v5.cell 2
            have c3 : wc.cell? ⟨tb, 3, none⟩ = some (.int .u32 t3) := haw.v5.cell 3
            have c4 : wc.cell? ⟨tb, 4, none⟩ = some (.int .u32 t4) := haw.v5.cell 4
            have c5 : wc.cell? ⟨tb, 5, none⟩ = some (.int .u32 t5) := haw.v5.cell 5
            have c6 : wc.cell? ⟨tb, 6, none⟩ = some (.int .u32 t6) := haw.v5.cell 6
            have c7 : wc.cell? ⟨tb, 7, none⟩ = some (.int .u32 t7) := haw.v5.cell 7
            clear haw
            have HI9 : Hid ((Tryz.prog.info? 147).map (·.size) = some (cellsU [(X + Y) % 4294967296, t0, t1, t2, (t3 + X) % 4294967296, t4, t5, t6]).size) := Lib.hid (by kernel_rfl)
            go_wp2_with (with_reducible refine g_st 147 ?_; refine wpList_store_row rfl _ _ _ rfl tb (cellsU [(X + Y) % 4294967296, t0, t1, t2, (t3 + X) % 4294967296, t4, t5, t6]) rfl rfl 147 (cellsU [t0, t1, t2, t3, t4, t5, t6, t7]) HAW.out.v5.var HI9.out rfl (cellsU_one _) ?_)
            go_roundw
            case rel => exact ⟨k + 1, by omega, by go_num, (HAW.out.v4.rowFar hne _), by
              have h := HAW.out.v5.row (cellsU [(X + Y) % 4294967296, t0, t1, t2, (t3 + X) % 4294967296, t4, t5, t6])
              have e : rT KR ws st (k + 1) = [(X + Y) % 4294967296, t0, t1, t2, (t3 + X) % 4294967296, t4, t5, t6] := by
                unfold rT
                rw [HE.out, HKK.out.1, HKK.out.2, ← HXX.out, ← HYY.out]
                rfl
              rw [e]
              exact h, below_setRow' HAW.out.lo hl5 _⟩
            case measure => simp [intOf]; omega
      · have HKE : Hid (k = 64) := Lib.hid (by omega)
        obtain ⟨T, hT⟩ : ∃ T, rT KR ws st k = T := ⟨_, rfl⟩
        rw [hT] at HT hlen
        have HTT := Lib.hid hT
        have HTL := Lib.hid hlen
        have HS0 : Hid (AV sb 147 (cellsU (sumT st T 0)) wr) := Lib.hid (HSB.out.lows HL.out)
        have hsbl := HSB.out.lt
        have i1 : ¬ (k : Int) < 64 := by omega
        have i2 : ((k : Int) < 64) = False := by simp; omega
        clear hT hlen hlt
        go_wp2_with fail
        go_loopw [104] (fun i wx => ∃ j : Nat, j ≤ 8 ∧ i = I j ∧ AV sb 147 (cellsU (sumT st T j)) wx ∧ AV tb 147 (cellsU T) wx ∧ SKeep sb w wx) (fun i _ => 8 - (intOf i).toNat)
        case atStart => exact ⟨0, Nat.zero_le _, rfl, HS0.out, HT.out, ⟨HL.out.os, HL.out.tape, HL.out.output, HL.out.size, fun q h1 _ => HL.out.block q h1⟩⟩
        case round =>
          obtain ⟨j, hj, rfl, hsv, htv, hkp⟩ := hrel
          have HSV := Lib.hid hsv
          have HTV := Lib.hid htv
          have HKP := Lib.hid hkp
          have HSL := Lib.hid (sumT_length st T j)
          clear HS0 hsv htv hkp
          by_cases hlt2 : j < 8
          · have j1 : (j : Int) < 8 := by omega
            have j0 : (0 : Int) ≤ (j : Int) := by omega
            obtain ⟨sj, hsj⟩ : ∃ z, st[j]?.getD 0 = z := ⟨_, rfl⟩
            obtain ⟨tj, htj⟩ : ∃ z, T[j]?.getD 0 = z := ⟨_, rfl⟩
            have cs : wr.cell? ⟨sb, j, none⟩ = some (.int .u32 sj) := (HSV.out.cell j).trans (by rw [cellsU_get _ _ (by rw [HSL.out, HST.out]; exact hlt2), sumT_get st T j j (Nat.le_refl _), hsj])
            have ct : wr.cell? ⟨tb, j, none⟩ = some (.int .u32 tj) := (HTV.out.cell j).trans (by rw [cellsU_get _ _ (by rw [HTL.out]; exact hlt2), htj])
            have cf := HSV.out.froz j
            have HNX : Hid (AV sb 147 (cellsU (sumT st T (j + 1))) (wr.drew.setCell ⟨sb, j, none⟩ (.int .u32 ((sj + tj) % 4294967296)))) := Lib.hid (by
              have h := HSV.out.drew.put j (.int .u32 ((sj + tj) % 4294967296))
              rw [cellsU_set] at h
              unfold sumT
              rw [hsj, htj]
              exact h)
            clear hsj htj
            go_wp2_with fail
            go_still_tail 11, (by kernel_rfl)
            change wpList _ _ _ _ _ wr.drew
            go_wp2_with fail
            go_roundw
            case rel => exact ⟨j + 1, by omega, by go_num, HNX.out, (HTV.out.drew.far (by omega) _ _), ⟨HKP.out.os, HKP.out.tape, HKP.out.output, by have := HKP.out.size; simpa [World.setCell] using this, fun q h1 h2 => (heap_setCell_other wr.drew ⟨sb, j, none⟩ q _ h2).trans (HKP.out.block q h1 h2)⟩⟩
            case measure => simp [intOf]; omega
          · have HJE : Hid (j = 8) := Lib.hid (by omega)
            have j1 : ¬ (j : Int) < 8 := by omega
            have j2 : ((j : Int) < 8) = False := by simp; omega
            clear hlt2
            go_wp2_with fail
            go_end0
            refine ⟨rfl, ?_, HKP.out⟩
            have h := HSV.out
            rw [HJE.out, ← HTT.out, HKE.out, ← HWS.out] at h
            exact h
end Go.Proofs.YtoljoigbepdeiaaGreatDoor

/- A loop over an iterator that makes its elements in memory of its own: the iterator's contract tells each round what its element is; no round leaves early. -/
namespace Go.Proofs.YtoljoigbepdeiaaGreatDoor
open Go Go.RowKit

/-- What is not older than block B lies as it lay. -/
structure KeepsUp (B : Nat) (W W' : World) : Prop where
  size : W.heap.size ≤ W'.heap.size
  block : ∀ k, B ≤ k → k < W.heap.size → W'.heap[k]? = W.heap[k]?
/-- The iterator's contract, called in W at the yield of loop l. -/
def SeqTells {α : Type} (F : Fence) (n : Nat) (P : Program) (g : Nat) (lb : Array Value) (encs : α → Array Value) (R : α → World → Prop) (S : List α → Prop) (W : World) : Prop :=
  ∀ (l : Nat) (J : List α → World → Prop), l < W.heap.size → (∀ xs A B, J xs A → Below W.heap.size A B → J xs B) →
    (∀ pre x A, J pre A → W.heap.size ≤ A.heap.size → R x A → YieldAt F (n - 1) P l (encs x) A fun e B => e = .returned (.bool true) ∧ J (pre ++ [x]) B ∧ KeepsUp W.heap.size A B) →
    J [] W → CallsIn F n P g (#[.func (.yield l) #[] #[]] ++ lb) W fun e W' => (∃ v, e = .returned v) ∧ ∃ xs, S xs ∧ J xs W'
theorem below_put {B l : Nat} {W : World} {o : Obj} (h : B ≤ l) : Below B W (W.putObj l o) :=
  ⟨rfl, rfl, rfl, by simp [World.putObj], fun k hk => World.putObj_heap_other (by omega)⟩
section
variable {F : Fence} {n : Nat} {P : Program}
theorem wpIn_range_tells {α : Type} {g : Operand} {ps : Array Tmp} {assign body : Code} {Q : Exit → Act → World → Prop} {a : Act} {w : World}
    (hro : F.round = none) (h1 : 1 ≤ n) {gf : Nat} {lb : Array Value} (hg : a.eval g = .func (.func gf) #[] lb) (hFg : F.fn gf) (eg : ∀ args w, (callFunc gf args).run P w = .ok (.enter gf args) w)
    {encs : α → Array Value} {R : α → World → Prop} {S : List α → Prop} (hseq : ∀ W, Below w.heap.size w W → SeqTells F (n - 1) P gf lb encs R S W) (hps : ∀ x, (encs x).size = ps.size)
    (I : List α → World → Prop) (hI : ∀ xs A B, I xs A → Below w.heap.size A B → I xs B) (h0 : I [] w) (a₁ : α → Act)
    (hR : ∀ x A l o o', R x A → A.heap[l]? = some o → o.isCells = false → R x (A.putObj l o'))
    (hassign : ∀ (l : Nat) (x : α) (W : World) (K : Act → World → Prop), K (a₁ x) W →
      assign.wpIn (F.inRound l) (n - 1 - 1) P (Exit.then K (fun _ _ _ => False)) { tmps := (ps.zip (encs x)).foldl (fun t (p, v) => t.setIfInBounds p v) a.tmps, defers := [] } W)
    (hbody : ∀ (l : Nat) (pre : List α) (x : α) (W : World), I pre W → w.heap.size ≤ W.heap.size → R x W → body.wpIn (F.inRound l) (n - 1 - 1) P (fun e _ W' => e = .normal ∧ I (pre ++ [x]) W' ∧ KeepsUp w.heap.size W W') (a₁ x) W)
    (hdone : ∀ (D : Nat) (xs : List α) (W : World), w.heap.size ≤ D → S xs → I xs W → W.heap[D]? = some (.deferred (some [])) → Q .normal { a with defers := { target := .collected D, args := #[] } :: a.defers } W) :
    (Code.rangeFunc g ps assign body).wpIn F n P Q a w := by
  refine wpIn_rangeFunc ?_
  intro fn hfn
  rw [hro]
  obtain ⟨rec, hrec⟩ : ∃ rec : LoopState → Option Code → Loop, rec = fun st pe => { state := st, pending := pe, fn, tmps := a.tmps, params := ps, assign, body, defers := w.heap.size } := ⟨_, rfl⟩
  obtain ⟨W1, hW1⟩ : ∃ W1, (w.alloc (.deferred (some []))).alloc (.loop (rec .ready none)) = W1 := ⟨_, rfl⟩
  have hL1 : W1.heap[w.heap.size + 1]? = some (.loop (rec .ready none)) := by rw [← hW1]; exact heap_alloc2_new w _ _
  have hK1 : W1.heap[w.heap.size]? = some (.deferred (some [])) := by rw [← hW1]; exact heap_alloc2_old w _ _
  have hs1 : W1.heap.size = w.heap.size + 2 := by rw [← hW1]; simp
  have hb1 : Below w.heap.size w W1 := by rw [← hW1]; exact ((Below.refl _ w).alloc (Nat.le_refl _) _).alloc (by simp) _
  refine ⟨w.heap.size + 1, [{ target := .collected w.heap.size, args := #[] }], W1, { target := .fn (.func gf) lb, args := #[.func (.yield (w.heap.size + 1)) #[] #[]] }, W1, gf, #[.func (.yield (w.heap.size + 1)) #[] #[]] ++ lb, W1, ?_, ?_, ?_, ?_, fun _ => h1, ?_⟩
  · rw [← hW1, hrec]; exact run_enterLoop_outer _ _ _ _ _
  · simp only [resolve, hg]
    simp [go_sem]
  · intro f' hf'; simp [Target.leads] at hf'; subst hf'; exact hFg
  · simp [invoke, go_sem, eg]
  · refine (hseq W1 hb1 (w.heap.size + 1) (fun pre W => I pre W ∧ w.heap.size + 2 ≤ W.heap.size ∧ W.heap[w.heap.size + 1]? = some (.loop (rec .ready none)) ∧ W.heap[w.heap.size]? = some (.deferred (some []))) (by omega) ?_ ?_ ⟨hI _ _ _ h0 hb1, by omega, hL1, hK1⟩).mono ?_
    · rintro xs A B ⟨hi, hs, hl, hk⟩ hb
      exact ⟨hI _ _ _ hi (hb.mono (by omega)), Nat.le_trans hs hb.size, (hb.block _ (by omega)).trans hl, (hb.block _ (by omega)).trans hk⟩
    · rintro pre x A ⟨hi, hs, hl, hk⟩ _ hrx
      have hlt : w.heap.size + 1 < A.heap.size := (Array.getElem?_eq_some_iff.1 hl).1
      have hy := run_yield (P := P) (args := encs x) hl (by rw [hrec]; exact hps x)
      rw [hrec] at hy
      refine ⟨fn, _, assign, body, hy, roundIn_of_wpIn hfn (hassign _ x A _ ⟨_, run_beginRound hl (by rw [hrec]), ?_⟩)⟩
      obtain ⟨A2, hA2⟩ : ∃ A2, A.putObj (w.heap.size + 1) (.loop { rec .ready none with state := .busy }) = A2 := ⟨_, rfl⟩
      have hs2 : A2.heap.size = A.heap.size := by rw [← hA2]; simp [World.putObj]
      have hl2 : A2.heap[w.heap.size + 1]? = some (.loop { rec .ready none with state := .busy }) := by rw [← hA2]; exact World.putObj_heap_same hlt
      have hk2 : A2.heap[w.heap.size]? = some (.deferred (some [])) := by rw [← hA2]; exact (World.putObj_heap_other (by omega)).trans hk
      have hi2 : I pre A2 := by rw [← hA2]; exact hI _ _ _ hi (below_put (by omega))
      have hr2 : R x A2 := by rw [← hA2]; exact hR _ _ _ _ _ hrx hl rfl
      have hu2 : ∀ k, w.heap.size + 2 ≤ k → A2.heap[k]? = A.heap[k]? := fun k h => by rw [← hA2]; exact World.putObj_heap_other (by omega)
      rw [hA2]
      refine wpIn_mono (hbody _ pre x A2 hi2 (by omega) hr2) ?_
      rintro e a3 A3 ⟨rfl, hi3, hk3⟩
      have hl3 : A3.heap[w.heap.size + 1]? = some (.loop { rec .ready none with state := .busy }) := (hk3.block _ (by omega) (by omega)).trans hl2
      have hk4 : A3.heap[w.heap.size]? = some (.deferred (some [])) := (hk3.block _ (Nat.le_refl _) (by omega)).trans hk2
      have hlt3 : w.heap.size + 1 < A3.heap.size := (Array.getElem?_eq_some_iff.1 hl3).1
      have hr := run_endRound (P := P) none hl3
      refine ⟨_, _, hr, rfl, ⟨hI _ _ _ hi3 (below_put (by omega)), by have := hk3.size; simp [World.putObj]; omega, ?_, (World.putObj_heap_other (by omega)).trans hk4⟩, ⟨by have := hk3.size; simp [World.putObj]; omega, fun k h2 h3 => ?_⟩⟩
      · rw [World.putObj_heap_same hlt3, hrec]
        rfl
      · rw [World.putObj_heap_other (by omega), hk3.block k (by omega) (by omega)]
        exact hu2 k (by omega)
    · rintro e W2 ⟨⟨v, rfl⟩, xs, hS, hi, hs, hl, hk⟩
      exact ⟨none, _, by have := run_endLoop (P := P) hl (by rw [hrec]; simp); rw [hrec] at this; exact this, hdone _ xs _ (Nat.le_refl _) hS (hI _ _ _ hi (below_put (by omega))) ((World.putObj_heap_other (by omega)).trans hk)⟩
end
end Go.Proofs.YtoljoigbepdeiaaGreatDoor

/- kalends/digest.blocks: its contract as an iterator over the blocks of one part's padded bytes. -/
namespace Go.Proofs.YtoljoigbepdeiaaGreatDoor
open Go Go.RowKit Go.Shelf
attribute [local go_sem] Oper.semAt_some

/-- The length's bytes. -/
def sizeB (s : Int) : List UInt8 := upto (fun j => byteOf (s / 2 ^ (56 - 8 * j))) 8
def zpad (n : Nat) : Nat := (119 - n % 64) % 64
def padTo (bs : List UInt8) (z : Nat) : List UInt8 := bs ++ [128] ++ List.replicate z 0
theorem padTo_length (bs : List UInt8) (z : Nat) : (padTo bs z).length = bs.length + 1 + z := by simp [padTo]; omega
theorem padTo_succ (bs : List UInt8) (z : Nat) : padTo bs (z + 1) = padTo bs z ++ [0] := by simp [padTo, List.replicate_succ']
theorem zpad_le (n : Nat) : zpad n ≤ 63 := by unfold zpad; omega
theorem zpad_eq (n : Nat) : ((n + 1 + zpad n : Nat) : Int) % 64 = 56 := by unfold zpad; omega
theorem zpad_ne {n z : Nat} (h : z < zpad n) : ¬ ((n + 1 + z : Nat) : Int) % 64 = 56 := by unfold zpad at h; omega
/-- The padded message. -/
def padB (bs : List UInt8) : List UInt8 := padTo bs (zpad bs.length) ++ sizeB (8 * (bs.length : Int))
def chunk (bs : List UInt8) (i : Nat) : List UInt8 := (bs.drop (64 * i)).take 64
/-- A block: where it lies, and its bytes. -/
structure El where
  b : Nat
  off : Nat
  cap : Nat
  bs : List UInt8
structure ElAt (x : El) (W : World) : Prop where
  lt : x.b < W.heap.size
  len : x.bs.length = 64
  at_ : ∀ j, j < 64 → W.cell? ⟨x.b, x.off + j, none⟩ = some (Extern.Stop.cell (x.bs[j]?.getD 0))
def encEl (x : El) : Array Value := #[.slice (some ⟨x.b, x.off, none⟩) 64 x.cap]
/-- The message under way: in a row that is not older than block B. -/
structure MsgS (B : Nat) (W0 : World) (ms : List UInt8) (v : Value) (wr : World) : Prop where
  own : wr.ownsRow B 5 1 v ms.length (ms.map Extern.Stop.cell)
  lo : Below B W0 wr
theorem MsgS.app {B n : Nat} {W0 wr w1 : World} {ms xs : List UInt8} {v v' : Value} {o : Obj} {ys : List Value} (h : MsgS B W0 ms v wr) (hB : B ≤ W0.heap.size) (hn : n = (ms ++ xs).length) (hys : ys = (ms ++ xs).map Extern.Stop.cell) (hown : w1.ownsRow B 5 1 v' n ys) (hg : (wr.alloc o).grownBy w1 v.ownBlock) : MsgS B W0 (ms ++ xs) v' w1 := by
  subst hn hys
  have hs := h.lo.size
  have hz := hg.size
  rw [World.size_alloc] at hz
  exact ⟨hown, ⟨hg.os.trans h.lo.os, hg.tape.trans h.lo.tape, hg.output.trans h.lo.output, by omega, fun k hk => by
    rw [hg.block k (by rw [World.size_alloc]; omega) (own_ge h.own k hk), Below.heap_alloc wr o k (by omega)]
    exact h.lo.block k hk⟩⟩
/-- The message's block while the rounds run. -/
structure BlkS (W : World) (g r : Nat) (ms : List UInt8) (wx : World) : Prop where
  lt : g < wx.heap.size
  new : W.heap.size ≤ g
  ge : W.heap.size ≤ wx.heap.size
  cells : ∀ i, i < r → wx.cell? ⟨g, i, none⟩ = some (Extern.Stop.cell (ms[i]?.getD 0))
theorem chunk_at (ms : List UInt8) (i j : Nat) (hj : j < 64) : (chunk ms i)[j]? = ms[64 * i + j]? := by
  unfold chunk
  rw [List.getElem?_take_of_lt hj, List.getElem?_drop]
theorem BlkS.el {W wx : World} {g r : Nat} {ms : List UInt8} (h : BlkS W g r ms wx) (i o cc : Nat) (bs : List UInt8) (ho : o = 64 * i) (hi : 64 * i + 64 ≤ r) (hbs : bs = chunk ms i) (hl : ms.length = r) : ElAt ⟨g, o, cc, bs⟩ wx := by
  subst ho hbs
  refine ⟨h.lt, ?_, fun j hj => ?_⟩
  · unfold chunk; simp; omega
  · rw [chunk_at ms i j hj]; exact h.cells (64 * i + j) (by omega)
theorem BlkS.keep {W wx w2 : World} {g r : Nat} {ms : List UInt8} (h : BlkS W g r ms wx) (hk : KeepsUp W.heap.size wx w2) : BlkS W g r ms w2 :=
  ⟨Nat.lt_of_lt_of_le h.lt hk.size, h.new, Nat.le_trans h.ge hk.size, fun i hi => (World.cell?_of_block (a := ⟨g, i, none⟩) (hk.block g h.new h.lt)).trans (h.cells i hi)⟩
theorem byte_new {w : World} {t : TypeId} (x : UInt8) (v : Value) (hv : v = Extern.Stop.cell x) : ∀ j u, [Extern.Stop.cell x][j]? = some u → (w.alloc (.cells #[v] t)).cell? ((⟨w.heap.size, 0, none⟩ : Addr).add j) = some u := by
  subst hv
  intro j u hu
  rw [addr_add, (Row.new w _ t).2 j]
  simpa using hu
theorem byte_ones (x : UInt8) : ∀ u ∈ [Extern.Stop.cell x], u.oneCell' = true := fun u hu => by rw [List.mem_singleton.1 hu]; rfl
set_option maxRecDepth 100000 in
set_option maxHeartbeats 1000000 in
theorem blocks_tells (F : Fence) (n : Nat) (h7 : F.fn 96) (hro : F.round = none) (hn : 1 ≤ n) (bs : List UInt8) (hb0 : 0 < bs.length) (hlen : bs.length ≤ 1000000000) (W : World) (box pb ab off c : Nat) (hbox : W.cell? ⟨box, 0, none⟩ = some (.slice (some ⟨pb, 0, none⟩) 1 1)) (hp : W.cell? ⟨pb, 0, none⟩ = some (.slice (some ⟨ab, off, none⟩) bs.length c))
    (hlb : box < W.heap.size) (hlp : pb < W.heap.size) (hla : ab < W.heap.size) (hby : ∀ j, j < bs.length → W.cell? ⟨ab, off + j, none⟩ = some (Extern.Stop.cell (bs[j]?.getD 0))) :
    SeqTells F n Tryz.prog 96 #[.pointer (some ⟨box, 0, none⟩)] encEl ElAt (fun xs => xs.map (·.bs) = upto (chunk (padB bs)) ((padB bs).length / 64)) W := by
  intro l J hl hJ hY h0
  have HJ := Lib.hid hJ
  have HY := Lib.hid hY
  have HB := Lib.hid hby
  obtain ⟨N, hN⟩ : ∃ N, bs.length = N := ⟨_, rfl⟩
  rw [hN] at hp hb0 hlen
  have HN := Lib.hid hN
  clear hJ hY hby hN
  refine callsIn_of_wp Tryz.func96 rfl h7 ?_ hro
  simp only [Tryz.ntmps96, List.size_toArray, List.length_cons, List.length_nil, Nat.reduceAdd, Nat.reduceSub, Array.replicate_succ, Array.replicate_zero, List.push_toArray, List.append_toArray, List.nil_append, List.cons_append]
  obtain ⟨i0, hi, hq0, hq1, hq2⟩ := info_parts info_u8
  gi_wp2
  gi_loopw [3, 10] (fun m i wr => (i = .int .i64 0 ∧ m = .slice none 0 0 ∧ wr = W) ∨ (∃ g cap, i = .int .i64 1 ∧ m = .slice (some ⟨g, 0, none⟩) N cap ∧ MsgS W.heap.size W bs m wr)) (fun _ i _ => (1 - intOf i).toNat)
  case atStart => exact .inl ⟨rfl, rfl, rfl⟩
  case round =>
    rcases hrel with h | h
    · obtain ⟨rfl, rfl, rfl⟩ := h
      have hne : ∀ j u, (bs.map Extern.Stop.cell)[j]? = some u → wr.cell? ((⟨ab, off, none⟩ : Addr).add j) = some u := fun j u hu => by
        have hj : j < bs.length := by have := (List.getElem?_eq_some_iff.1 hu).1; simpa using this
        rw [Addr.add_mid, HB.out j hj]
        rw [List.getElem?_map, List.getElem?_eq_getElem hj] at hu
        rw [List.getElem?_eq_getElem hj]
        simpa using hu
      have HNE := Lib.hid hne
      clear hne
      gi_wp2_with (gi_at_builtin; refine wpListIn_append_own _ rfl _ _ 24 rfl wr.heap.size 5 i0 (.int .u8 0) 1 1 Tryz.underlying24 hi hq0 hq1 hq2 rfl (by omega) _ _ _ rfl (World.ownsRow_nil _ _ _ _) ⟨ab, off, none⟩ N c (bs.map Extern.Stop.cell) rfl (by rw [List.length_map, HN.out, Nat.mul_one]) HNE.out (ref_one2 bs) (by unfold maxLen; omega) (by omega) (Nat.le_refl _) ?_; intro v1 w1 hown1 hg1 _; rw [Nat.zero_add, List.nil_append] at hown1; obtain ⟨gg, cap, rfl, _⟩ := own_form hown1 hb0; have HO1 := Lib.hid hown1; have HG1 := Lib.hid hg1; clear hown1 hg1)
      go_roundw
      case rel => exact .inr ⟨gg, cap, by go_num, rfl, ⟨by rw [HN.out]; exact HO1.out, ⟨HG1.out.os, HG1.out.tape, HG1.out.output, HG1.out.size, fun k hk => HG1.out.block k hk (fun e => nomatch e)⟩⟩⟩
      case measure => simp [intOf]
    · obtain ⟨g, cap, rfl, rfl, hm⟩ := h
      have HM := Lib.hid hm
      have HO : Hid (wr.ownsRow W.heap.size 5 1 (.slice (some ⟨g, 0, none⟩) N cap) N (bs.map Extern.Stop.cell)) := Lib.hid (by have h := hm.own; rw [HN.out] at h; exact h)
      have hge := hm.lo.size
      have HL1 : Hid (N + 1 = (bs ++ [(128 : UInt8)]).length) := Lib.hid (by rw [List.length_append, HN.out]; rfl)
      have HL2 : Hid (bs.map Extern.Stop.cell ++ [Extern.Stop.cell 128] = (bs ++ [(128 : UInt8)]).map Extern.Stop.cell) := Lib.hid (by simp)
      clear hm
      gi_wp2_with (gi_at_builtin; refine wpListIn_append_own _ rfl _ _ 24 rfl W.heap.size 5 i0 (.int .u8 0) 1 1 Tryz.underlying24 hi hq0 hq1 hq2 rfl (by omega) (.slice (some ⟨g, 0, none⟩) N cap) N (bs.map Extern.Stop.cell) rfl (HO.out.alloc _) ⟨wr.heap.size, 0, none⟩ 1 1 [Extern.Stop.cell 128] rfl rfl (byte_new 128 _ rfl) (byte_ones 128) (by unfold maxLen; omega) (by omega) (by first | (simp; done) | (simp; omega)) ?_; intro v1 w1 hown1 hg1 _; have hm1 : MsgS W.heap.size W (bs ++ [(128 : UInt8)]) v1 w1 := HM.out.app (Nat.le_refl _) HL1.out HL2.out hown1 hg1; obtain ⟨gg, cap1, rfl, _⟩ := own_form hown1 (Nat.succ_pos _); have HM1 := Lib.hid hm1; clear hown1 hg1 hm1)
      gi_loopw [3] (fun m wx => ∃ z g cap q, z ≤ zpad N ∧ q = N + 1 + z ∧ m = .slice (some ⟨g, 0, none⟩) q cap ∧ MsgS W.heap.size W (padTo bs z) m wx) (fun m _ => (N + 1 + zpad N) - (match m with | .slice _ q _ => q | _ => 0))
      case atStart => exact ⟨0, gg, cap1, N + 1, Nat.zero_le _, rfl, rfl, by have h := HM1.out; simpa [padTo] using h⟩
      case round =>
        obtain ⟨z, g, cap, q, hz, hq, rfl, hm⟩ := hrel
        have HM2 := Lib.hid hm
        have HQ := Lib.hid hq
        have hqb : q ≤ 1000000200 := by have : zpad N ≤ 63 := zpad_le N; omega
        have hge2 := hm.lo.size
        have hlq : (padTo bs z).length = q := by rw [padTo_length, HN.out, hq]
        have HO2 : Hid (wr.ownsRow W.heap.size 5 1 (.slice (some ⟨g, 0, none⟩) q cap) q ((padTo bs z).map Extern.Stop.cell)) := Lib.hid (by have h := hm.own; rw [hlq] at h; exact h)
        clear hm HM1 HM HO HL1 HL2
        by_cases hlt : z < zpad N
        · have h56 : ((q : Int) % 64 != 56) = true := by rw [neq_dec]; exact decide_eq_true (by rw [hq]; exact zpad_ne hlt)
          have HL1 : Hid (q + 1 = (padTo bs z ++ [(0 : UInt8)]).length) := Lib.hid (by rw [List.length_append, hlq]; rfl)
          have HL2 : Hid ((padTo bs z).map Extern.Stop.cell ++ [Extern.Stop.cell 0] = (padTo bs z ++ [(0 : UInt8)]).map Extern.Stop.cell) := Lib.hid (by simp)
          clear hq hlq
          gi_wp2_with (gi_at_builtin; refine wpListIn_append_own _ rfl _ _ 24 rfl W.heap.size 5 i0 (.int .u8 0) 1 1 Tryz.underlying24 hi hq0 hq1 hq2 rfl (by omega) (.slice (some ⟨g, 0, none⟩) q cap) q ((padTo bs z).map Extern.Stop.cell) rfl (HO2.out.alloc _) ⟨wr.heap.size, 0, none⟩ 1 1 [Extern.Stop.cell 0] rfl rfl (byte_new 0 _ rfl) (byte_ones 0) (by unfold maxLen; omega) (by omega) (by first | (simp; done) | (simp; omega)) ?_; intro v2 w2 hown2 hg2 _; have hm2 : MsgS W.heap.size W (padTo bs z ++ [(0 : UInt8)]) v2 w2 := HM2.out.app (Nat.le_refl _) HL1.out HL2.out hown2 hg2; obtain ⟨g2, cap2, rfl, _⟩ := own_form hown2 (Nat.succ_pos _); have HM3 := Lib.hid hm2; clear hown2 hg2 hm2)
          go_roundw
          case rel => exact ⟨z + 1, g2, cap2, q + 1, hlt, by have := HQ.out; omega, rfl, by rw [padTo_succ]; exact HM3.out⟩
          case measure => have := HQ.out; show N + 1 + zpad N - (q + 1) < N + 1 + zpad N - q; omega
        · have hze : z = zpad N := by omega
          have h56 : ((q : Int) % 64 != 56) = false := by rw [neq_dec]; exact decide_eq_false (by rw [hq, hze]; have := zpad_eq N; omega)
          have HZE := Lib.hid hze
          clear hq hze hlq hlt hz
          obtain ⟨pm, hpm⟩ : ∃ pm, padTo bs (zpad N) = pm := ⟨_, rfl⟩
          have HPM := Lib.hid hpm
          have HPL : Hid (pm.length = q) := Lib.hid (by rw [← hpm, padTo_length, HN.out]; have := HQ.out; have := HZE.out; omega)
          have HM4 : Hid (MsgS W.heap.size W pm (.slice (some ⟨g, 0, none⟩) q cap) wr) := Lib.hid (by have h := HM2.out; rw [HZE.out, hpm] at h; exact h)
          clear hpm HM2 HO2
          gi_wp2_with fail
          gi_loopw [3, 7] (fun m i wx => ∃ j g cap r, j ≤ 8 ∧ r = q + j ∧ i = .int .i64 (56 - 8 * (j : Int)) ∧ m = .slice (some ⟨g, 0, none⟩) r cap ∧ MsgS W.heap.size W (pm ++ upto (fun j => byteOf ((8 * (N : Int)) / 2 ^ (56 - 8 * j))) j) m wx) (fun _ i _ => (intOf i + 8).toNat)
          case atStart => exact ⟨0, g, cap, q, Nat.zero_le _, rfl, by go_num, rfl, by have h := HM4.out; simpa [upto] using h⟩
          case round =>
            obtain ⟨j, g, cap, r, hj, hr, rfl, rfl, hm⟩ := hrel
            have HM5 := Lib.hid hm
            have HR := Lib.hid hr
            have hge3 := hm.lo.size
            have hrb : r ≤ 1000000300 := by omega
            obtain ⟨ms, hms⟩ : ∃ ms, pm ++ upto (fun j => byteOf ((8 * (N : Int)) / 2 ^ (56 - 8 * j))) j = ms := ⟨_, rfl⟩
            have hml : ms.length = r := by rw [← hms, List.length_append, HPL.out, upto_length, hr]
            rw [hms] at HM5 hm
            have HMS := Lib.hid hms
            have HO5 : Hid (wr.ownsRow W.heap.size 5 1 (.slice (some ⟨g, 0, none⟩) r cap) r (ms.map Extern.Stop.cell)) := Lib.hid (by have h := hm.own; rw [hml] at h; exact h)
            clear hm hr hms HM4
            by_cases hlt : j < 8
            · obtain ⟨s, hs⟩ : ∃ s : Nat, 56 - 8 * j = s := ⟨_, rfl⟩
              have hs2 : 56 - 8 * (j : Int) = (s : Int) := by omega
              have hs0 : (0 : Int) ≤ (s : Int) := by omega
              have hs1 : (s : Int) ≤ 56 := by omega
              obtain ⟨y, hy⟩ : ∃ y : Int, (8 * (N : Int)) / 2 ^ s = y := ⟨_, rfl⟩
              have HL1 : Hid (r + 1 = (ms ++ [byteOf y]).length) := Lib.hid (by rw [List.length_append, hml]; rfl)
              have HL2 : Hid (ms.map Extern.Stop.cell ++ [Extern.Stop.cell (byteOf y)] = (ms ++ [byteOf y]).map Extern.Stop.cell) := Lib.hid (by simp)
              have HYY := Lib.hid hy
              have HSS := Lib.hid hs
              have HS2 := Lib.hid hs2
              have hby8 : IntKind.u8.wrap y = y % 256 := by rw [IntKind.wrap_u8]
              rw [hs2]
              clear hml hs hs2
              gi_wp2_with (gi_at_builtin; refine wpListIn_append_own _ rfl _ _ 24 rfl W.heap.size 5 i0 (.int .u8 0) 1 1 Tryz.underlying24 hi hq0 hq1 hq2 rfl (by omega) (.slice (some ⟨g, 0, none⟩) r cap) r (ms.map Extern.Stop.cell) rfl (HO5.out.alloc _) ⟨wr.heap.size, 0, none⟩ 1 1 [Extern.Stop.cell (byteOf y)] rfl rfl (byte_new (byteOf y) _ (byteOf_cell y).symm) (byte_ones _) (by unfold maxLen; omega) (by omega) (by first | (simp; done) | (simp; omega)) ?_; intro v2 w2 hown2 hg2 _; have hm2 : MsgS W.heap.size W (ms ++ [byteOf y]) v2 w2 := HM5.out.app (Nat.le_refl _) HL1.out HL2.out hown2 hg2; obtain ⟨g2, cap2, rfl, _⟩ := own_form hown2 (Nat.succ_pos _); have HM6 := Lib.hid hm2; clear hown2 hg2 hm2)
              go_roundw
              case rel => exact ⟨j + 1, g2, cap2, r + 1, hlt, by have := HR.out; omega, by have := HS2.out; congr 1; omega, rfl, by rw [upto_succ, ← List.append_assoc, HMS.out, HSS.out, HYY.out]; exact HM6.out⟩
              case measure => have := HS2.out; simp [intOf]; omega
            · have hj8 : j = 8 := by omega
              have hs2 : 56 - 8 * (j : Int) = -8 := by omega
              have hms2 : ms = padB bs := by
                rw [← HMS.out, hj8, ← HPM.out]
                unfold padB sizeB
                rw [HN.out]
              have hT : r = q + 8 := by have := HR.out; omega
              obtain ⟨k, hk⟩ : ∃ k, r = 64 * k := ⟨r / 64, by have h1 := zpad_eq N; have h2 := HQ.out; have h3 := HZE.out; omega⟩
              have HTT := Lib.hid hk
              have HMM := Lib.hid hms2
              have HML := Lib.hid hml
              have HC0 : Hid (∀ i, i < r → wr.cell? ⟨g, i, none⟩ = some (Extern.Stop.cell (ms[i]?.getD 0))) := Lib.hid fun i hi => by
                have h := HO5.out.cells (g := g) rfl i (Extern.Stop.cell (ms[i]?.getD 0)) (by rw [List.getElem?_map, List.getElem?_eq_getElem (by omega)]; rfl)
                rw [addr_add] at h
                exact h
              have hcap : r ≤ cap ∧ cap ≤ 9223372036854775807 := by
                rcases HO5.out.2 with ⟨h1, _⟩ | ⟨g', cap', cur, h1, _, _, h2, h3, _⟩
                · cases h1
                · injection h1 with _ _ h1; subst h1; exact ⟨h2, by unfold maxLen at h3; omega⟩
              have hgl := own_lt HO5.out g rfl
              have hgw : W.heap.size ≤ g := by
                rcases HO5.out.2 with ⟨h1, _⟩ | ⟨g', cap', cur, h1, h2, _⟩
                · cases h1
                · injection h1 with h1 _ _; injection h1 with h1; injection h1 with h1; omega
              have HJ0 : Hid (J [] wr) := Lib.hid (HJ.out _ _ _ h0 HM5.out.lo)
              rw [hs2]
              clear hs2 hj8 hms2 hT hml
              gi_wp2_with fail
              gi_loopw [3] (fun m wx => ∃ i a q cc o xs, i ≤ k ∧ q = 64 * (k - i) ∧ o = 64 * i ∧ m = .slice a q cc ∧ xs.map (·.bs) = upto (chunk ms) i ∧ J xs wx ∧ BlkS W g r ms wx ∧ (i < k → a = some ⟨g, o, none⟩ ∧ q ≤ cc ∧ cc ≤ 9223372036854775807)) (fun m _ => match m with | .slice _ q _ => q | _ => 0)
              case atStart => exact ⟨0, some ⟨g, 0, none⟩, r, cap, 0, [], Nat.zero_le _, by rw [hk]; rfl, rfl, rfl, rfl, HJ0.out, ⟨hgl, hgw, hge3, HC0.out⟩, fun _ => ⟨rfl, hcap.1, hcap.2⟩⟩
              case round =>
                obtain ⟨i, a, q, cc, o, xs, hi, hq, ho, rfl, hxs, hjx, hbk, hlast⟩ := hrel
                have HBK := Lib.hid hbk
                have HXS := Lib.hid hxs
                have HJX := Lib.hid hjx
                clear hbk hxs hjx
                by_cases hlt : i < k
                · obtain ⟨rfl, hqc, hcm⟩ := hlast hlt
                  have hq64 : 64 ≤ q := by omega
                  have hxe : ElAt ⟨g, o, cc, chunk ms i⟩ wr := HBK.out.el i o cc (chunk ms i) ho (by have := HTT.out; omega) rfl HML.out
                  obtain ⟨fn, tmps, assign, body, hy, hR⟩ := HY.out xs ⟨g, o, cc, chunk ms i⟩ wr HJX.out HBK.out.ge hxe
                  dsimp only [encEl] at hy
                  have hq0 : (0 : Int) < (q : Int) := by omega
                  have HQ6 := Lib.hid hq
                  have HO6 := Lib.hid ho
                  clear hq ho hlast hxe
                  gi_wp2_with fail
                  refine hR.mono ?_
                  rintro e W3 ⟨rfl, hJ3, hk3⟩
                  have HJ3 := Lib.hid hJ3
                  have HB3 := Lib.hid (HBK.out.keep hk3)
                  have HX3 : Hid ((xs ++ [(⟨g, o, cc, chunk ms i⟩ : El)]).map (·.bs) = upto (chunk ms) (i + 1)) := Lib.hid (by rw [List.map_append, HXS.out, upto_succ]; rfl)
                  clear hJ3 hk3 hy hR HJX HBK
                  by_cases hcc : cc = 64
                  · have HCC := Lib.hid hcc
                    have hqe : q = 64 := by omega
                    have hke : i + 1 = k := by have := HQ6.out; omega
                    have HKE := Lib.hid hke
                    subst hcc
                    subst hqe
                    clear hke
                    gi_wp2_with fail
                    go_roundw
                    case rel => exact ⟨i + 1, _, 0, _, 64 * (i + 1), _, by omega, by have := HKE.out; omega, rfl, rfl, HX3.out, HJ3.out, HB3.out, fun h => by have := HKE.out; omega⟩
                    case measure => simp
                  · have hc64 : 64 < cc := by omega
                    gi_wp2_with fail
                    go_roundw
                    case rel => exact ⟨i + 1, _, q - 64, cc - 64, o + 64, _, hlt, by have := HQ6.out; omega, by have := HO6.out; omega, rfl, HX3.out, HJ3.out, HB3.out, fun _ => ⟨rfl, by omega, by omega⟩⟩
                    case measure => simp; omega
                · have hie : i = k := by omega
                  have hq0 : q = 0 := by omega
                  have HIE := Lib.hid hie
                  subst hq0
                  clear hie hlast
                  gi_wp2_with fail
                  go_end0
                  refine ⟨⟨_, rfl⟩, xs, ?_, HJX.out⟩
                  rw [HXS.out, HIE.out, ← HMM.out, HML.out, HTT.out, Nat.mul_div_cancel_left _ (by decide)]
end Go.Proofs.YtoljoigbepdeiaaGreatDoor

/- kalends/digest.hash, kalends/digest.Sum: functions of the bytes alone. -/
namespace Go.Proofs.YtoljoigbepdeiaaGreatDoor
open Go Go.RowKit Go.Shelf
attribute [local go_sem] Oper.semAt_some

section
variable {F : Fence} {n : Nat} {P : Program} {ops : Array Oper} {rest : List Oper} {o : Oper} {a : Act} {w : World} {Q : Exit → Act → World → Prop}
theorem wpListIn_load_nm (hg : o.guard = none) (ty : TypeId) (x : Operand) (ho : o.op = .load ty x) (g : Nat) (hx : a.eval x = .pointer (some ⟨g, 0, none⟩)) (cs : Array Value) (hr : RowU w g cs)
    (d : TypeDesc) (hu : P.underlying ty = some d) (hd : d.isRow = true) (hi : (P.info? ty).map (·.size) = some cs.size) (h : wpListIn F n P ops Q rest (a.put o.dst (.agg cs)) w) : wpListIn F n P ops Q (o :: rest) a w := by
  refine wpListIn_plain hg fun K hK => ?_
  have hc : w.rangeAt g 0 cs.toList := fun j v hv => by rw [Nat.zero_add, hr.2 j]; simpa using hv
  unfold Oper.wpIn
  refine ⟨?_, ?_⟩
  · simp [Oper.about, ho]
  · rw [Oper.semAt_plain F _ _ (by rw [ho]; intro c hc'; cases hc')]
    unfold execOp
    simp only [ho, hx, Instr.loadAt, Instr.sureAddr, Sem.run_bind, Sem.run_pure, Result.andThen_ok, run_loadVar_mid w g 0 ty cs.toList d hc hu hd (by rw [hi]; simp)]
    exact hK _ _ (by simpa using h)
theorem wpListIn_store_nm (hg : o.guard = none) (ty : TypeId) (x y : Operand) (ho : o.op = .store ty x y) (g : Nat) (cells : Array Value) (hx : a.eval x = .pointer (some ⟨g, 0, none⟩)) (hy : a.eval y = .agg cells)
    (t : TypeId) (old : Array Value) (hb : w.heap[g]? = some (.cells old t (0, 0))) (hi : (P.info? ty).map (·.size) = some cells.size) (hold : old.size = cells.size) (h1 : cells.all (·.oneCell') = true)
    (h : wpListIn F n P ops Q rest (a.put o.dst undef) (w.setRow g cells)) : wpListIn F n P ops Q (o :: rest) a w := by
  refine wpListIn_plain hg fun K hK => ?_
  unfold Oper.wpIn
  refine ⟨?_, ?_⟩
  · simp [Oper.about, ho]
  · rw [Oper.semAt_plain F _ _ (by rw [ho]; intro c hc'; cases hc')]
    unfold execOp
    simp only [ho, hx, hy, Instr.storeAt, Instr.sureAddr, Sem.run_bind, Sem.run_pure, Result.andThen_ok, run_storeVar_row w g t ty old cells hb hi hold h1]
    exact hK _ _ h
theorem wpListIn_alloc_nm (hg : o.guard = none) (t : TypeId) (ho : o.op = .alloc t) (cells : Array Value) (hz : (P.info? t).map (fun i => (i.zero, i.size)) = some (some (.agg cells), cells.size))
    (h : wpListIn F n P ops Q rest (a.put o.dst (.pointer (some ⟨w.heap.size, 0, none⟩))) (w.alloc (.cells cells t))) : wpListIn F n P ops Q (o :: rest) a w := by
  refine wpListIn_plain hg fun K hK => ?_
  unfold Oper.wpIn
  refine ⟨?_, ?_⟩
  · simp [Oper.about, ho]
  · rw [Oper.semAt_plain F _ _ (by rw [ho]; intro c hc'; cases hc')]
    unfold execOp
    simp only [ho, Sem.run_bind, run_alloc_var w t (.agg cells) _ hz, Result.andThen_ok]
    exact hK _ _ h
end
/-- The digest's variable, as it lies. -/
def cellsB (bs : List UInt8) : Array Value := (refCells bs).toArray
theorem cellsB_size (bs : List UInt8) : (cellsB bs).size = bs.length := by simp [cellsB, refCells]
theorem cellsB_one (bs : List UInt8) : (cellsB bs).all (·.oneCell') = true := by
  rw [Array.all_eq_true_iff_forall_mem]
  intro v hv
  exact ref_one2 bs v (by simpa [cellsB] using hv)
theorem cellsB_set (bs : List UInt8) (i : Nat) (x : UInt8) : (cellsB bs).setIfInBounds i (Extern.Stop.cell x) = cellsB (bs.set i x) := by
  simp [cellsB, refCells, List.map_set]
theorem cellsB_get (bs : List UInt8) (i : Nat) (h : i < bs.length) : (cellsB bs)[i]? = some (Extern.Stop.cell (bs[i]?.getD 0)) := by
  simp [cellsB, refCells, h]
def z32 : List UInt8 := List.replicate 32 0
theorem zero32_info : (Tryz.prog.info? 23).map (fun i => (i.zero, i.size)) = some (some (.agg (cellsB z32)), (cellsB z32).size) := by kernel_rfl
/-- The state at the start. -/
def shaIV : List Int := [1779033703, 3144134277, 1013904242, 2773480762, 1359893119, 2600822924, 528734635, 1541459225]
def foldS (KR st : List Int) (l : List (List UInt8)) : List Int := l.foldl (addF KR) st
theorem addF_length (KR st : List Int) (xs : List UInt8) (h : st.length = 8) : (addF KR st xs).length = 8 := by unfold addF; rw [sumT_length]; exact h
theorem foldS_length (KR : List Int) (l : List (List UInt8)) : ∀ st : List Int, st.length = 8 → (foldS KR st l).length = 8 := by
  induction l with
  | nil => exact fun _ h => h
  | cons x l ih => exact fun st h => ih _ (addF_length KR st x h)
theorem foldS_snoc (KR st : List Int) (l : List (List UInt8)) (x : List UInt8) : foldS KR st (l ++ [x]) = addF KR (foldS KR st l) x := by simp [foldS]
/-- The digest of a state. -/
def outTo (st : List Int) : Nat → List UInt8
  | 0 => z32
  | i + 1 => (outTo st i).set i (byteOf ((st[i / 4]?.getD 0) / 2 ^ (24 - 8 * (i % 4))))
theorem outTo_length (st : List Int) (i : Nat) : (outTo st i).length = 32 := by
  induction i with
  | zero => simp [outTo, z32]
  | succ i ih => simp [outTo, ih]
def digF (KR : List Int) (bs : List UInt8) : List UInt8 := outTo (foldS KR shaIV (upto (chunk (padB bs)) ((padB bs).length / 64))) 32
theorem digF_length (KR : List Int) (bs : List UInt8) : (digF KR bs).length = 32 := outTo_length _ _
theorem blocks_any (a : Option Addr) (n c : Nat) (w : World) : CallsIn Fence.wide 2 Tryz.prog 65 #[.slice a n c] w fun e w' => e = .returned (.func (.func 96) #[] #[.pointer (some ⟨w.heap.size, 0, none⟩)]) ∧ w' = w.alloc (.cells #[.slice a n c] 144) := by
  refine callsIn_of_wp Tryz.func65 rfl trivial ?_ rfl
  simp only [Tryz.ntmps65, List.size_toArray, List.length_cons, List.length_nil, Nat.reduceAdd, Nat.reduceSub, Array.replicate_succ, Array.replicate_zero, List.push_toArray, List.append_toArray, List.nil_append, List.cons_append]
  gi_wp2
  go_ret
  exact ⟨rfl, rfl⟩
end Go.Proofs.YtoljoigbepdeiaaGreatDoor
