/- table.current: the index of the version in force. -/
import Derived.Test.YtbdkalpljhpnmaaGreatPe
import Derived.Test.YtbdkalpljhpnmaaGreatQb
import Derived.BigQuiet
import Derived.Deep.AppendLies
import Derived.Deep.CutBlock
import Derived.Deep.DeepCutAuto
import Derived.Deep.DrawnRows
import Derived.Deep.MidRow
import Derived.Deep.QuietTactic
import Derived.Deep.RegionHeld3
import Derived.Deep.RegionLaw
import Derived.Deep.WholeRow
import Derived.Great.BuildSlice
import Derived.Laws.BytesString
import Derived.Laws.CopyOwn
import Derived.Laws.EntriesVeiled
import Derived.Laws.MakeOwn
import Derived.Laws.ResultCell
import Derived.Laws.Rows
import Derived.Laws.Tables
import Derived.Lib.Hide
import Derived.LoopIn
import Derived.LoopNIn
import Derived.Maps.AppendAt
import Derived.Outline
import Derived.OwnWalkIn
import Derived.RangeFuncBound
import Derived.RangeFuncBox
import Derived.RangeFuncCalls
import Derived.RangeFuncLeaves
import Derived.RangeFuncNested
import Derived.Shelf.Abstract
import Derived.Shelf.Bytes.SlSmallAll
import Derived.Shelf.RegionOpen
import Derived.StillTailTactics
import Derived.Stop.BytesEq
import Derived.TacticsInMore
import Derived.WalkKit
import Derived.WalkLawsBesides
import Derived.WalkSpells
namespace Go.Proofs.YtbdkalpljhpnmaaGreat
open Go Go.RowKit Go.Shelf
attribute [local go_sem] Oper.semAt_some

section
variable {F : Fence} {n : Nat} {P : Program} {ops : Array Oper} {Q : Exit → Act → World → Prop} {a : Act} {w : World} {rest : List Oper} {o : Oper}
/-- A store of a whole struct into the newest variable, in a fenced walk. -/
theorem inList_store_new {ob : Obj} (hg : o.guard = none) (ty : TypeId) (x y : Operand) (ho : o.op = .store ty x y) (cells : Array Value) (hx : a.eval x = .pointer (some ⟨w.heap.size, 0, none⟩)) (hy : a.eval y = .agg cells)
    (t : TypeId) (old : Array Value) (hob : ob = .cells old t (0, 0)) (hi : (P.info? ty).map (·.size) = some cells.size) (hold : old.size = cells.size) (h1 : cells.all (·.oneCell') = true)
    (h : ∀ W, Below w.heap.size w W → W.heap.size = w.heap.size + 1 → W.heap[w.heap.size]? = some (.cells cells t (0, 0)) → Row W w.heap.size cells → KeepsOthers w W → wpListIn F n P ops Q rest (a.put o.dst undef) W) : wpListIn F n P ops Q (o :: rest) a (w.alloc ob) := by
  subst hob
  have hh : ((w.alloc (.cells old t)).setRow w.heap.size cells).heap[w.heap.size]? = some (.cells cells t (0, 0)) := setRow_heap _ _ _ _ _ _ (heap_alloc_last w _)
  refine inList_store_row hg ty x y ho w.heap.size cells hx hy t old (heap_alloc_last w _) hi hold h1 (h _ (below_setRow (below_var w _) (Nat.le_refl _) _) (by simp [World.setRow]) hh (Row.of_blk hh) ⟨by simp [World.setRow], fun k ob hk hc => ?_⟩)
  have hkl := (Array.getElem?_eq_some_iff.1 hk).1
  rw [setRow_other _ _ k _ (by omega), Below.heap_alloc _ _ _ hkl]
  exact hk
end
def tbOK (x : Tb) (i : Nat) : Bool := decide (x.version = (i : Int) + 1) && (decide (0 ≤ x.withdraws) && decide (x.withdraws ≤ (i : Int)))
/-- The versions are numbered as they should be. -/
def chOK (ts : List TbV) : Bool := (List.range ts.length).all fun i => match ts[i]? with | some x => tbOK x.t i | none => true
/-- One version, from the last to the first: the index in force so far, and what is withdrawn. -/
def curStep (st : Int × List Bool) (x : Nat × TbV) : Int × List Bool :=
  if st.2[x.1 + 1]?.getD false = true then st
  else (if st.1 < 0 ∧ (x.2.t.withdraws = 0 ∨ 0 < x.2.zs.length) then (x.1 : Int) else st.1, if 0 < x.2.t.withdraws then st.2.set x.2.t.withdraws.toNat true else st.2)
def curFold (ts : List TbV) (pre : List (El ts)) : Int × List Bool := pre.foldl (fun st x => curStep st x.1) (-1, List.replicate (ts.length + 1) false)
def curF (ts : List TbV) : Int × Bool := if chOK ts = true then ((curFold ts (bkL ts ts.length)).1, true) else (0, false)
theorem curFold_snoc (ts : List TbV) (pre : List (El ts)) (x : El ts) : curFold ts (pre ++ [x]) = curStep (curFold ts pre) x.1 := by simp [curFold]
theorem curFold_len (ts : List TbV) (pre : List (El ts)) : (curFold ts pre).2.length = ts.length + 1 := by
  unfold curFold
  have : ∀ (l : List (El ts)) (st : Int × List Bool), (l.foldl (fun st x => curStep st x.1) st).2.length = st.2.length := by
    intro l
    induction l with
    | nil => intro st; rfl
    | cons x l ih =>
      intro st
      rw [List.foldl_cons, ih]
      unfold curStep
      split
      · rfl
      · dsimp only
        split
        · simp
        · rfl
  rw [this]
  simp
theorem curStep_gone (p : Int) (gl : List Bool) (x : Nat × TbV) (r : Nat) (hr : x.1 + 1 = r) (hb : gl[r]? = some true) : curStep (p, gl) x = (p, gl) := by
  unfold curStep
  dsimp only
  rw [hr, hb]
  rfl
theorem curStep_go (p : Int) (gl : List Bool) (x : Nat × TbV) (r m z : Nat) (hr : x.1 + 1 = r) (hb : gl[r]? = some false) (hm : x.2.t.withdraws = (m : Int)) (hz : x.2.zs.length = z) :
    curStep (p, gl) x = (if p < 0 ∧ (m = 0 ∨ 0 < z) then (x.1 : Int) else p, if 0 < m then gl.set m true else gl) := by
  unfold curStep
  dsimp only
  rw [hr, hb, hm, hz, Int.toNat_natCast]
  simp only [Option.getD_some, Int.natCast_eq_zero, Int.natCast_pos]
  rfl
theorem chOK_at {ts : List TbV} (h : chOK ts = true) (i : Nat) (x : TbV) (hx : ts[i]? = some x) : tbOK x.t i = true := by
  unfold chOK at h
  rw [List.all_eq_true] at h
  have h1 := h i (List.mem_range.2 (List.getElem?_eq_some_iff.1 hx).1)
  rwa [hx] at h1
theorem chOK_no {ts : List TbV} (i : Nat) (x : TbV) (hx : ts[i]? = some x) (h : tbOK x.t i = false) : chOK ts = false := by
  cases hc : chOK ts with
  | false => rfl
  | true => rw [chOK_at hc i x hx] at h; cases h
theorem chOK_yes {ts : List TbV} (h : ∀ j x, ts[j]? = some x → tbOK x.t j = true) : chOK ts = true := by
  unfold chOK
  rw [List.all_eq_true]
  intro i hi
  have hl := List.mem_range.1 hi
  rw [List.getElem?_eq_getElem hl]
  exact h i _ (List.getElem?_eq_getElem hl)
theorem make_bools (n : Nat) (hn : n ≤ 100000) (W : World) : (Instr.makeSlice 97 (.int .i64 (n : Int)) (.int .i64 (n : Int))).run Tryz.prog W = .ok (.slice (some ⟨W.heap.size, 0, none⟩) n n) (W.alloc (.cells (Array.replicate n (.bool false)) 4)) := by
  have hib : (Tryz.prog.info? 4).map (fun i => (i.zero, i.size, i.bytes)) = some (some (.bool false), 1, 1) := by kernel_rfl
  obtain ⟨i0, hi, hz0, hz1, hz2⟩ := info_parts hib
  rw [run_makeSlice (P := Tryz.prog) (w := W) 97 4 i0 (.bool false) Tryz.underlying97 hi hz0 .i64 .i64 n n (by omega) (by omega) (by rw [hz1]; omega) (by rw [hz2]; omega) (by omega), hz1]
  have e : madeCells (Value.bool false).cells (((n : Int).toNat) * 1) = Array.replicate n (.bool false) := by
    apply Array.ext'
    simp [madeCells, Value.cells, Nat.mod_one]
    apply List.ext_getElem
    · simp
    · intro j h1 h2; simp
  rw [e]
  simp
/-- The walk's own memory: the index, what is withdrawn, and the variable that holds it. -/
structure CI (w : World) (N n : Nat) (p : Int) (gl : List Bool) (W : World) : Prop where
  best : Boxed W N 3 (I p)
  gone : Boxed W (N + 2) 97 (.slice (some ⟨N + 1, 0, none⟩) (n + 1) (n + 1))
  row : W.heap[N + 1]? = some (.cells (gl.map Value.bool).toArray 4 (0, 0))
  up : Below w.heap.size w W
  sz : N + 3 < W.heap.size
section
variable {w W W' : World} {N n : Nat} {p : Int} {gl : List Bool}
theorem CI.grow (h : CI w N n p gl W) (hb : Below W.heap.size W W') : CI w N n p gl W' := by
  have hs := h.sz
  exact ⟨(hb.block _ (by omega)).trans h.best, (hb.block _ (by omega)).trans h.gone, (hb.block _ (by omega)).trans h.row, below_trans h.up hb, Nat.lt_of_lt_of_le h.sz hb.size⟩
theorem CI.setBest (h : CI w N n p gl W) (hN : w.heap.size ≤ N) (v : Int) : CI w N n v gl (W.setCell ⟨N, 0, none⟩ (I v)) :=
  ⟨h.best.set _, h.gone.other (by omega) _, (heap_setCell_other W _ _ _ (by show N + 1 ≠ N; omega)).trans h.row, h.up.setCell (p := ⟨N, 0, none⟩) hN _, by simpa [World.setCell] using h.sz⟩
theorem CI.setGone (h : CI w N n p gl W) (hN : w.heap.size ≤ N) (m : Nat) : CI w N n p (gl.set m true) (W.setCell ⟨N + 1, m, none⟩ (.bool true)) := by
  refine ⟨(heap_setCell_other W _ _ _ (by show N ≠ N + 1; omega)).trans h.best, (heap_setCell_other W _ _ _ (by show N + 2 ≠ N + 1; omega)).trans h.gone, ?_, h.up.setCell (p := ⟨N + 1, m, none⟩) (by show w.heap.size ≤ N + 1; omega) _, by simpa [World.setCell] using h.sz⟩
  rw [heap_setCell_same W _ m _ _ _ h.row]
  simp [List.map_set]
theorem ci_bk (hN : w.heap.size ≤ N) {o j : Nat} (hj : j ≤ 2) (v : Value) : BK w.heap.size (N + 3) W (W.setCell ⟨N + j, o, none⟩ v) :=
  ⟨(Below.refl _ W).setCell (p := ⟨N + j, o, none⟩) (by show w.heap.size ≤ N + j; omega) _, World.cell?_setCell_other _ _ _ _ (by intro e; have := congrArg Addr.block e; simp only at this; omega)⟩
end
theorem ci_own {β : Type} {w : World} {N n B : Nat} (hB : w.heap.size ≤ B) (f : β → Int × List Bool) : OwnFrom B (fun s W => CI w N n (f s).1 (f s).2 W) := fun s X Y row hs hg hr => by
  have key : ∀ k cs t, X.heap[k]? = some (Obj.cells cs t (0, 0)) → Y.heap[k]? = X.heap[k]? := fun k cs t hk =>
    hg.block k (Array.getElem?_eq_some_iff.1 hk).1 fun e => by
      obtain ⟨_, o, ho, hc⟩ := hr k e.symm
      rw [hk] at ho; cases ho; cases hc
  exact ⟨(key _ _ _ hs.best).trans hs.best, (key _ _ _ hs.gone).trans hs.gone, (key _ _ _ hs.row).trans hs.row, hs.up.grown hg hs.up.size (fun k e => Nat.le_trans hB (hr k e).1), Nat.lt_of_lt_of_le hs.sz hg.size⟩
theorem blk_own {β : Type} {B : Nat} (b : Nat) (t : TypeId) (cs : Array Value) : OwnFrom B (fun (_ : β) W => W.heap[b]? = some (.cells cs t (0, 0))) := fun s X Y row hs hg hr => by
  refine (hg.block b (Array.getElem?_eq_some_iff.1 hs).1 fun e => ?_).trans hs
  obtain ⟨_, o, ho, hc⟩ := hr b e.symm
  rw [hs] at ho; cases ho; cases hc
def CurPost (w : World) (ts : List TbV) (e : Ending) (w' : World) : Prop := ∃ p b, e = .returned (.tuple #[I p, .bool b]) ∧ curF ts = (p, b) ∧ Below w.heap.size w w'
theorem tabs_of {w : World} {B : Nat} {A : Option Addr} {ts : List TbV} (h : ChAt w B A ts) : ts.length = 0 ∨ ∃ b off, A = some ⟨b, off, none⟩ ∧ b < B ∧ TabsAt w b off ts := by
  have hl := flat_len (s := 68) TbV.cells ts fun x hx => (h.each x hx).size
  rcases h.row with h0 | ⟨b, off, h1, h2, h3⟩
  · exact .inl (by omega)
  · exact .inr ⟨b, off, h1, h2, fun j x hx => ⟨CellsAt.elem (fun x hx => (h.each x hx).size) h3 j x hx, (h.each x (List.mem_of_getElem? hx)).size⟩⟩
theorem tbc_get (x : TbV) : x.cells.toArray = tbVal x.t (.slice x.A x.zs.length x.c) := rfl
def Cur1 (w : World) (ts : List TbV) (n : Nat) (i : Value) (wr : World) : Prop := ∃ k : Nat, k ≤ n ∧ i = .int .i64 k ∧ (∀ j x, j < k → ts[j]? = some x → tbOK x.t j = true) ∧ Below w.heap.size w wr
set_option maxRecDepth 100000 in
set_option maxHeartbeats 4000000 in
theorem current_any (A : Option Addr) (c n : Nat) (ts : List TbV) (w : World) (hn : ts.length = n) (hn1 : n ≤ 1000) (h : ChAt w w.heap.size A ts) :
    Calls Tryz.prog 20 #[.slice A n c] w (CurPost w ts) := by
  refine (callsIn_wide (n := 3)).1 ?_
  have hro : Fence.wide.round = none := rfl
  have h1 : 1 ≤ 3 := by omega
  have HN := Lib.hid hn
  have HT := Lib.hid (tabs_of h)
  have H1 : Hid (∀ x ∈ ts, x.cells.length = 68) := Lib.hid fun x hx => (h.each x hx).size
  clear h hn
  refine callsIn_of_wp_marks Tryz.func20 rfl trivial ?_ hro
  simp only [Tryz.ntmps20, List.size_toArray, List.length_cons, List.length_nil, Nat.reduceAdd, Nat.reduceSub, Array.replicate_succ, Array.replicate_zero, List.push_toArray, List.append_toArray, List.nil_append, List.cons_append]
  gi_wp2
  gi_loopw [12] (fun i wr => Cur1 w ts n i wr) (fun i _ => n - (intOf i).toNat)
  case atStart => exact ⟨0, Nat.zero_le _, rfl, fun j x hj => absurd hj (Nat.not_lt_zero _), Below.refl _ _⟩
  case round =>
    obtain ⟨k, hk, rfl, hall, hb⟩ := hrel
    have HALL := Lib.hid hall
    have HB := Lib.hid hb
    clear hall hb
    by_cases hlt : k < n
    · have hkl : k < ts.length := by rw [HN.out]; exact hlt
      obtain ⟨x, hx⟩ : ∃ x, ts[k]? = some x := ⟨_, List.getElem?_eq_getElem hkl⟩
      have h68 := H1.out x (List.mem_of_getElem? hx)
      obtain ⟨b, off, rfl, hbw, htab⟩ : ∃ b off, A = some ⟨b, off, none⟩ ∧ b < w.heap.size ∧ TabsAt w b off ts := by
        rcases HT.out with h0 | h0
        · omega
        · exact h0
      have HX := Lib.hid hx
      have HCX : Hid (wr.rangeAt b (off + k * 68) x.cells) := Lib.hid (rangeAt_keep (htab k x hx).1 HB.out hbw)
      have HSZ : Hid ((Tryz.prog.info? 47).map (·.size) = some x.cells.length) := Lib.hid (by rw [h68]; kernel_rfl)
      have HSZ2 : Hid ((Tryz.prog.info? 47).map (·.size) = some x.cells.toArray.size) := Lib.hid (by rw [List.size_toArray, h68]; kernel_rfl)
      have HZS : Hid (Tryz.zeroCells47.size = x.cells.toArray.size) := Lib.hid ((show Tryz.zeroCells47.size = 68 by kernel_rfl).trans (by rw [List.size_toArray, h68]))
      have i0 : (0 : Int) ≤ (k : Int) := by omega
      have i1 : (k : Int) < (n : Int) := by omega
      have hw : IntKind.i64.wrap ((k : Int) + 1) = (k : Int) + 1 := by rw [IntKind.wrap_i64]; omega
      clear hkl hx h68 htab
      gi_wp2_with (first
        | ((with_reducible refine gi_load 47 ?_); refine inList_load_mid rfl _ _ rfl b (off + k * 68) rfl x.cells _ HCX.out Tryz.underlying47 rfl HSZ.out ?_)
        | ((with_reducible refine gi_store 47 ?_); refine inList_store_new rfl _ _ _ rfl x.cells.toArray rfl rfl 47 Tryz.zeroCells47 rfl HSZ2.out HZS.out (tbVal_one _ _ _ _) ?_; intro W5 hb5 hs5 hf5 hr5 hk5; have c1 : W5.cell? ⟨wr.heap.size, 1, none⟩ = some (I x.t.version) := hr5.2 1; have c2 : W5.cell? ⟨wr.heap.size, 2, none⟩ = some (I x.t.withdraws) := hr5.2 2; have HB5 := Lib.hid (below_trans HB.out hb5); clear hb5 hs5 hf5 hr5 hk5))
      all_goals first
        | (refine ⟨⟨k + 1, by omega, by go_num, fun j y hj hy => ?_, HB5.out⟩, by simp [intOf]; omega⟩
           by_cases hjk : j < k
           · exact HALL.out j y hjk hy
           · have e : j = k := by omega
             subst e
             have e2 : x = y := by have h1 := HX.out; rw [hy] at h1; injection h1 with h1; exact h1.symm
             subst e2
             unfold tbOK
             rw [decide_eq_true (by omega), decide_eq_true (by omega), decide_eq_true (by omega)]
             rfl)
        | (have hno : tbOK x.t k = false := by
             cases hq : tbOK x.t k with
             | false => rfl
             | true => exfalso; unfold tbOK at hq; simp only [Bool.and_eq_true, decide_eq_true_eq] at hq; omega
           have HNO := Lib.hid hno
           clear hno
           refine ⟨_, results_tmp2 rfl _ _ _, ?_⟩
           exact ⟨0, false, rfl, by unfold curF; rw [chOK_no k x HX.out HNO.out]; rfl, HB5.out⟩)
    · have hke : k = n := by omega
      have HCH : Hid (chOK ts = true) := Lib.hid (chOK_yes fun j x hx => HALL.out j x (by have h1 := (List.getElem?_eq_some_iff.1 hx).1; have := HN.out; omega) hx)
      have HLE : Hid (Below w.heap.size w wr) := HB
      have hmk : ∀ W, (Instr.makeSlice 97 (.int .i64 ((n : Int) + 1)) (.int .i64 ((n : Int) + 1))).run Tryz.prog W = .ok (.slice (some ⟨W.heap.size, 0, none⟩) (n + 1) (n + 1)) (W.alloc (.cells (Array.replicate (n + 1) (.bool false)) 4)) := fun W => make_bools (n + 1) (by omega) W
      have hnl : ¬ (k : Int) < (n : Int) := by omega
      clear hke
      gi_wp2_with (refine ⟨trivial, ?_⟩; gi_at_call 35; refine (backT_in Fence.wide 2 trivial hro _ _ _ _).mono ?_; rintro e w' ⟨rfl, rfl⟩)
      have hsz0 : (((wr.alloc (.cells #[I (-1)] 3)).alloc (.cells (Array.replicate (n + 1) (.bool false)) 4)).alloc (.cells #[.slice (some ⟨wr.heap.size + 1, 0, none⟩) (n + 1) (n + 1)] 97)).heap.size = wr.heap.size + 3 := by simp
      obtain ⟨Wx, hWx⟩ : ∃ Wx, ((wr.alloc (.cells #[I (-1)] 3)).alloc (.cells (Array.replicate (n + 1) (.bool false)) 4)).alloc (.cells #[.slice (some ⟨wr.heap.size + 1, 0, none⟩) (n + 1) (n + 1)] 97) = Wx := ⟨_, rfl⟩
      have hbx : Below wr.heap.size wr Wx := by rw [← hWx]; exact (((Below.refl _ wr).alloc (Nat.le_refl _) _).alloc (by simp) _).alloc (by simp; omega) _
      have hB0 : Wx.heap[wr.heap.size]? = some (.cells #[I (-1)] 3 (0, 0)) := by rw [← hWx]; exact (Below.heap_alloc _ _ _ (by simp; omega)).trans ((Below.heap_alloc _ _ _ (by simp)).trans (heap_alloc_last wr _))
      have hB1 : Wx.heap[wr.heap.size + 1]? = some (.cells (Array.replicate (n + 1) (.bool false)) 4 (0, 0)) := by rw [← hWx]; have h2 := heap_alloc_last (wr.alloc (.cells #[I (-1)] 3)) (.cells (Array.replicate (n + 1) (.bool false)) 4); rw [World.size_alloc] at h2; exact (Below.heap_alloc _ _ _ (by simp)).trans h2
      have hB2 : Wx.heap[wr.heap.size + 2]? = some (.cells #[.slice (some ⟨wr.heap.size + 1, 0, none⟩) (n + 1) (n + 1)] 97 (0, 0)) := by rw [← hWx]; have h2 := heap_alloc_last ((wr.alloc (.cells #[I (-1)] 3)).alloc (.cells (Array.replicate (n + 1) (.bool false)) 4)) (.cells #[.slice (some ⟨wr.heap.size + 1, 0, none⟩) (n + 1) (n + 1)] 97); rw [World.size_alloc, World.size_alloc] at h2; exact h2
      rw [hWx] at hsz0 ⊢
      have bS := Boxed.new Wx 26 (.slice A n c)
      have hb4 := below_var Wx (.cells #[.slice A n c] 26)
      obtain ⟨W0, hW0⟩ : ∃ W0, Wx.alloc (.cells #[.slice A n c] 26) = W0 := ⟨_, rfl⟩
      have hsz4 : W0.heap.size = wr.heap.size + 4 := by rw [← hW0, World.size_alloc, hsz0]
      rw [hW0] at bS hb4 ⊢
      rw [hsz0] at bS hb4
      have hNw : w.heap.size ≤ wr.heap.size := HB.out.size
      have hCI : CI w wr.heap.size n (-1) (List.replicate (n + 1) false) W0 := ⟨(hb4.block _ (by omega)).trans hB0, (hb4.block _ (by omega)).trans hB2, by rw [hb4.block _ (by omega), hB1]; simp, (HB.out.trans (hbx.mono hNw)).trans (hb4.mono (by omega)), by omega⟩
      have htabs : ts.length = 0 ∨ ∃ b off, A = some ⟨b, off, none⟩ ∧ b < w.heap.size ∧ TabsAt W0 b off ts := HT.out.imp id fun ⟨b, off, h1, h2, h3⟩ => ⟨b, off, h1, h2, fun j x hx => ⟨rangeAt_keep (h3 j x hx).1 hCI.up h2, (h3 j x hx).2⟩⟩
      have hst := backT_stops Fence.wide (3 - 1) trivial hro (by omega) (wr.heap.size + 3) w.heap.size A c ts (by have := HN.out; omega) W0 (by omega) (by omega) (by rw [HN.out]; exact bS.cell) htabs
      rw [HN.out] at hst
      clear hWx hbx hB0 hB1 hB2 bS hb4 hW0 hsz0 htabs hmk
      refine wpIn_rangeFunc_ownH hro h1 (gf := 53) (lb := #[.pointer (some ⟨wr.heap.size + 3, 0, none⟩)]) rfl trivial (enters_of Tryz.func53 (by kernel_rfl) rfl)
        hst (fun h k => h.trans k) (bk_b (by omega) (by omega)) (Below.refl _ _) (fun _ => rfl)
        (fun pre W => CI w wr.heap.size n (curFold ts pre).1 (curFold ts pre).2 W)
        (fun _ _ _ => False)
        (ci_own (by omega) _)
        (fun _ _ _ _ _ hs _ _ => hs)
        (by unfold curFold; rw [HN.out]; exact hCI)
        (fun x a' W => ∃ B, wr.heap.size + 3 < B ∧ W.heap[B]? = some (.cells x.1.2.cells.toArray 47 (0, 0)) ∧ a' = ({ tmps := #[.slice A n c, undef, u2, u3, u4, u5, .pointer (some ⟨wr.heap.size, 0, none⟩), .pointer (some ⟨wr.heap.size + 1 + 1, 0, none⟩), I x.1.1, .pointer (some ⟨B, 0, none⟩), .slice A n c, I n, I k, .bool false, u14, u15, u16, u17, u18, u19, u20, u21, u22, u23, u24, u25, u26, u27, u28, u29, u30, u31, u32, u33, .slice A n c, I n, I (n + 1), .slice (some ⟨wr.heap.size + 1, 0, none⟩) (n + 1) (n + 1), .slice A n c, .func (.func 53) #[] #[.pointer (some ⟨wr.heap.size + 1 + 1 + 1, 0, none⟩)], I x.1.1, .agg x.1.2.cells.toArray, undef, undef, undef, undef, undef, undef, undef, undef, undef, undef, undef, undef, undef, undef, undef, undef, undef, undef, undef, undef, undef, undef, undef, undef, undef, undef, undef], defers := [] } : Act))
        (fun x a' _ X Y row hs hg hr => by obtain ⟨B, h1, h2, h3⟩ := hs; exact ⟨B, h1, blk_own B _ _ () X Y row h2 hg hr, h3⟩)
        ?assign ?body ?done ?stop
      case assign =>
        rintro l pre x W K hci hK
        have h68 := H1.out x.1.2 (List.mem_of_getElem? x.2)
        have HSZ2 : Hid ((Tryz.prog.info? 47).map (·.size) = some x.1.2.cells.toArray.size) := Lib.hid (by rw [List.size_toArray, h68]; kernel_rfl)
        have HZS : Hid (Tryz.zeroCells47.size = x.1.2.cells.toArray.size) := Lib.hid ((show Tryz.zeroCells47.size = 68 by kernel_rfl).trans (by rw [List.size_toArray, h68]))
        have HCI := Lib.hid hci
        have hsz := hci.sz
        have hup := hci.up.size
        clear hci h68
        gi_wp2_with ((with_reducible refine gi_store 47 ?_); refine inList_store_new rfl _ _ _ rfl x.1.2.cells.toArray rfl rfl 47 Tryz.zeroCells47 rfl HSZ2.out HZS.out (tbVal_one _ _ _ _) ?_; intro W5 hb5 hs5 hh5 hr5 hk5; have HB5 := Lib.hid hb5; have HH5 := Lib.hid hh5; have HK5 := Lib.hid hk5; clear hb5 hs5 hh5 hr5 hk5)
        exact hK _ _ (HK5.out.from _) ⟨HB5.out.mono hup, HB5.out.cell (p := ⟨wr.heap.size + 3, 0, none⟩) hsz⟩ (HCI.out.grow HB5.out) ⟨W.heap.size, hsz, HH5.out, rfl⟩
      case body =>
        rintro l pre x a' W hl _ hci ⟨B, hB, hblk, rfl⟩ hlt2
        have htb := chOK_at HCH.out x.1.1 x.1.2 x.2
        have hxl : x.1.1 < n := by have h1 := (List.getElem?_eq_some_iff.1 x.2).1; have := HN.out; omega
        unfold tbOK at htb
        simp only [Bool.and_eq_true, decide_eq_true_eq] at htb
        obtain ⟨hv, hw0, hw1⟩ := htb
        obtain ⟨⟨p, gl⟩, hst⟩ : ∃ st, curFold ts pre = st := ⟨_, rfl⟩
        have hgl : gl.length = n + 1 := by have h := curFold_len ts pre; rw [hst, HN.out] at h; exact h
        rw [hst] at hci
        have HSN : Hid (curFold ts (pre ++ [x]) = curStep (p, gl) x.1) := Lib.hid (by rw [curFold_snoc, hst])
        clear hst
        have hc1 : W.cell? ⟨B, 1, none⟩ = some (I x.1.2.t.version) := cell_of_row W B 1 _ _ _ hblk
        have hc2 : W.cell? ⟨B, 2, none⟩ = some (I x.1.2.t.withdraws) := cell_of_row W B 2 _ _ _ hblk
        have hc3 : W.cell? ⟨B, 3, none⟩ = some (.slice x.1.2.A x.1.2.zs.length x.1.2.c) := cell_of_row W B 3 _ _ _ hblk
        obtain ⟨m, hm⟩ : ∃ m : Nat, x.1.2.t.withdraws = (m : Int) := ⟨_, (Int.toNat_of_nonneg hw0).symm⟩
        obtain ⟨r, hr⟩ : ∃ r : Nat, x.1.1 + 1 = r := ⟨_, rfl⟩
        have hvr : x.1.2.t.version = (r : Int) := by omega
        obtain ⟨z, hz⟩ : ∃ z, x.1.2.zs.length = z := ⟨_, rfl⟩
        obtain ⟨b, hb⟩ : ∃ b, gl[r]? = some b := ⟨_, List.getElem?_eq_getElem (by omega)⟩
        obtain ⟨b2, hb2⟩ : ∃ b, gl[m]? = some b := ⟨_, List.getElem?_eq_getElem (by omega)⟩
        rw [hvr] at hc1
        rw [hm] at hc2
        rw [hz] at hc3
        have cB := hci.best.cell
        have cG := hci.gone.cell
        have fB := hci.best.frozen
        have hfz : ∀ i, W.frozen? ⟨wr.heap.size + 1, i, none⟩ = false := fun i => frozen_of_row _ _ i _ _ hci.row
        have hgc : ∀ j b, gl[j]? = some b → W.cell? ⟨wr.heap.size + 1, j, none⟩ = some (.bool b) := fun j b hj => by rw [cell_of_row W _ j _ _ _ hci.row]; simp [hj]
        have g1 := hgc _ _ hb
        have g2 := hgc _ _ hb2
        have HCI := Lib.hid hci
        have r0 : (0 : Int) ≤ (r : Int) := by omega
        have r1 : (r : Int) < (n : Int) + 1 := by omega
        have m0 : (0 : Int) ≤ (m : Int) := by omega
        have m1 : (m : Int) < (n : Int) + 1 := by omega
        have n1 : ¬ B = wr.heap.size + 1 := by omega
        have n2 : ¬ B = wr.heap.size := by omega
        clear hci hgc hv hw0 hw1 hvr hb2 hgl hblk
        cases b with
        | true =>
          have HS := Lib.hid (curStep_gone p gl x.1 r hr hb)
          clear hm hz hr hb
          gi_wp2
          exact ⟨KeepsFrom.refl _ _, BK.refl _ _ _, by show CI w wr.heap.size n (curFold ts (pre ++ [x])).1 (curFold ts (pre ++ [x])).2 _; rw [HSN.out, HS.out]; exact HCI.out⟩
        | false =>
          have HG := Lib.hid (curStep_go p gl x.1 r m z hr hb hm hz)
          clear hm hz hr hb
          by_cases hm0 : 0 < m
          · have HC1 := Lib.hid (HCI.out.setGone hNw m)
            by_cases hp : p < 0
            · by_cases hz0 : 0 < z
              · have HS : Hid (curStep (p, gl) x.1 = ((x.1.1 : Int), gl.set m true)) := Lib.hid (by rw [HG.out, if_pos ⟨hp, .inr hz0⟩, if_pos hm0])
                gi_wp2
                exact ⟨((KeepsOthers.setCell _ _ _).trans (KeepsOthers.setCell _ _ _)).from _, (ci_bk (N := wr.heap.size) (o := m) (j := 1) hNw (by omega) _).trans (ci_bk (N := wr.heap.size) (o := 0) (j := 0) hNw (by omega) _), by show CI w wr.heap.size n (curFold ts (pre ++ [x])).1 (curFold ts (pre ++ [x])).2 _; rw [HSN.out, HS.out]; exact HC1.out.setBest hNw _⟩
              · have hzz : z = 0 := by omega
                have HS : Hid (curStep (p, gl) x.1 = (p, gl.set m true)) := Lib.hid (by rw [HG.out, if_neg (by omega), if_pos hm0])
                gi_wp2
                exact ⟨(KeepsOthers.setCell _ _ _).from _, ci_bk (N := wr.heap.size) (o := m) (j := 1) hNw (by omega) _, by show CI w wr.heap.size n (curFold ts (pre ++ [x])).1 (curFold ts (pre ++ [x])).2 _; rw [HSN.out, HS.out]; exact HC1.out⟩
            · have HS : Hid (curStep (p, gl) x.1 = (p, gl.set m true)) := Lib.hid (by rw [HG.out, if_neg (by omega), if_pos hm0])
              gi_wp2
              all_goals first
                | (exact ⟨(KeepsOthers.setCell _ _ _).from _, ci_bk (N := wr.heap.size) (o := m) (j := 1) hNw (by omega) _, by show CI w wr.heap.size n (curFold ts (pre ++ [x])).1 (curFold ts (pre ++ [x])).2 _; rw [HSN.out, HS.out]; exact HC1.out⟩)
                | (rename_i _ _ h _; exact absurd h (by simp [undef]))
          · have hmz : m = 0 := by omega
            by_cases hp : p < 0
            · have HS : Hid (curStep (p, gl) x.1 = ((x.1.1 : Int), gl)) := Lib.hid (by rw [HG.out, if_pos ⟨hp, .inl hmz⟩, if_neg hm0])
              gi_wp2
              exact ⟨(KeepsOthers.setCell _ _ _).from _, ci_bk (N := wr.heap.size) (o := 0) (j := 0) hNw (by omega) _, by show CI w wr.heap.size n (curFold ts (pre ++ [x])).1 (curFold ts (pre ++ [x])).2 _; rw [HSN.out, HS.out]; exact HCI.out.setBest hNw _⟩
            · have HS : Hid (curStep (p, gl) x.1 = (p, gl)) := Lib.hid (by rw [HG.out, if_neg (by omega), if_neg hm0])
              gi_wp2
              all_goals first
                | (exact ⟨KeepsFrom.refl _ _, BK.refl _ _ _, by show CI w wr.heap.size n (curFold ts (pre ++ [x])).1 (curFold ts (pre ++ [x])).2 _; rw [HSN.out, HS.out]; exact HCI.out⟩)
                | (rename_i _ _ h _; exact absurd h (by simp [undef]))
      case done =>
        rintro D ys W hD rfl hci hK
        have cB := hci.best.cell
        have HCI := Lib.hid hci
        clear hci
        gi_wp2
        refine ⟨by simp, .inl ⟨_, _, rfl, run_takeDeferred hK, ?_⟩⟩
        refine ⟨_, results_tmp2 rfl _ _ _, ?_⟩
        exact ⟨_, true, rfl, by unfold curF; rw [HCH.out, HN.out]; rfl, HCI.out.up.trans (belowK_b (w := W0) (n₀ := w.heap.size) (by omega) W D _ (.deferred none) hD hK rfl rfl)⟩
      case stop =>
        rintro D c pre W _ _ h _
        exact h.elim
end Go.Proofs.YtbdkalpljhpnmaaGreat
