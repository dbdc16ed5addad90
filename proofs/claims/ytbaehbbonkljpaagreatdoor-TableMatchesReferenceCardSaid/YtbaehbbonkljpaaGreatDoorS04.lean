/- The texts Pf, Pc, in this order. -/
import Derived.Test.YtbaehbbonkljpaaGreatDoorS00
import Derived.Test.YtbaehbbonkljpaaGreatDoorS03
set_option maxRecDepth 10000
set_option maxHeartbeats 8000000
namespace Go.Proofs.YtbaehbbonkljpaaGreatDoor
open Go Go.RowKit Go.Shelf
attribute [local go_sem] Oper.semAt_some
section
variable {F : Fence} {n : Nat} {P : Program} {ops : Array Oper} {Q : Exit -> Act -> World -> Prop} {a : Act} {w : World} {rest : List Oper} {o : Oper}
theorem jS {ob : Obj} (hg : o.guard = none) (ty : TypeId) (x y : Operand) (ho : o.op = .store ty x y) (cells : Array Value) (hx : a.eval x = .pointer (some ⟨w.heap.size, 0, none⟩)) (hy : a.eval y = .agg cells)
    (t : TypeId) (old : Array Value) (hob : ob = .cells old t (0, 0)) (hi : (P.info? ty).map (·.size) = some cells.size) (hold : old.size = cells.size) (h1 : cells.all (·.oneCell') = true)
    (h : ∀ W, Below w.heap.size w W -> W.heap.size = w.heap.size + 1 -> W.heap[w.heap.size]? = some (.cells cells t (0, 0)) -> Row W w.heap.size cells -> KeepsOthers w W -> wpListIn F n P ops Q rest (a.put o.dst undef) W) : wpListIn F n P ops Q (o :: rest) a (w.alloc ob) := by
  subst hob
  have hh : ((w.alloc (.cells old t)).setRow w.heap.size cells).heap[w.heap.size]? = some (.cells cells t (0, 0)) := setRow_heap _ _ _ _ _ _ (heap_alloc_last w _)
  refine yH hg ty x y ho w.heap.size cells hx hy t old (heap_alloc_last w _) hi hold h1 (h _ (below_setRow (ag w _) (Nat.le_refl _) _) (by simp [World.setRow]) hh (Row.jH hh) ⟨by simp [World.setRow], fun k ob hk hc => ?_⟩)
  have hkl := (bV.1 hk).1
  rw [setRow_other _ _ k _ (by omega), Below.heap_alloc _ _ _ hkl]
  exact hk
end
def Eg (x : Tb) (i : Nat) : Bool := decide (x.version = (i : Int) + 1) && (decide (0 <= x.aO) && decide (x.aO <= (i : Int)))
def IY (ts : List dF) : Bool := (List.range ts.length).all fun i => match ts[i]? with | some x => Eg x.t i | none => true
def iy (st : Int × List Bool) (x : Nat × dF) : Int × List Bool :=
  if st.2[x.1 + 1]?.getD false = true then st
  else (if st.1 < 0 /\ (x.2.t.aO = 0 \/ 0 < x.2.zs.length) then (x.1 : Int) else st.1, if 0 < x.2.t.aO then st.2.set x.2.t.aO.toNat true else st.2)
def dV (ts : List dF) (pre : List (El ts)) : Int × List Bool := pre.foldl (fun st x => iy st x.1) (-1, List.replicate (ts.length + 1) false)
def wK (ts : List dF) : Int × Bool := if IY ts = true then ((dV ts (LJ ts ts.length)).1, true) else (0, false)
theorem Gg (ts : List dF) (pre : List (El ts)) (x : El ts) : dV ts (pre ++ [x]) = iy (dV ts pre) x.1 := by simp [dV]
theorem I7 (ts : List dF) (pre : List (El ts)) : (dV ts pre).2.length = ts.length + 1 := by
  unfold dV
  have : ∀ (l : List (El ts)) (st : Int × List Bool), (l.foldl (fun st x => iy st x.1) st).2.length = st.2.length := by
    intro l
    induction l with
    | nil => intro st; rfl
    | cons x l ih =>
      intro st
      rw [List.foldl_cons, ih]
      unfold iy
      split
      · rfl
      · dsimp only
        split
        · simp
        · rfl
  rw [this]
  simp
theorem Gh (p : Int) (gl : List Bool) (x : Nat × dF) (r : Nat) (hr : x.1 + 1 = r) (hb : gl[r]? = some true) : iy (p, gl) x = (p, gl) := by
  unfold iy
  dsimp only
  rw [hr, hb]
  rfl
theorem L9 (p : Int) (gl : List Bool) (x : Nat × dF) (r m z : Nat) (hr : x.1 + 1 = r) (hb : gl[r]? = some false) (hm : x.2.t.aO = (m : Int)) (hz : x.2.zs.length = z) :
    iy (p, gl) x = (if p < 0 /\ (m = 0 \/ 0 < z) then (x.1 : Int) else p, if 0 < m then gl.set m true else gl) := by
  unfold iy
  dsimp only
  rw [hr, hb, hm, hz, Int.toNat_natCast]
  simp only [Option.getD_some, Int.natCast_eq_zero, Int.natCast_pos]
  rfl
theorem Oo {ts : List dF} (h : IY ts = true) (i : Nat) (x : dF) (hx : ts[i]? = some x) : Eg x.t i = true := by
  unfold IY at h
  rw [List.all_eq_true] at h
  have h1 := h i (List.mem_range.2 (gQ.1 hx).1)
  rwa [hx] at h1
theorem Xy {ts : List dF} (i : Nat) (x : dF) (hx : ts[i]? = some x) (h : Eg x.t i = false) : IY ts = false := by
  cases hc : IY ts with
  | false => rfl
  | true => rw [Oo hc i x hx] at h; cases h
theorem Tq {ts : List dF} (h : ∀ j x, ts[j]? = some x -> Eg x.t j = true) : IY ts = true := by
  unfold IY
  rw [List.all_eq_true]
  intro i hi
  have hl := List.mem_range.1 hi
  rw [bK hl]
  exact h i _ (bK hl)
theorem MV (n : Nat) (hn : n <= 100000) (W : World) : (Instr.makeSlice 89 (.int .i64 (n : Int)) (.int .i64 (n : Int))).run Tryz.prog W = .ok (.slice (some ⟨W.heap.size, 0, none⟩) n n) (W.alloc (.cells (Array.replicate n (.bool false)) 4)) := by
  have hib : (Tryz.prog.info? 4).map (fun i => (i.zero, i.size, i.bytes)) = some (some (.bool false), 1, 1) := by kernel_rfl
  obtain ⟨i0, hi, hz0, hz1, hz2⟩ := info_parts hib
  rw [run_makeSlice (P := Tryz.prog) (w := W) 89 4 i0 (.bool false) Tryz.underlying89 hi hz0 .i64 .i64 n n (by omega) (by omega) (by rw [hz1]; omega) (by rw [hz2]; omega) (by omega), hz1]
  have e : madeCells (Value.bool false).cells (((n : Int).toNat) * 1) = Array.replicate n (.bool false) := by
    apply Array.ext'
    simp [madeCells, Value.cells, Nat.mod_one]
    apply List.ext_getElem
    · simp
    · intro j h1 h2; simp
  rw [e]
  simp
structure CI (w : World) (N n : Nat) (p : Int) (gl : List Bool) (W : World) : Prop where
  best : Boxed W N 3 (I p)
  gone : Boxed W (N + 2) 89 (.slice (some ⟨N + 1, 0, none⟩) (n + 1) (n + 1))
  row : W.heap[N + 1]? = some (.cells (gl.map Value.bool).toArray 4 (0, 0))
  up : Below w.heap.size w W
  sz : N + 3 < W.heap.size
section
variable {w W W' : World} {N n : Nat} {p : Int} {gl : List Bool}
theorem CI.grow (h : CI w N n p gl W) (hb : Below W.heap.size W W') : CI w N n p gl W' := by
  have hs := h.sz
  exact ⟨(hb.block _ (by omega)).trans h.best, (hb.block _ (by omega)).trans h.gone, (hb.block _ (by omega)).trans h.row, ah h.up hb, dP h.sz hb.size⟩
theorem CI.O6 (h : CI w N n p gl W) (hN : w.heap.size <= N) (v : Int) : CI w N n v gl (W.setCell ⟨N, 0, none⟩ (I v)) :=
  ⟨h.best.set _, h.gone.other (by omega) _, (heap_setCell_other W _ _ _ (by show N + 1 ≠ N; omega)).trans h.row, h.up.setCell (p := ⟨N, 0, none⟩) hN _, by simpa [World.setCell] using h.sz⟩
theorem CI.YE (h : CI w N n p gl W) (hN : w.heap.size <= N) (m : Nat) : CI w N n p (gl.set m true) (W.setCell ⟨N + 1, m, none⟩ (.bool true)) := by
  refine ⟨(heap_setCell_other W _ _ _ (by show N ≠ N + 1; omega)).trans h.best, (heap_setCell_other W _ _ _ (by show N + 2 ≠ N + 1; omega)).trans h.gone, ?_, h.up.setCell (p := ⟨N + 1, m, none⟩) (by show w.heap.size <= N + 1; omega) _, by simpa [World.setCell] using h.sz⟩
  rw [heap_setCell_same W _ m _ _ _ h.row]
  simp [List.map_set]
theorem IZ (hN : w.heap.size <= N) {o j : Nat} (hj : j <= 2) (v : Value) : BK w.heap.size (N + 3) W (W.setCell ⟨N + j, o, none⟩ v) :=
  ⟨(Below.refl _ W).setCell (p := ⟨N + j, o, none⟩) (by show w.heap.size <= N + j; omega) _, World.cell?_setCell_other _ _ _ _ (by intro e; have := congrArg Addr.block e; simp only at this; omega)⟩
end
theorem ci_own {β : Type} {w : World} {N n B : Nat} (hB : w.heap.size <= B) (f : β -> Int × List Bool) : OwnFrom B (fun s W => CI w N n (f s).1 (f s).2 W) := fun s X Y row hs hg hr => by
  have key : ∀ k cs t, X.heap[k]? = some (Obj.cells cs t (0, 0)) -> Y.heap[k]? = X.heap[k]? := fun k cs t hk =>
    hg.block k (bV.1 hk).1 fun e => by
      obtain ⟨_, o, ho, hc⟩ := hr k e.symm
      rw [hk] at ho; cases ho; cases hc
  exact ⟨(key _ _ _ hs.best).trans hs.best, (key _ _ _ hs.gone).trans hs.gone, (key _ _ _ hs.row).trans hs.row, hs.up.grown hg hs.up.size (fun k e => Nat.le_trans hB (hr k e).1), dP hs.sz hg.size⟩
theorem F7 {β : Type} {B : Nat} (b : Nat) (t : TypeId) (cs : Array Value) : OwnFrom B (fun (_ : β) W => W.heap[b]? = some (.cells cs t (0, 0))) := fun s X Y row hs hg hr => by
  refine (hg.block b (bV.1 hs).1 fun e => ?_).trans hs
  obtain ⟨_, o, ho, hc⟩ := hr b e.symm
  rw [hs] at ho; cases ho; cases hc
def WA (w : World) (ts : List dF) (e : Ending) (w' : World) : Prop := ∃ p b, e = .returned (.tuple #[I p, .bool b]) /\ wK ts = (p, b) /\ Below w.heap.size w w'
theorem Am {w : World} {B : Nat} {A : Option Addr} {ts : List dF} (h : jq w B A ts) : ts.length = 0 \/ ∃ b off, A = some ⟨b, off, none⟩ /\ b < B /\ uh w b off ts := by
  have hl := bZ (s := 68) dF.cells ts fun x hx => (h.each x hx).size
  rcases h.row with h0 | ⟨b, off, h1, h2, h3⟩
  · exact .inl (by omega)
  · exact .inr ⟨b, off, h1, h2, fun j x hx => ⟨aA.elem (fun x hx => (h.each x hx).size) h3 j x hx, (h.each x (gZ hx)).size⟩⟩
def Cur1 (w : World) (ts : List dF) (n : Nat) (i : Value) (wr : World) : Prop := ∃ k : Nat, k <= n /\ i = .int .i64 k /\ (∀ j x, j < k -> ts[j]? = some x -> Eg x.t j = true) /\ Below w.heap.size w wr
theorem zh (A : Option Addr) (c n : Nat) (ts : List dF) (w : World) (hn : ts.length = n) (hn1 : n <= 1000) (h : jq w w.heap.size A ts) :
    Calls Tryz.prog 41 #[.slice A n c] w (WA w ts) := by
  refine (callsIn_wide (n := 3)).1 ?_
  have hro : Fence.wide.round = none := rfl
  have h1 : 1 <= 3 := by omega
  have HN := ae hn
  have HT := ae (Am h)
  have H1 : Hid (∀ x ∈ ts, x.cells.length = 68) := ae fun x hx => (h.each x hx).size
  clear h hn
  refine callsIn_of_wp_marks Tryz.func41 rfl trivial ?_ hro
  simp only [Tryz.ntmps41, List.size_toArray, List.length_cons, List.length_nil, Nat.reduceAdd, Nat.reduceSub, Array.replicate_succ, Array.replicate_zero, List.push_toArray, List.append_toArray, List.nil_append, List.cons_append]
  gi_wp2
  gi_loopw [12] (fun i wr => Cur1 w ts n i wr) (fun i _ => n - (intOf i).toNat)
  case atStart => exact ⟨0, Nat.zero_le _, rfl, fun j x hj => absurd hj (Nat.not_lt_zero _), Below.refl _ _⟩
  case round =>
    obtain ⟨k, hk, rfl, hall, hb⟩ := hrel
    have iq := ae hall
    have HB := ae hb
    clear hall hb
    by_cases hlt : k < n
    · have hkl : k < ts.length := by rw [HN.out]; exact hlt
      obtain ⟨x, hx⟩ : ∃ x, ts[k]? = some x := ⟨_, bK hkl⟩
      have h68 := H1.out x (gZ hx)
      obtain ⟨b, off, rfl, hbw, htab⟩ : ∃ b off, A = some ⟨b, off, none⟩ /\ b < w.heap.size /\ uh w b off ts := by
        rcases HT.out with h0 | h0
        · omega
        · exact h0
      have HX := ae hx
      have yf : Hid (wr.rangeAt b (off + k * 68) x.cells) := ae (aS (htab k x hx).1 HB.out hbw)
      have dU : Hid ((Tryz.prog.info? 26).map (·.size) = some x.cells.length) := ae (by rw [h68]; kernel_rfl)
      have qm : Hid ((Tryz.prog.info? 26).map (·.size) = some x.cells.toArray.size) := ae (by rw [List.size_toArray, h68]; kernel_rfl)
      have P5 : Hid (Tryz.zeroCells26.size = x.cells.toArray.size) := ae ((show Tryz.zeroCells26.size = 68 by kernel_rfl).trans (by rw [List.size_toArray, h68]))
      have i0 : (0 : Int) <= (k : Int) := by omega
      have i1 : (k : Int) < (n : Int) := by omega
      have hw : IntKind.i64.wrap ((k : Int) + 1) = (k : Int) + 1 := by rw [IntKind.wrap_i64]; omega
      clear hkl hx h68 htab
      gi_wp2_with (first
        | ((with_reducible refine Gm 26 ?_); refine og rfl _ _ rfl b (off + k * 68) rfl x.cells _ yf.out Tryz.underlying26 rfl dU.out ?_)
        | ((with_reducible refine xq 26 ?_); refine jS rfl _ _ _ rfl x.cells.toArray rfl rfl 26 Tryz.zeroCells26 rfl qm.out P5.out (aT _ _ _ _) ?_; intro W5 hb5 hs5 hf5 xw hk5; have c1 : W5.cell? ⟨wr.heap.size, 1, none⟩ = some (I x.t.version) := xw.2 1; have c2 : W5.cell? ⟨wr.heap.size, 2, none⟩ = some (I x.t.aO) := xw.2 2; have qU := ae (ah HB.out hb5); clear hb5 hs5 hf5 xw hk5))
      all_goals first
        | (refine ⟨⟨k + 1, by omega, by go_num, fun j y hj hy => ?_, qU.out⟩, by simp [intOf]; omega⟩
           by_cases hjk : j < k
           · exact iq.out j y hjk hy
           · have e : j = k := by omega
             subst e
             have e2 : x = y := by have h1 := HX.out; rw [hy] at h1; injection h1 with h1; exact h1.symm
             subst e2
             unfold Eg
             rw [decide_eq_true (by omega), decide_eq_true (by omega), decide_eq_true (by omega)]
             rfl)
        | (have hno : Eg x.t k = false := by
             cases hq : Eg x.t k with
             | false => rfl
             | true => exfalso; unfold Eg at hq; simp only [Bool.and_eq_true, decide_eq_true_eq] at hq; omega
           have FP := ae hno
           clear hno
           refine ⟨_, results_tmp2 rfl _ _ _, ?_⟩
           exact ⟨0, false, rfl, by unfold wK; rw [Xy k x HX.out FP.out]; rfl, qU.out⟩)
    · have hke : k = n := by omega
      have RV : Hid (IY ts = true) := ae (Tq fun j x hx => iq.out j x (by have h1 := (gQ.1 hx).1; have := HN.out; omega) hx)
      have PM : Hid (Below w.heap.size w wr) := HB
      have hmk : ∀ W, (Instr.makeSlice 89 (.int .i64 ((n : Int) + 1)) (.int .i64 ((n : Int) + 1))).run Tryz.prog W = .ok (.slice (some ⟨W.heap.size, 0, none⟩) (n + 1) (n + 1)) (W.alloc (.cells (Array.replicate (n + 1) (.bool false)) 4)) := fun W => MV (n + 1) (by omega) W
      have hnl : ¬ (k : Int) < (n : Int) := by omega
      clear hke
      gi_wp2_with (refine ⟨trivial, ?_⟩; gi_at_call 63; refine (Tc Fence.wide 2 trivial hro _ _ _ _).mono ?_; rintro e w' ⟨rfl, rfl⟩)
      have hsz0 : (((wr.alloc (.cells #[I (-1)] 3)).alloc (.cells (Array.replicate (n + 1) (.bool false)) 4)).alloc (.cells #[.slice (some ⟨wr.heap.size + 1, 0, none⟩) (n + 1) (n + 1)] 89)).heap.size = wr.heap.size + 3 := by simp
      obtain ⟨Wx, TQ⟩ : ∃ Wx, ((wr.alloc (.cells #[I (-1)] 3)).alloc (.cells (Array.replicate (n + 1) (.bool false)) 4)).alloc (.cells #[.slice (some ⟨wr.heap.size + 1, 0, none⟩) (n + 1) (n + 1)] 89) = Wx := ⟨_, rfl⟩
      have hbx : Below wr.heap.size wr Wx := by rw [<- TQ]; exact (((Below.refl _ wr).alloc (Nat.le_refl _) _).alloc (by simp) _).alloc (by simp; omega) _
      have hB0 : Wx.heap[wr.heap.size]? = some (.cells #[I (-1)] 3 (0, 0)) := by rw [<- TQ]; exact (Below.heap_alloc _ _ _ (by simp; omega)).trans ((Below.heap_alloc _ _ _ (by simp)).trans (heap_alloc_last wr _))
      have hB1 : Wx.heap[wr.heap.size + 1]? = some (.cells (Array.replicate (n + 1) (.bool false)) 4 (0, 0)) := by rw [<- TQ]; have h2 := heap_alloc_last (wr.alloc (.cells #[I (-1)] 3)) (.cells (Array.replicate (n + 1) (.bool false)) 4); rw [World.size_alloc] at h2; exact (Below.heap_alloc _ _ _ (by simp)).trans h2
      have hB2 : Wx.heap[wr.heap.size + 2]? = some (.cells #[.slice (some ⟨wr.heap.size + 1, 0, none⟩) (n + 1) (n + 1)] 89 (0, 0)) := by rw [<- TQ]; have h2 := heap_alloc_last ((wr.alloc (.cells #[I (-1)] 3)).alloc (.cells (Array.replicate (n + 1) (.bool false)) 4)) (.cells #[.slice (some ⟨wr.heap.size + 1, 0, none⟩) (n + 1) (n + 1)] 89); rw [World.size_alloc, World.size_alloc] at h2; exact h2
      rw [TQ] at hsz0 ⊢
      have bS := Boxed.new Wx 32 (.slice A n c)
      have hb4 := ag Wx (.cells #[.slice A n c] 32)
      obtain ⟨W0, hW0⟩ : ∃ W0, Wx.alloc (.cells #[.slice A n c] 32) = W0 := ⟨_, rfl⟩
      have hsz4 : W0.heap.size = wr.heap.size + 4 := by rw [<- hW0, World.size_alloc, hsz0]
      rw [hW0] at bS hb4 ⊢
      rw [hsz0] at bS hb4
      have XP : w.heap.size <= wr.heap.size := HB.out.size
      have hCI : CI w wr.heap.size n (-1) (List.replicate (n + 1) false) W0 := ⟨(hb4.block _ (by omega)).trans hB0, (hb4.block _ (by omega)).trans hB2, by rw [hb4.block _ (by omega), hB1]; simp, (HB.out.trans (hbx.mono XP)).trans (hb4.mono (by omega)), by omega⟩
      have aae : ts.length = 0 \/ ∃ b off, A = some ⟨b, off, none⟩ /\ b < w.heap.size /\ uh W0 b off ts := HT.out.imp id fun ⟨b, off, h1, h2, h3⟩ => ⟨b, off, h1, h2, fun j x hx => ⟨aS (h3 j x hx).1 hCI.up h2, (h3 j x hx).2⟩⟩
      have hst := IQ Fence.wide (3 - 1) trivial hro (by omega) (wr.heap.size + 3) w.heap.size A c ts (by have := HN.out; omega) W0 (by omega) (by omega) (by rw [HN.out]; exact bS.cell) aae
      rw [HN.out] at hst
      clear TQ hbx hB0 hB1 hB2 bS hb4 hW0 hsz0 aae hmk
      refine wpIn_rangeFunc_ownH hro h1 (gf := 82) (lb := #[.pointer (some ⟨wr.heap.size + 3, 0, none⟩)]) rfl trivial (enters_of Tryz.func82 (by kernel_rfl) rfl)
        hst (fun h k => h.trans k) (bk_b (by omega) (by omega)) (Below.refl _ _) (fun _ => rfl)
        (fun pre W => CI w wr.heap.size n (dV ts pre).1 (dV ts pre).2 W)
        (fun _ _ _ => False)
        (ci_own (by omega) _)
        (fun _ _ _ _ _ hs _ _ => hs)
        (by unfold dV; rw [HN.out]; exact hCI)
        (fun x a' W => ∃ B, wr.heap.size + 3 < B /\ W.heap[B]? = some (.cells x.1.2.cells.toArray 26 (0, 0)) /\ a' = ({ tmps := #[.slice A n c, undef, u2, u3, u4, u5, .pointer (some ⟨wr.heap.size, 0, none⟩), .pointer (some ⟨wr.heap.size + 1 + 1, 0, none⟩), I x.1.1, .pointer (some ⟨B, 0, none⟩), .slice A n c, I n, I k, .bool false, u14, u15, u16, u17, u18, u19, u20, u21, u22, u23, u24, u25, u26, u27, u28, u29, u30, u31, u32, u33, .slice A n c, I n, I (n + 1), .slice (some ⟨wr.heap.size + 1, 0, none⟩) (n + 1) (n + 1), .slice A n c, .func (.func 82) #[] #[.pointer (some ⟨wr.heap.size + 1 + 1 + 1, 0, none⟩)], I x.1.1, .agg x.1.2.cells.toArray, undef, undef, undef, undef, undef, undef, undef, undef, undef, undef, undef, undef, undef, undef, undef, undef, undef, undef, undef, undef, undef, undef, undef, undef, undef, undef, undef], defers := [] } : Act))
        (fun x a' _ X Y row hs hg hr => by obtain ⟨B, h1, h2, h3⟩ := hs; exact ⟨B, h1, F7 B _ _ () X Y row h2 hg hr, h3⟩)
        ?assign ?body ?done ?stop
      case assign =>
        rintro l pre x W K hci hK
        have h68 := H1.out x.1.2 (gZ x.2)
        have qm : Hid ((Tryz.prog.info? 26).map (·.size) = some x.1.2.cells.toArray.size) := ae (by rw [List.size_toArray, h68]; kernel_rfl)
        have P5 : Hid (Tryz.zeroCells26.size = x.1.2.cells.toArray.size) := ae ((show Tryz.zeroCells26.size = 68 by kernel_rfl).trans (by rw [List.size_toArray, h68]))
        have Ip := ae hci
        have hsz := hci.sz
        have hup := hci.up.size
        clear hci h68
        gi_wp2_with ((with_reducible refine xq 26 ?_); refine jS rfl _ _ _ rfl x.1.2.cells.toArray rfl rfl 26 Tryz.zeroCells26 rfl qm.out P5.out (aT _ _ _ _) ?_; intro W5 hb5 hs5 hh5 xw hk5; have qU := ae hb5; have HH5 := ae hh5; have yX := ae hk5; clear hb5 hs5 hh5 xw hk5)
        exact hK _ _ (yX.out.from _) ⟨qU.out.mono hup, qU.out.cell (p := ⟨wr.heap.size + 3, 0, none⟩) hsz⟩ (Ip.out.grow qU.out) ⟨W.heap.size, hsz, HH5.out, rfl⟩
      case body =>
        rintro l pre x a' W hl _ hci ⟨B, hB, hblk, rfl⟩ hlt2
        have htb := Oo RV.out x.1.1 x.1.2 x.2
        have hxl : x.1.1 < n := by have h1 := (gQ.1 x.2).1; have := HN.out; omega
        unfold Eg at htb
        simp only [Bool.and_eq_true, decide_eq_true_eq] at htb
        obtain ⟨hv, hw0, hw1⟩ := htb
        obtain ⟨⟨p, gl⟩, hst⟩ : ∃ st, dV ts pre = st := ⟨_, rfl⟩
        have hgl : gl.length = n + 1 := by have h := I7 ts pre; rw [hst, HN.out] at h; exact h
        rw [hst] at hci
        have HSN : Hid (dV ts (pre ++ [x]) = iy (p, gl) x.1) := ae (by rw [Gg, hst])
        clear hst
        have hc1 : W.cell? ⟨B, 1, none⟩ = some (I x.1.2.t.version) := cell_of_row W B 1 _ _ _ hblk
        have hc2 : W.cell? ⟨B, 2, none⟩ = some (I x.1.2.t.aO) := cell_of_row W B 2 _ _ _ hblk
        have hc3 : W.cell? ⟨B, 3, none⟩ = some (.slice x.1.2.A x.1.2.zs.length x.1.2.c) := cell_of_row W B 3 _ _ _ hblk
        obtain ⟨m, hm⟩ : ∃ m : Nat, x.1.2.t.aO = (m : Int) := ⟨_, (Int.toNat_of_nonneg hw0).symm⟩
        obtain ⟨r, hr⟩ : ∃ r : Nat, x.1.1 + 1 = r := ⟨_, rfl⟩
        have hvr : x.1.2.t.version = (r : Int) := by omega
        obtain ⟨z, hz⟩ : ∃ z, x.1.2.zs.length = z := ⟨_, rfl⟩
        obtain ⟨b, hb⟩ : ∃ b, gl[r]? = some b := ⟨_, bK (by omega)⟩
        obtain ⟨b2, hb2⟩ : ∃ b, gl[m]? = some b := ⟨_, bK (by omega)⟩
        rw [hvr] at hc1
        rw [hm] at hc2
        rw [hz] at hc3
        have cB := hci.best.cell
        have cG := hci.gone.cell
        have fB := hci.best.frozen
        have hfz : ∀ i, W.frozen? ⟨wr.heap.size + 1, i, none⟩ = false := fun i => frozen_of_row _ _ i _ _ hci.row
        have hgc : ∀ j b, gl[j]? = some b -> W.cell? ⟨wr.heap.size + 1, j, none⟩ = some (.bool b) := fun j b hj => by rw [cell_of_row W _ j _ _ _ hci.row]; simp [hj]
        have g1 := hgc _ _ hb
        have g2 := hgc _ _ hb2
        have Ip := ae hci
        have r0 : (0 : Int) <= (r : Int) := by omega
        have r1 : (r : Int) < (n : Int) + 1 := by omega
        have m0 : (0 : Int) <= (m : Int) := by omega
        have m1 : (m : Int) < (n : Int) + 1 := by omega
        have n1 : ¬ B = wr.heap.size + 1 := by omega
        have n2 : ¬ B = wr.heap.size := by omega
        clear hci hgc hv hw0 hw1 hvr hb2 hgl hblk
        cases b with
        | true =>
          have HS := ae (Gh p gl x.1 r hr hb)
          clear hm hz hr hb
          gi_wp2
          exact ⟨KeepsFrom.refl _ _, BK.refl _ _ _, by show CI w wr.heap.size n (dV ts (pre ++ [x])).1 (dV ts (pre ++ [x])).2 _; rw [HSN.out, HS.out]; exact Ip.out⟩
        | false =>
          have HG := ae (L9 p gl x.1 r m z hr hb hm hz)
          clear hm hz hr hb
          by_cases hm0 : 0 < m
          · have mG := ae (Ip.out.YE XP m)
            by_cases hp : p < 0
            · by_cases hz0 : 0 < z
              · have HS : Hid (iy (p, gl) x.1 = ((x.1.1 : Int), gl.set m true)) := ae (by rw [HG.out, if_pos ⟨hp, .inr hz0⟩, if_pos hm0])
                gi_wp2
                exact ⟨((KeepsOthers.setCell _ _ _).trans (KeepsOthers.setCell _ _ _)).from _, (IZ (N := wr.heap.size) (o := m) (j := 1) XP (by omega) _).trans (IZ (N := wr.heap.size) (o := 0) (j := 0) XP (by omega) _), by show CI w wr.heap.size n (dV ts (pre ++ [x])).1 (dV ts (pre ++ [x])).2 _; rw [HSN.out, HS.out]; exact mG.out.O6 XP _⟩
              · have hzz : z = 0 := by omega
                have HS : Hid (iy (p, gl) x.1 = (p, gl.set m true)) := ae (by rw [HG.out, if_neg (by omega), if_pos hm0])
                gi_wp2
                exact ⟨(KeepsOthers.setCell _ _ _).from _, IZ (N := wr.heap.size) (o := m) (j := 1) XP (by omega) _, by show CI w wr.heap.size n (dV ts (pre ++ [x])).1 (dV ts (pre ++ [x])).2 _; rw [HSN.out, HS.out]; exact mG.out⟩
            · have HS : Hid (iy (p, gl) x.1 = (p, gl.set m true)) := ae (by rw [HG.out, if_neg (by omega), if_pos hm0])
              gi_wp2
              all_goals first
                | (exact ⟨(KeepsOthers.setCell _ _ _).from _, IZ (N := wr.heap.size) (o := m) (j := 1) XP (by omega) _, by show CI w wr.heap.size n (dV ts (pre ++ [x])).1 (dV ts (pre ++ [x])).2 _; rw [HSN.out, HS.out]; exact mG.out⟩)
                | (rename_i _ _ h _; exact absurd h (by simp [undef]))
          · have hmz : m = 0 := by omega
            by_cases hp : p < 0
            · have HS : Hid (iy (p, gl) x.1 = ((x.1.1 : Int), gl)) := ae (by rw [HG.out, if_pos ⟨hp, .inl hmz⟩, if_neg hm0])
              gi_wp2
              exact ⟨(KeepsOthers.setCell _ _ _).from _, IZ (N := wr.heap.size) (o := 0) (j := 0) XP (by omega) _, by show CI w wr.heap.size n (dV ts (pre ++ [x])).1 (dV ts (pre ++ [x])).2 _; rw [HSN.out, HS.out]; exact Ip.out.O6 XP _⟩
            · have HS : Hid (iy (p, gl) x.1 = (p, gl)) := ae (by rw [HG.out, if_neg (by omega), if_neg hm0])
              gi_wp2
              all_goals first
                | (exact ⟨KeepsFrom.refl _ _, BK.refl _ _ _, by show CI w wr.heap.size n (dV ts (pre ++ [x])).1 (dV ts (pre ++ [x])).2 _; rw [HSN.out, HS.out]; exact Ip.out⟩)
                | (rename_i _ _ h _; exact absurd h (by simp [undef]))
      case done =>
        rintro D ys W hD rfl hci hK
        have cB := hci.best.cell
        have Ip := ae hci
        clear hci
        gi_wp2
        refine ⟨by simp, .inl ⟨_, _, rfl, run_takeDeferred hK, ?_⟩⟩
        refine ⟨_, results_tmp2 rfl _ _ _, ?_⟩
        exact ⟨_, true, rfl, by unfold wK; rw [RV.out, HN.out]; rfl, Ip.out.up.trans (belowK_b (w := W0) (n₀ := w.heap.size) (by omega) W D _ (.deferred none) hD hK rfl rfl)⟩
      case stop =>
        rintro D c pre W _ _ h _
        exact h.elim
end Go.Proofs.YtbaehbbonkljpaaGreatDoor
namespace Go.Proofs.YtbaehbbonkljpaaGreatDoor
open Go Go.RowKit
def CX (lo g:Nat) (w:World) (A:Option Addr) (cs:List Value):Prop:=
 cs.length=0\/∃b off,A=some ⟨b,off,none⟩/\lo<=b/\b<w.heap.size/\b≠g/\∀j u,cs[j]? =some u->w.cell? ⟨b,off+j,none⟩=some u
theorem CX.aK {lo g:Nat} {w w':World} {A:Option Addr} {cs:List Value} (h:CX lo g w A cs) (hs:w.heap.size<=w'.heap.size) (hb:∀k,lo<=k->k<w.heap.size->k≠g->w'.heap[k]? =w.heap[k]?):CX lo g w' A cs:=by
 rcases h with h|⟨b,off,h1,h2,h3,h4,h5⟩
 ·exact .inl h
 ·exact .inr ⟨b,off,h1,h2,dP h3 hs,h4,fun j u hu=>(World.cell?_of_block (a:=⟨b,off+j,none⟩) (hb b h2 h3 h4)).trans (h5 j u hu)⟩
theorem CX.off {lo g g':Nat} {w:World} {A:Option Addr} {cs:List Value} (h:CX lo g w A cs) (hg:g'<lo):CX lo g' w A cs:=by
 rcases h with h|⟨b,off,h1,h2,h3,_,h5⟩
 ·exact .inl h
 ·exact .inr ⟨b,off,h1,h2,h3,by omega,h5⟩
theorem CX.lower {lo lo' g:Nat} {w:World} {A:Option Addr} {cs:List Value} (h:CX lo g w A cs) (hl:lo'<=lo):CX lo' g w A cs:=by
 rcases h with h|⟨b,off,h1,h2,h3,h4,h5⟩
 ·exact .inl h
 ·exact .inr ⟨b,off,h1,by omega,h3,h4,h5⟩
theorem CX.dR {B g e size n c:Nat} {A:Option Addr} {w:World} {cs:List Value} (h:w.ownsRow B e size (.slice A n c) n cs) (hg:g<B):CX B g w A cs:=by
 rcases h.2 with ⟨hv,hn⟩|⟨b,cap,cur,hv,hb,hh,_⟩
 ·refine .inl ?_;rw [h.1,hn,Nat.zero_mul]
 ·injection hv with h1 _ _;subst h1;exact .inr ⟨b,0,rfl,hb,(bV.1 hh).1,by omega,fun j u hu=>by rw [Nat.zero_add,<-addr_add];exact h.cells (g:=b) rfl j u hu⟩
theorem CX.at {lo g:Nat} {w:World} {A:Option Addr} {cs:List Value} (h:CX lo g w A cs):aA w w.heap.size A cs:=by
 rcases h with h|⟨b,off,h1,_,h3,_,h5⟩
 ·exact .inl h
 ·exact .inr ⟨b,off,h1,h3,h5⟩
structure KH (lo g:Nat) (w:World) (s:Zs) (z:Zn):Prop where
 au:CX lo g w s.A (z.cal.au.map I)
 rules:CX lo g w s.B (z.cal.rules.flatMap Lr.cells)
 trans:CX lo g w s.C (z.trans.flatMap Tr.cells)
 aH:CX lo g w s.D (z.aH.flatMap Yr.cells)
section
variable {lo lo' g g':Nat} {w w':World} {s:Zs} {z:Zn}
theorem KH.aK (h:KH lo g w s z) (hs:w.heap.size<=w'.heap.size) (hb:∀k,lo<=k->k<w.heap.size->k≠g->w'.heap[k]? =w.heap[k]?):KH lo g w' s z:=
 ⟨h.au.aK hs hb,h.rules.aK hs hb,h.trans.aK hs hb,h.aH.aK hs hb⟩
theorem KH.off (h:KH lo g w s z) (hg:g'<lo):KH lo g' w s z:=⟨h.au.off hg,h.rules.off hg,h.trans.off hg,h.aH.off hg⟩
theorem KH.lower (h:KH lo g w s z) (hl:lo'<=lo):KH lo' g w s z:=⟨h.au.lower hl,h.rules.lower hl,h.trans.lower hl,h.aH.lower hl⟩
theorem KH.at (h:KH lo g w s z):iP w w.heap.size s z:=⟨h.au.at,h.rules.at,h.trans.at,h.aH.at⟩
end
structure jB (z:Zn):Prop where
 au:z.cal.au.length<=10000
 rules:z.cal.rules.length<=10000
 trans:z.trans.length<=10000
 aH:z.aH.length<=10000
def iH:Array Value:= #[I 0, .slice none 0 0,I 0, .slice none 0 0,I 0, .slice none 0 0,I 0, .slice none 0 0]
structure Io (w:World) (cs:Array Value) (W:World):Prop where
 var:W.heap[w.heap.size]? =some (.cells cs 69 (0,0))
 res:W.heap[w.heap.size+1]? =some (.cells iH 69 (0,0))
 up:Below w.heap.size w W
section
variable {w W W':World} {cs:Array Value}
theorem Io.lt (h:Io w cs W):w.heap.size+1<W.heap.size:=(bV.1 h.res).1
theorem Io.grow (h:Io w cs W) (hb:Below W.heap.size W W'):Io w cs W':=
 ⟨(hb.block _ (by have:=h.lt;omega)).trans h.var,(hb.block _ h.lt).trans h.res,ah h.up hb⟩
theorem Io.store (h:Io w cs W) (o:Nat) (v:Value):Io w (cs.setIfInBounds o v) (W.setCell ⟨w.heap.size,o,none⟩ v):=
 ⟨heap_setCell_same W _ o _ _ _ h.var,(heap_setCell_other W _ _ v (by show w.heap.size+1≠w.heap.size;omega)).trans h.res,h.up.setCell (p:=⟨w.heap.size,o,none⟩) (Nat.le_refl _) _⟩
theorem Io.start (w:World) (cs:Array Value):Io w cs ((w.alloc (.cells cs 69)).alloc (.cells iH 69)):=
 ⟨heap_alloc2_old w _ _,heap_alloc2_new w _ _,ah (ag w _) (ag _ _)⟩
theorem Io.row (h:Io w cs W):Row W w.heap.size cs:=⟨by have:=h.lt;omega,fun i=>cell_of_row W _ i _ _ _ h.var⟩
end
theorem nI {w W:World} {o:Nat} {v:Value} {lo g:Nat} {A:Option Addr} {cs:List Value} (h:CX lo g W A cs) (hlo:w.heap.size+2<=lo):CX lo g (W.setCell ⟨w.heap.size,o,none⟩ v) A cs:=
 h.aK (by simp [World.setCell]) fun k h1 _ _=>heap_setCell_other W _ k _ (by show k≠w.heap.size;omega)
def CzQ (w:World) (z:Zn) (e:Ending) (w':World):Prop:=∃s,e= .returned (.agg (ay z s))/\KH w.heap.size w.heap.size w' s z/\Below w.heap.size w w'
theorem Px (z:Zn) (s:Zs):(ay z s)[1]? =some (.slice s.A z.cal.au.length s.a):=rfl
theorem Py (z:Zn) (s:Zs):(ay z s)[3]? =some (.slice s.B z.cal.rules.length s.b):=rfl
theorem Pz (z:Zn) (s:Zs):(ay z s)[5]? =some (.slice s.C z.trans.length s.c):=rfl
theorem PD (z:Zn) (s:Zs):(ay z s)[7]? =some (.slice s.D z.aH.length s.d):=rfl
attribute [local go_sem] Px Py Pz PD
theorem um (z:Zn) (s:Zs) (w:World) (hL:jB z) (hA:iP w w.heap.size s z):Calls Tryz.prog 49 #[.agg (ay z s)] w (CzQ w z):=by
 have HS:=ae (Io.start w (ay z s));have HL:=ae hL;have HA:=ae hA;clear hL hA;go_enter Tryz.func49,Tryz.ntmps49;go_wp2_with (with_reducible refine aZ 69 ?_;refine dm rfl _ rfl iH (by kernel_rfl) ?_);generalize (w.alloc (.cells (ay z s) 69)).alloc (.cells iH 69)=W0 at HS ⊢;have tN:=HS;have c0:W0.cell? ⟨w.heap.size,1,none⟩=some (.slice s.A z.cal.au.length s.a):=tN.out.row.2 1;have f0:∀i,W0.frozen? ⟨w.heap.size,i,none⟩=false:=fun i=>frozen_of_row _ _ i _ _ tN.out.var;refine (show Calls Tryz.prog _ _ W0 _ from Xz s.A s.a z.cal.au.length (z.cal.au.map I) W0 (HA.out.au.keep tN.out.up |>.more tN.out.up.size) (by rw [List.length_map];omega) (by intro u hu;obtain ⟨q,_,rfl⟩:=List.mem_map.1 hu;rfl) HL.out.au).mono ?_;rintro e w1 ⟨A1,a1,rfl,hown,hb⟩;have WZ:=ae (tN.out.grow hb);have hr1:∀i,w1.cell? ⟨w.heap.size,i,none⟩=_:=WZ.out.row.2;have hf1:∀i,w1.frozen? ⟨w.heap.size,i,none⟩=false:=fun i=>frozen_of_row _ _ i _ _ WZ.out.var;have v1:w1.cell? ⟨w.heap.size,1,none⟩=some (.slice s.A z.cal.au.length s.a):=hr1 1;have hlt1:=tN.out.lt;have n1:w1.cell? ⟨w.heap.size,3,none⟩=some (.slice s.B z.cal.rules.length s.b):=hr1 3;have KZ:Hid (CX (w.heap.size+2) w.heap.size (w1.setCell ⟨w.heap.size,1,none⟩ (.slice A1 z.cal.au.length a1)) A1 (z.cal.au.map I)):=ae (nI ((CX.dR hown (by omega)).lower (by omega)) (Nat.le_refl _));have oD:Hid (Io w (ay z ⟨A1,a1,s.B,s.b,s.C,s.c,s.D,s.d⟩) (w1.setCell ⟨w.heap.size,1,none⟩ (.slice A1 z.cal.au.length a1))):=ae (WZ.out.store 1 (.slice A1 z.cal.au.length a1));clear hown hb hr1 c0 f0;go_wp2_with fail;generalize hW1:w1.setCell ⟨w.heap.size,1,none⟩ (.slice A1 z.cal.au.length a1)=W1 at oD KZ ⊢;have lg:=oD;have HX1_1:=KZ;have c1:W1.cell? ⟨w.heap.size,3,none⟩=some (.slice s.B z.cal.rules.length s.b):=lg.out.row.2 3;have f1:∀i,W1.frozen? ⟨w.heap.size,i,none⟩=false:=fun i=>frozen_of_row _ _ i _ _ lg.out.var;clear v1 n1 hf1 hlt1 oD WZ hW1 KZ;refine (show Calls Tryz.prog _ _ W1 _ from XB s.B s.b z.cal.rules.length (z.cal.rules.flatMap Lr.cells) W1 (HA.out.rules.keep lg.out.up |>.more lg.out.up.size) (by rw [bZ (s:=3) Lr.cells _ fun _ _=>rfl]) (Gj Lr.cells _ fun x _=>Yb x) HL.out.rules).mono ?_;rintro e w2 ⟨A2,a2,rfl,hown,hb⟩;have Xa:=ae (lg.out.grow hb);have hr2:∀i,w2.cell? ⟨w.heap.size,i,none⟩=_:=Xa.out.row.2;have hf2:∀i,w2.frozen? ⟨w.heap.size,i,none⟩=false:=fun i=>frozen_of_row _ _ i _ _ Xa.out.var;have v2:w2.cell? ⟨w.heap.size,3,none⟩=some (.slice s.B z.cal.rules.length s.b):=hr2 3;have hlt2:=lg.out.lt;have n2:w2.cell? ⟨w.heap.size,5,none⟩=some (.slice s.C z.trans.length s.c):=hr2 5;have La:=ae (nI (o:=3) (v:= .slice A2 z.cal.rules.length a2) (HX1_1.out.aK hb.size fun k _ h2 _=>hb.block k h2) (Nat.le_refl _));have Ld:Hid (CX (w.heap.size+2) w.heap.size (w2.setCell ⟨w.heap.size,3,none⟩ (.slice A2 z.cal.rules.length a2)) A2 (z.cal.rules.flatMap Lr.cells)):=ae (nI ((CX.dR hown (by omega)).lower (by omega)) (Nat.le_refl _));have oD:Hid (Io w (ay z ⟨A1,a1,A2,a2,s.C,s.c,s.D,s.d⟩) (w2.setCell ⟨w.heap.size,3,none⟩ (.slice A2 z.cal.rules.length a2))):=ae (Xa.out.store 3 (.slice A2 z.cal.rules.length a2));clear hown hb hr2 c1 f1;go_wp2_with fail;generalize hW2:w2.setCell ⟨w.heap.size,3,none⟩ (.slice A2 z.cal.rules.length a2)=W2 at oD La Ld ⊢;have HS2:=oD;have HX1_2:=La;have HX2_2:=Ld;have c2:W2.cell? ⟨w.heap.size,5,none⟩=some (.slice s.C z.trans.length s.c):=HS2.out.row.2 5;have f2:∀i,W2.frozen? ⟨w.heap.size,i,none⟩=false:=fun i=>frozen_of_row _ _ i _ _ HS2.out.var;clear v2 n2 hf2 hlt2 oD Xa hW2 La Ld;refine (show Calls Tryz.prog _ _ W2 _ from XD s.C s.c z.trans.length (z.trans.flatMap Tr.cells) W2 (HA.out.trans.keep HS2.out.up |>.more HS2.out.up.size) (by rw [bZ (s:=2) Tr.cells _ fun _ _=>rfl]) (Gj Tr.cells _ fun x _=>wS x) HL.out.trans).mono ?_;rintro e w3 ⟨A3,a3,rfl,hown,hb⟩;have Xb:=ae (HS2.out.grow hb);have hr3:∀i,w3.cell? ⟨w.heap.size,i,none⟩=_:=Xb.out.row.2;have hf3:∀i,w3.frozen? ⟨w.heap.size,i,none⟩=false:=fun i=>frozen_of_row _ _ i _ _ Xb.out.var;have v3:w3.cell? ⟨w.heap.size,5,none⟩=some (.slice s.C z.trans.length s.c):=hr3 5;have hlt3:=HS2.out.lt
 have n3:w3.cell? ⟨w.heap.size,7,none⟩=some (.slice s.D z.aH.length s.d):=hr3 7;have Lc:=ae (nI (o:=5) (v:= .slice A3 z.trans.length a3) (HX1_2.out.aK hb.size fun k _ h2 _=>hb.block k h2) (Nat.le_refl _));have Le:=ae (nI (o:=5) (v:= .slice A3 z.trans.length a3) (HX2_2.out.aK hb.size fun k _ h2 _=>hb.block k h2) (Nat.le_refl _));have Lh:Hid (CX (w.heap.size+2) w.heap.size (w3.setCell ⟨w.heap.size,5,none⟩ (.slice A3 z.trans.length a3)) A3 (z.trans.flatMap Tr.cells)):=ae (nI ((CX.dR hown (by omega)).lower (by omega)) (Nat.le_refl _));have oD:Hid (Io w (ay z ⟨A1,a1,A2,a2,A3,a3,s.D,s.d⟩) (w3.setCell ⟨w.heap.size,5,none⟩ (.slice A3 z.trans.length a3))):=ae (Xb.out.store 5 (.slice A3 z.trans.length a3));clear hown hb hr3 c2 f2;go_wp2_with fail;generalize hW3:w3.setCell ⟨w.heap.size,5,none⟩ (.slice A3 z.trans.length a3)=W3 at oD Lc Le Lh ⊢;have oz:=oD;have HX1_3:=Lc;have HX2_3:=Le;have HX3_3:=Lh;have c3:W3.cell? ⟨w.heap.size,7,none⟩=some (.slice s.D z.aH.length s.d):=oz.out.row.2 7;have f3:∀i,W3.frozen? ⟨w.heap.size,i,none⟩=false:=fun i=>frozen_of_row _ _ i _ _ oz.out.var;clear v3 n3 hf3 hlt3 oD Xb hW3 Lc Le Lh;refine (show Calls Tryz.prog _ _ W3 _ from XF s.D s.d z.aH.length (z.aH.flatMap Yr.cells) W3 (HA.out.aH.keep oz.out.up |>.more oz.out.up.size) (by rw [bZ (s:=5) Yr.cells _ fun _ _=>rfl]) (Gj Yr.cells _ fun x _=>wY x) HL.out.aH).mono ?_;rintro e w4 ⟨A4,a4,rfl,hown,hb⟩;have HS4':=ae (oz.out.grow hb);have hr4:∀i,w4.cell? ⟨w.heap.size,i,none⟩=_:=HS4'.out.row.2;have hf4:∀i,w4.frozen? ⟨w.heap.size,i,none⟩=false:=fun i=>frozen_of_row _ _ i _ _ HS4'.out.var;have v4:w4.cell? ⟨w.heap.size,7,none⟩=some (.slice s.D z.aH.length s.d):=hr4 7;have hlt4:=oz.out.lt;have HX1_4':=ae (nI (o:=7) (v:= .slice A4 z.aH.length a4) (HX1_3.out.aK hb.size fun k _ h2 _=>hb.block k h2) (Nat.le_refl _));have HX2_4':=ae (nI (o:=7) (v:= .slice A4 z.aH.length a4) (HX2_3.out.aK hb.size fun k _ h2 _=>hb.block k h2) (Nat.le_refl _));have HX3_4':=ae (nI (o:=7) (v:= .slice A4 z.aH.length a4) (HX3_3.out.aK hb.size fun k _ h2 _=>hb.block k h2) (Nat.le_refl _));have HX4_4':Hid (CX (w.heap.size+2) w.heap.size (w4.setCell ⟨w.heap.size,7,none⟩ (.slice A4 z.aH.length a4)) A4 (z.aH.flatMap Yr.cells)):=ae (nI ((CX.dR hown (by omega)).lower (by omega)) (Nat.le_refl _));have oD:Hid (Io w (ay z ⟨A1,a1,A2,a2,A3,a3,A4,a4⟩) (w4.setCell ⟨w.heap.size,7,none⟩ (.slice A4 z.aH.length a4))):=ae (HS4'.out.store 7 (.slice A4 z.aH.length a4));clear hown hb hr4 c3 f3;go_wp2_with (first
  |(with_reducible refine dY 69 ?_;refine aJ rfl _ _ rfl w.heap.size rfl (ay z ⟨A1,a1,A2,a2,A3,a3,A4,a4⟩) oD.out.row _ Tryz.underlying69 rfl (l9 _ _) ?_)
  |(with_reducible refine bY 69 ?_;refine wpList_store_row rfl _ _ _ rfl (w.heap.size+1) (ay z ⟨A1,a1,A2,a2,A3,a3,A4,a4⟩) rfl rfl 69 iH oD.out.res (l9 _ _) rfl (Dv _ _) ?_))
 refine bodyPost_ret (v:= .agg (ay z ⟨A1,a1,A2,a2,A3,a3,A4,a4⟩)) (results_cell_row rfl _ _ (w.heap.size+1) _ (ay z ⟨A1,a1,A2,a2,A3,a3,A4,a4⟩) (0,0) _ rfl (setRow_heap _ _ _ _ _ _ oD.out.res) Tryz.underlying69 rfl (l9 _ _)) rfl ?_;have hb:∀(W:World) (cs:Array Value) (k:Nat),w.heap.size+2<=k->(W.setRow (w.heap.size+1) cs).heap[k]? =W.heap[k]? :=fun W cs k hk=>setRow_other _ _ k _ (by omega);have hX:∀ {A:Option Addr} {cs:List Value} {W:World} {rc:Array Value},CX (w.heap.size+2) w.heap.size W A cs->CX w.heap.size w.heap.size (W.setRow (w.heap.size+1) rc) A cs:=fun h=>(h.aK (by simp [World.setRow]) fun k h1 _ _=>hb _ _ k h1).lower (by omega);exact ⟨⟨A1,a1,A2,a2,A3,a3,A4,a4⟩,rfl,⟨hX HX1_4'.out,hX HX2_4'.out,hX HX3_4'.out,hX HX4_4'.out⟩,below_setRow oD.out.up (Nat.le_succ _) _⟩
end Go.Proofs.YtbaehbbonkljpaaGreatDoor
