/- The texts Pf, Pg, in this order. -/
import Derived.Test.YtdibbemgpikgjaaGreatW00
import Derived.Test.YtdibbemgpikgjaaGreatW01
import Derived.Test.YtdibbemgpikgjaaGreatW09
import Derived.Test.YtdibbemgpikgjaaGreatW10
set_option maxRecDepth 10000
set_option maxHeartbeats 8000000
namespace Go.Proofs.YtdibbemgpikgjaaGreat
open Go Go.RowKit Go.Shelf
attribute [local go_sem] Oper.semAt_some
section
variable {F : Fence} {n : Nat} {P : Program} {ops : Array Oper} {Q : Exit → Act → World → Prop} {a : Act} {w : World} {rest : List Oper} {o : Oper}
theorem kL {ob : Obj} (hg : o.guard = none) (ty : TypeId) (x y : Operand) (ho : o.op = .store ty x y) (cells : Array Value) (hx : a.eval x = .pointer (some ⟨w.heap.size, 0, none⟩)) (hy : a.eval y = .agg cells)
    (t : TypeId) (old : Array Value) (hob : ob = .cells old t (0, 0)) (hi : (P.info? ty).map (·.size) = some cells.size) (hold : old.size = cells.size) (h1 : cells.all (·.oneCell') = true)
    (h : ∀ W, Below w.heap.size w W → W.heap.size = w.heap.size + 1 → W.heap[w.heap.size]? = some (.cells cells t (0, 0)) → Row W w.heap.size cells → KeepsOthers w W → wpListIn F n P ops Q rest (a.put o.dst undef) W) : wpListIn F n P ops Q (o :: rest) a (w.alloc ob) := by
  subst hob
  have hh : ((w.alloc (.cells old t)).setRow w.heap.size cells).heap[w.heap.size]? = some (.cells cells t (0, 0)) := setRow_heap _ _ _ _ _ _ (heap_alloc_last w _)
  refine yS hg ty x y ho w.heap.size cells hx hy t old (heap_alloc_last w _) hi hold h1 (h _ (below_setRow (ag w _) (Nat.le_refl _) _) (by simp [World.setRow]) hh (Row.kF hh) ⟨by simp [World.setRow], fun k ob hk hc => ?_⟩)
  have hkl := (bY.1 hk).1
  rw [setRow_other _ _ k _ (by omega), Below.heap_alloc _ _ _ hkl]
  exact hk
end
def EI (x : Tb) (i : Nat) : Bool := decide (x.version = (i : Int) + 1) && (decide (0 ≤ x.aH) && decide (x.aH ≤ (i : Int)))
def Jj (ts : List fH) : Bool := (List.range ts.length).all fun i => match ts[i]? with | some x => EI x.t i | none => true
def iC (st : Int × List Bool) (x : Nat × fH) : Int × List Bool :=
  if st.2[x.1 + 1]?.getD false = true then st
  else (if st.1 < 0 ∧ (x.2.t.aH = 0 ∨ 0 < x.2.zs.length) then (x.1 : Int) else st.1, if 0 < x.2.t.aH then st.2.set x.2.t.aH.toNat true else st.2)
def dX (ts : List fH) (pre : List (El ts)) : Int × List Bool := pre.foldl (fun st x => iC st x.1) (-1, List.replicate (ts.length + 1) false)
def vZ (ts : List fH) : Int × Bool := if Jj ts = true then ((dX ts (LK ts ts.length)).1, true) else (0, false)
theorem Gy (ts : List fH) (pre : List (El ts)) (x : El ts) : dX ts (pre ++ [x]) = iC (dX ts pre) x.1 := by simp [dX]
theorem Jr (ts : List fH) (pre : List (El ts)) : (dX ts pre).2.length = ts.length + 1 := by
  unfold dX
  have : ∀ (l : List (El ts)) (st : Int × List Bool), (l.foldl (fun st x => iC st x.1) st).2.length = st.2.length := by
    intro l
    induction l with
    | nil => intro st; rfl
    | cons x l ih =>
      intro st
      rw [List.foldl_cons, ih]
      unfold iC
      split
      · rfl
      · dsimp only
        split
        · simp
        · rfl
  rw [this]
  simp
theorem Gz (p : Int) (gl : List Bool) (x : Nat × fH) (r : Nat) (hr : x.1 + 1 = r) (hb : gl[r]? = some true) : iC (p, gl) x = (p, gl) := by
  unfold iC
  dsimp only
  rw [hr, hb]
  rfl
theorem L9 (p : Int) (gl : List Bool) (x : Nat × fH) (r m z : Nat) (hr : x.1 + 1 = r) (hb : gl[r]? = some false) (hm : x.2.t.aH = (m : Int)) (hz : x.2.zs.length = z) :
    iC (p, gl) x = (if p < 0 ∧ (m = 0 ∨ 0 < z) then (x.1 : Int) else p, if 0 < m then gl.set m true else gl) := by
  unfold iC
  dsimp only
  rw [hr, hb, hm, hz, Int.toNat_natCast]
  simp only [Option.getD_some, Int.natCast_eq_zero, Int.natCast_pos]
  rfl
theorem Ov {ts : List fH} (h : Jj ts = true) (i : Nat) (x : fH) (hx : ts[i]? = some x) : EI x.t i = true := by
  unfold Jj at h
  rw [List.all_eq_true] at h
  have h1 := h i (List.mem_range.2 (iP.1 hx).1)
  rwa [hx] at h1
theorem WA {ts : List fH} (i : Nat) (x : fH) (hx : ts[i]? = some x) (h : EI x.t i = false) : Jj ts = false := by
  cases hc : Jj ts with
  | false => rfl
  | true => rw [Ov hc i x hx] at h; cases h
theorem Tn {ts : List fH} (h : ∀ j x, ts[j]? = some x → EI x.t j = true) : Jj ts = true := by
  unfold Jj
  rw [List.all_eq_true]
  intro i hi
  have hl := List.mem_range.1 hi
  rw [dK hl]
  exact h i _ (dK hl)
theorem MP (n : Nat) (hn : n ≤ 100000) (W : World) : (Instr.makeSlice 141 (.int .i64 (n : Int)) (.int .i64 (n : Int))).run Tryz.prog W = .ok (.slice (some ⟨W.heap.size, 0, none⟩) n n) (W.alloc (.cells (Array.replicate n (.bool false)) 4)) := by
  have hib : (Tryz.prog.info? 4).map (fun i => (i.zero, i.size, i.bytes)) = some (some (.bool false), 1, 1) := by kernel_rfl
  obtain ⟨i0, hi, hz0, hz1, hz2⟩ := info_parts hib
  rw [run_makeSlice (P := Tryz.prog) (w := W) 141 4 i0 (.bool false) Tryz.underlying141 hi hz0 .i64 .i64 n n (by omega) (by omega) (by rw [hz1]; omega) (by rw [hz2]; omega) (by omega), hz1]
  have e : madeCells (Value.bool false).cells (((n : Int).toNat) * 1) = Array.replicate n (.bool false) := by
    apply Array.ext'
    simp [madeCells, Value.cells, Nat.mod_one]
    apply List.ext_getElem
    · simp
    · intro j h1 h2; simp
  rw [e]
  simp
structure CI (w : World) (N n : Nat) (p : Int) (gl : List Bool) (W : World) : Prop where
  best : Boxed W N 3 (I p)
  gone : Boxed W (N + 2) 141 (.slice (some ⟨N + 1, 0, none⟩) (n + 1) (n + 1))
  row : W.heap[N + 1]? = some (.cells (gl.map Value.bool).toArray 4 (0, 0))
  up : Below w.heap.size w W
  sz : N + 3 < W.heap.size
section
variable {w W W' : World} {N n : Nat} {p : Int} {gl : List Bool}
theorem CI.grow (h : CI w N n p gl W) (hb : Below W.heap.size W W') : CI w N n p gl W' := by
  have hs := h.sz
  exact ⟨(hb.block _ (by omega)).trans h.best, (hb.block _ (by omega)).trans h.gone, (hb.block _ (by omega)).trans h.row, ah h.up hb, dS h.sz hb.size⟩
theorem CI.O7 (h : CI w N n p gl W) (hN : w.heap.size ≤ N) (v : Int) : CI w N n v gl (W.setCell ⟨N, 0, none⟩ (I v)) :=
  ⟨h.best.set _, h.gone.other (by omega) _, (heap_setCell_other W _ _ _ (by show N + 1 ≠ N; omega)).trans h.row, h.up.setCell (p := ⟨N, 0, none⟩) hN _, by simpa [World.setCell] using h.sz⟩
theorem CI.XZ (h : CI w N n p gl W) (hN : w.heap.size ≤ N) (m : Nat) : CI w N n p (gl.set m true) (W.setCell ⟨N + 1, m, none⟩ (.bool true)) := by
  refine ⟨(heap_setCell_other W _ _ _ (by show N ≠ N + 1; omega)).trans h.best, (heap_setCell_other W _ _ _ (by show N + 2 ≠ N + 1; omega)).trans h.gone, ?_, h.up.setCell (p := ⟨N + 1, m, none⟩) (by show w.heap.size ≤ N + 1; omega) _, by simpa [World.setCell] using h.sz⟩
  rw [heap_setCell_same W _ m _ _ _ h.row]
  simp [List.map_set]
theorem Jk (hN : w.heap.size ≤ N) {o j : Nat} (hj : j ≤ 2) (v : Value) : BK w.heap.size (N + 3) W (W.setCell ⟨N + j, o, none⟩ v) :=
  ⟨(Below.refl _ W).setCell (p := ⟨N + j, o, none⟩) (by show w.heap.size ≤ N + j; omega) _, World.cell?_setCell_other _ _ _ _ (by intro e; have := congrArg Addr.block e; simp only at this; omega)⟩
end
theorem ci_own {β : Type} {w : World} {N n B : Nat} (hB : w.heap.size ≤ B) (f : β → Int × List Bool) : OwnFrom B (fun s W => CI w N n (f s).1 (f s).2 W) := fun s X Y row hs hg hr => by
  have key : ∀ k cs t, X.heap[k]? = some (Obj.cells cs t (0, 0)) → Y.heap[k]? = X.heap[k]? := fun k cs t hk =>
    hg.block k (bY.1 hk).1 fun e => by
      obtain ⟨_, o, ho, hc⟩ := hr k e.symm
      rw [hk] at ho; cases ho; cases hc
  exact ⟨(key _ _ _ hs.best).trans hs.best, (key _ _ _ hs.gone).trans hs.gone, (key _ _ _ hs.row).trans hs.row, hs.up.grown hg hs.up.size (fun k e => Nat.le_trans hB (hr k e).1), dS hs.sz hg.size⟩
theorem Gv {β : Type} {B : Nat} (b : Nat) (t : TypeId) (cs : Array Value) : OwnFrom B (fun (_ : β) W => W.heap[b]? = some (.cells cs t (0, 0))) := fun s X Y row hs hg hr => by
  refine (hg.block b (bY.1 hs).1 fun e => ?_).trans hs
  obtain ⟨_, o, ho, hc⟩ := hr b e.symm
  rw [hs] at ho; cases ho; cases hc
def VN (w : World) (ts : List fH) (e : Ending) (w' : World) : Prop := ∃ p b, e = .returned (.tuple #[I p, .bool b]) ∧ vZ ts = (p, b) ∧ Below w.heap.size w w'
theorem xR {w : World} {B : Nat} {A : Option Addr} {ts : List fH} (h : kU w B A ts) : ts.length = 0 ∨ ∃ b off, A = some ⟨b, off, none⟩ ∧ b < B ∧ rG w b off ts := by
  have hl := dP (s := 68) fH.cells ts fun x hx => (h.each x hx).size
  rcases h.row with h0 | ⟨b, off, h1, h2, h3⟩
  · exact .inl (by omega)
  · exact .inr ⟨b, off, h1, h2, fun j x hx => ⟨aB.elem (fun x hx => (h.each x hx).size) h3 j x hx, (h.each x (gz hx)).size⟩⟩
def Cur1 (w : World) (ts : List fH) (n : Nat) (i : Value) (wr : World) : Prop := ∃ k : Nat, k ≤ n ∧ i = .int .i64 k ∧ (∀ j x, j < k → ts[j]? = some x → EI x.t j = true) ∧ Below w.heap.size w wr
theorem zC (A : Option Addr) (c n : Nat) (ts : List fH) (w : World) (hn : ts.length = n) (hn1 : n ≤ 1000) (h : kU w w.heap.size A ts) :
    Calls Tryz.prog 38 #[.slice A n c] w (VN w ts) := by
  refine (callsIn_wide (n := 3)).1 ?_
  have hro : Fence.wide.round = none := rfl
  have h1 : 1 ≤ 3 := by omega
  have HN := ae hn
  have HT := ae (xR h)
  have H1 : Hid (∀ x ∈ ts, x.cells.length = 68) := ae fun x hx => (h.each x hx).size
  clear h hn
  refine callsIn_of_wp_marks Tryz.func38 rfl trivial ?_ hro
  simp only [Tryz.ntmps38, List.size_toArray, List.length_cons, List.length_nil, Nat.reduceAdd, Nat.reduceSub, Array.replicate_succ, Array.replicate_zero, List.push_toArray, List.append_toArray, List.nil_append, List.cons_append]
  gi_wp2
  gi_loopw [12] (fun i wr => Cur1 w ts n i wr) (fun i _ => n - (intOf i).toNat)
  case atStart => exact ⟨0, Nat.zero_le _, rfl, fun j x hj => absurd hj (Nat.not_lt_zero _), Below.refl _ _⟩
  case round =>
    obtain ⟨k, hk, rfl, hall, hb⟩ := hrel
    have lQ := ae hall
    have HB := ae hb
    clear hall hb
    by_cases hlt : k < n
    · have hkl : k < ts.length := by rw [HN.out]; exact hlt
      obtain ⟨x, hx⟩ : ∃ x, ts[k]? = some x := ⟨_, dK hkl⟩
      have h68 := H1.out x (gz hx)
      obtain ⟨b, off, rfl, hbw, htab⟩ : ∃ b off, A = some ⟨b, off, none⟩ ∧ b < w.heap.size ∧ rG w b off ts := by
        rcases HT.out with h0 | h0
        · omega
        · exact h0
      have HX := ae hx
      have N8 : Hid (wr.rangeAt b (off + k * 68) x.cells) := ae (aW (htab k x hx).1 HB.out hbw)
      have dR : Hid ((Tryz.prog.info? 32).map (·.size) = some x.cells.length) := ae (by rw [h68]; kernel_rfl)
      have nT : Hid ((Tryz.prog.info? 32).map (·.size) = some x.cells.toArray.size) := ae (by rw [List.size_toArray, h68]; kernel_rfl)
      have HZS : Hid (Tryz.zeroCells32.size = x.cells.toArray.size) := ae ((show Tryz.zeroCells32.size = 68 by kernel_rfl).trans (by rw [List.size_toArray, h68]))
      have i0 : (0 : Int) ≤ (k : Int) := by omega
      have i1 : (k : Int) < (n : Int) := by omega
      have hw : IntKind.i64.wrap ((k : Int) + 1) = (k : Int) + 1 := by rw [IntKind.wrap_i64]; omega
      clear hkl hx h68 htab
      gi_wp2_with (first
        | ((with_reducible refine GI 32 ?_); refine nX rfl _ _ rfl b (off + k * 68) rfl x.cells _ N8.out Tryz.underlying32 rfl dR.out ?_)
        | ((with_reducible refine xq 32 ?_); refine kL rfl _ _ _ rfl x.cells.toArray rfl rfl 32 Tryz.zeroCells32 rfl nT.out HZS.out (aT _ _ _ _) ?_; intro W5 hb5 hs5 hf5 tq hk5; have c1 : W5.cell? ⟨wr.heap.size, 1, none⟩ = some (I x.t.version) := tq.2 1; have c2 : W5.cell? ⟨wr.heap.size, 2, none⟩ = some (I x.t.aH) := tq.2 2; have oN := ae (ah HB.out hb5); clear hb5 hs5 hf5 tq hk5))
      all_goals first
        | (refine ⟨⟨k + 1, by omega, by go_num, fun j y hj hy => ?_, oN.out⟩, by simp [intOf]; omega⟩
           by_cases hjk : j < k
           · exact lQ.out j y hjk hy
           · have e : j = k := by omega
             subst e
             have e2 : x = y := by have h1 := HX.out; rw [hy] at h1; injection h1 with h1; exact h1.symm
             subst e2
             unfold EI
             rw [decide_eq_true (by omega), decide_eq_true (by omega), decide_eq_true (by omega)]
             rfl)
        | (have hno : EI x.t k = false := by
             cases hq : EI x.t k with
             | false => rfl
             | true => exfalso; unfold EI at hq; simp only [Bool.and_eq_true, decide_eq_true_eq] at hq; omega
           have IU := ae hno
           clear hno
           refine ⟨_, results_tmp2 rfl _ _ _, ?_⟩
           exact ⟨0, false, rfl, by unfold vZ; rw [WA k x HX.out IU.out]; rfl, oN.out⟩)
    · have hke : k = n := by omega
      have Rt : Hid (Jj ts = true) := ae (Tn fun j x hx => lQ.out j x (by have h1 := (iP.1 hx).1; have := HN.out; omega) hx)
      have Rz : Hid (Below w.heap.size w wr) := HB
      have hmk : ∀ W, (Instr.makeSlice 141 (.int .i64 ((n : Int) + 1)) (.int .i64 ((n : Int) + 1))).run Tryz.prog W = .ok (.slice (some ⟨W.heap.size, 0, none⟩) (n + 1) (n + 1)) (W.alloc (.cells (Array.replicate (n + 1) (.bool false)) 4)) := fun W => MP (n + 1) (by omega) W
      have hnl : ¬ (k : Int) < (n : Int) := by omega
      clear hke
      gi_wp2_with (refine ⟨trivial, ?_⟩; gi_at_call 60; refine (SY Fence.wide 2 trivial hro _ _ _ _).mono ?_; rintro e w' ⟨rfl, rfl⟩)
      have hsz0 : (((wr.alloc (.cells #[I (-1)] 3)).alloc (.cells (Array.replicate (n + 1) (.bool false)) 4)).alloc (.cells #[.slice (some ⟨wr.heap.size + 1, 0, none⟩) (n + 1) (n + 1)] 141)).heap.size = wr.heap.size + 3 := by simp
      obtain ⟨Wx, TU⟩ : ∃ Wx, ((wr.alloc (.cells #[I (-1)] 3)).alloc (.cells (Array.replicate (n + 1) (.bool false)) 4)).alloc (.cells #[.slice (some ⟨wr.heap.size + 1, 0, none⟩) (n + 1) (n + 1)] 141) = Wx := ⟨_, rfl⟩
      have hbx : Below wr.heap.size wr Wx := by rw [← TU]; exact (((Below.refl _ wr).alloc (Nat.le_refl _) _).alloc (by simp) _).alloc (by simp; omega) _
      have hB0 : Wx.heap[wr.heap.size]? = some (.cells #[I (-1)] 3 (0, 0)) := by rw [← TU]; exact (Below.heap_alloc _ _ _ (by simp; omega)).trans ((Below.heap_alloc _ _ _ (by simp)).trans (heap_alloc_last wr _))
      have hB1 : Wx.heap[wr.heap.size + 1]? = some (.cells (Array.replicate (n + 1) (.bool false)) 4 (0, 0)) := by rw [← TU]; have h2 := heap_alloc_last (wr.alloc (.cells #[I (-1)] 3)) (.cells (Array.replicate (n + 1) (.bool false)) 4); rw [World.size_alloc] at h2; exact (Below.heap_alloc _ _ _ (by simp)).trans h2
      have hB2 : Wx.heap[wr.heap.size + 2]? = some (.cells #[.slice (some ⟨wr.heap.size + 1, 0, none⟩) (n + 1) (n + 1)] 141 (0, 0)) := by rw [← TU]; have h2 := heap_alloc_last ((wr.alloc (.cells #[I (-1)] 3)).alloc (.cells (Array.replicate (n + 1) (.bool false)) 4)) (.cells #[.slice (some ⟨wr.heap.size + 1, 0, none⟩) (n + 1) (n + 1)] 141); rw [World.size_alloc, World.size_alloc] at h2; exact h2
      rw [TU] at hsz0 ⊢
      have bS := Boxed.new Wx 39 (.slice A n c)
      have hb4 := ag Wx (.cells #[.slice A n c] 39)
      obtain ⟨W0, hW0⟩ : ∃ W0, Wx.alloc (.cells #[.slice A n c] 39) = W0 := ⟨_, rfl⟩
      have hsz4 : W0.heap.size = wr.heap.size + 4 := by rw [← hW0, World.size_alloc, hsz0]
      rw [hW0] at bS hb4 ⊢
      rw [hsz0] at bS hb4
      have WZ : w.heap.size ≤ wr.heap.size := HB.out.size
      have hCI : CI w wr.heap.size n (-1) (List.replicate (n + 1) false) W0 := ⟨(hb4.block _ (by omega)).trans hB0, (hb4.block _ (by omega)).trans hB2, by rw [hb4.block _ (by omega), hB1]; simp, (HB.out.trans (hbx.mono WZ)).trans (hb4.mono (by omega)), by omega⟩
      have Zh : ts.length = 0 ∨ ∃ b off, A = some ⟨b, off, none⟩ ∧ b < w.heap.size ∧ rG W0 b off ts := HT.out.imp id fun ⟨b, off, h1, h2, h3⟩ => ⟨b, off, h1, h2, fun j x hx => ⟨aW (h3 j x hx).1 hCI.up h2, (h3 j x hx).2⟩⟩
      have hst := Jf Fence.wide (3 - 1) trivial hro (by omega) (wr.heap.size + 3) w.heap.size A c ts (by have := HN.out; omega) W0 (by omega) (by omega) (by rw [HN.out]; exact bS.cell) Zh
      rw [HN.out] at hst
      clear TU hbx hB0 hB1 hB2 bS hb4 hW0 hsz0 Zh hmk
      refine wpIn_rangeFunc_ownH hro h1 (gf := 84) (lb := #[.pointer (some ⟨wr.heap.size + 3, 0, none⟩)]) rfl trivial (enters_of Tryz.func84 (by kernel_rfl) rfl)
        hst (fun h k => h.trans k) (bk_b (by omega) (by omega)) (Below.refl _ _) (fun _ => rfl)
        (fun pre W => CI w wr.heap.size n (dX ts pre).1 (dX ts pre).2 W)
        (fun _ _ _ => False)
        (ci_own (by omega) _)
        (fun _ _ _ _ _ hs _ _ => hs)
        (by unfold dX; rw [HN.out]; exact hCI)
        (fun x a' W => ∃ B, wr.heap.size + 3 < B ∧ W.heap[B]? = some (.cells x.1.2.cells.toArray 32 (0, 0)) ∧ a' = ({ tmps := #[.slice A n c, undef, u2, u3, u4, u5, .pointer (some ⟨wr.heap.size, 0, none⟩), .pointer (some ⟨wr.heap.size + 1 + 1, 0, none⟩), I x.1.1, .pointer (some ⟨B, 0, none⟩), .slice A n c, I n, I k, .bool false, u14, u15, u16, u17, u18, u19, u20, u21, u22, u23, u24, u25, u26, u27, u28, u29, u30, u31, u32, u33, .slice A n c, I n, I (n + 1), .slice (some ⟨wr.heap.size + 1, 0, none⟩) (n + 1) (n + 1), .slice A n c, .func (.func 84) #[] #[.pointer (some ⟨wr.heap.size + 1 + 1 + 1, 0, none⟩)], I x.1.1, .agg x.1.2.cells.toArray, undef, undef, undef, undef, undef, undef, undef, undef, undef, undef, undef, undef, undef, undef, undef, undef, undef, undef, undef, undef, undef, undef, undef, undef, undef, undef, undef], defers := [] } : Act))
        (fun x a' _ X Y row hs hg hr => by obtain ⟨B, h1, h2, h3⟩ := hs; exact ⟨B, h1, Gv B _ _ () X Y row h2 hg hr, h3⟩)
        ?assign ?body ?done ?stop
      case assign =>
        rintro l pre x W K hci hK
        have h68 := H1.out x.1.2 (gz x.2)
        have nT : Hid ((Tryz.prog.info? 32).map (·.size) = some x.1.2.cells.toArray.size) := ae (by rw [List.size_toArray, h68]; kernel_rfl)
        have HZS : Hid (Tryz.zeroCells32.size = x.1.2.cells.toArray.size) := ae ((show Tryz.zeroCells32.size = 68 by kernel_rfl).trans (by rw [List.size_toArray, h68]))
        have IM := ae hci
        have hsz := hci.sz
        have hup := hci.up.size
        clear hci h68
        gi_wp2_with ((with_reducible refine xq 32 ?_); refine kL rfl _ _ _ rfl x.1.2.cells.toArray rfl rfl 32 Tryz.zeroCells32 rfl nT.out HZS.out (aT _ _ _ _) ?_; intro W5 hb5 hs5 hh5 tq hk5; have oN := ae hb5; have HH5 := ae hh5; have zq := ae hk5; clear hb5 hs5 hh5 tq hk5)
        exact hK _ _ (zq.out.from _) ⟨oN.out.mono hup, oN.out.cell (p := ⟨wr.heap.size + 3, 0, none⟩) hsz⟩ (IM.out.grow oN.out) ⟨W.heap.size, hsz, HH5.out, rfl⟩
      case body =>
        rintro l pre x a' W hl _ hci ⟨B, hB, hblk, rfl⟩ hlt2
        have htb := Ov Rt.out x.1.1 x.1.2 x.2
        have hxl : x.1.1 < n := by have h1 := (iP.1 x.2).1; have := HN.out; omega
        unfold EI at htb
        simp only [Bool.and_eq_true, decide_eq_true_eq] at htb
        obtain ⟨hv, hw0, hw1⟩ := htb
        obtain ⟨⟨p, gl⟩, hst⟩ : ∃ st, dX ts pre = st := ⟨_, rfl⟩
        have hgl : gl.length = n + 1 := by have h := Jr ts pre; rw [hst, HN.out] at h; exact h
        rw [hst] at hci
        have HSN : Hid (dX ts (pre ++ [x]) = iC (p, gl) x.1) := ae (by rw [Gy, hst])
        clear hst
        have hc1 : W.cell? ⟨B, 1, none⟩ = some (I x.1.2.t.version) := cell_of_row W B 1 _ _ _ hblk
        have hc2 : W.cell? ⟨B, 2, none⟩ = some (I x.1.2.t.aH) := cell_of_row W B 2 _ _ _ hblk
        have hc3 : W.cell? ⟨B, 3, none⟩ = some (.slice x.1.2.A x.1.2.zs.length x.1.2.c) := cell_of_row W B 3 _ _ _ hblk
        obtain ⟨m, hm⟩ : ∃ m : Nat, x.1.2.t.aH = (m : Int) := ⟨_, (Int.toNat_of_nonneg hw0).symm⟩
        obtain ⟨r, hr⟩ : ∃ r : Nat, x.1.1 + 1 = r := ⟨_, rfl⟩
        have hvr : x.1.2.t.version = (r : Int) := by omega
        obtain ⟨z, hz⟩ : ∃ z, x.1.2.zs.length = z := ⟨_, rfl⟩
        obtain ⟨b, hb⟩ : ∃ b, gl[r]? = some b := ⟨_, dK (by omega)⟩
        obtain ⟨b2, hb2⟩ : ∃ b, gl[m]? = some b := ⟨_, dK (by omega)⟩
        rw [hvr] at hc1
        rw [hm] at hc2
        rw [hz] at hc3
        have cB := hci.best.cell
        have cG := hci.gone.cell
        have fB := hci.best.frozen
        have hfz : ∀ i, W.frozen? ⟨wr.heap.size + 1, i, none⟩ = false := fun i => frozen_of_row _ _ i _ _ hci.row
        have hgc : ∀ j b, gl[j]? = some b → W.cell? ⟨wr.heap.size + 1, j, none⟩ = some (.bool b) := fun j b hj => by rw [cell_of_row W _ j _ _ _ hci.row]; simp [hj]
        have g1 := hgc _ _ hb
        have g2 := hgc _ _ hb2
        have IM := ae hci
        have r0 : (0 : Int) ≤ (r : Int) := by omega
        have r1 : (r : Int) < (n : Int) + 1 := by omega
        have m0 : (0 : Int) ≤ (m : Int) := by omega
        have m1 : (m : Int) < (n : Int) + 1 := by omega
        have n1 : ¬ B = wr.heap.size + 1 := by omega
        have n2 : ¬ B = wr.heap.size := by omega
        clear hci hgc hv hw0 hw1 hvr hb2 hgl hblk
        cases b with
        | true =>
          have HS := ae (Gz p gl x.1 r hr hb)
          clear hm hz hr hb
          gi_wp2
          exact ⟨KeepsFrom.refl _ _, BK.refl _ _ _, by show CI w wr.heap.size n (dX ts (pre ++ [x])).1 (dX ts (pre ++ [x])).2 _; rw [HSN.out, HS.out]; exact IM.out⟩
        | false =>
          have HG := ae (L9 p gl x.1 r m z hr hb hm hz)
          clear hm hz hr hb
          by_cases hm0 : 0 < m
          · have jO := ae (IM.out.XZ WZ m)
            by_cases hp : p < 0
            · by_cases hz0 : 0 < z
              · have HS : Hid (iC (p, gl) x.1 = ((x.1.1 : Int), gl.set m true)) := ae (by rw [HG.out, if_pos ⟨hp, .inr hz0⟩, if_pos hm0])
                gi_wp2
                exact ⟨((KeepsOthers.setCell _ _ _).trans (KeepsOthers.setCell _ _ _)).from _, (Jk (N := wr.heap.size) (o := m) (j := 1) WZ (by omega) _).trans (Jk (N := wr.heap.size) (o := 0) (j := 0) WZ (by omega) _), by show CI w wr.heap.size n (dX ts (pre ++ [x])).1 (dX ts (pre ++ [x])).2 _; rw [HSN.out, HS.out]; exact jO.out.O7 WZ _⟩
              · have hzz : z = 0 := by omega
                have HS : Hid (iC (p, gl) x.1 = (p, gl.set m true)) := ae (by rw [HG.out, if_neg (by omega), if_pos hm0])
                gi_wp2
                exact ⟨(KeepsOthers.setCell _ _ _).from _, Jk (N := wr.heap.size) (o := m) (j := 1) WZ (by omega) _, by show CI w wr.heap.size n (dX ts (pre ++ [x])).1 (dX ts (pre ++ [x])).2 _; rw [HSN.out, HS.out]; exact jO.out⟩
            · have HS : Hid (iC (p, gl) x.1 = (p, gl.set m true)) := ae (by rw [HG.out, if_neg (by omega), if_pos hm0])
              gi_wp2
              all_goals first
                | (exact ⟨(KeepsOthers.setCell _ _ _).from _, Jk (N := wr.heap.size) (o := m) (j := 1) WZ (by omega) _, by show CI w wr.heap.size n (dX ts (pre ++ [x])).1 (dX ts (pre ++ [x])).2 _; rw [HSN.out, HS.out]; exact jO.out⟩)
                | (rename_i _ _ h _; exact absurd h (by simp [undef]))
          · have hmz : m = 0 := by omega
            by_cases hp : p < 0
            · have HS : Hid (iC (p, gl) x.1 = ((x.1.1 : Int), gl)) := ae (by rw [HG.out, if_pos ⟨hp, .inl hmz⟩, if_neg hm0])
              gi_wp2
              exact ⟨(KeepsOthers.setCell _ _ _).from _, Jk (N := wr.heap.size) (o := 0) (j := 0) WZ (by omega) _, by show CI w wr.heap.size n (dX ts (pre ++ [x])).1 (dX ts (pre ++ [x])).2 _; rw [HSN.out, HS.out]; exact IM.out.O7 WZ _⟩
            · have HS : Hid (iC (p, gl) x.1 = (p, gl)) := ae (by rw [HG.out, if_neg (by omega), if_neg hm0])
              gi_wp2
              all_goals first
                | (exact ⟨KeepsFrom.refl _ _, BK.refl _ _ _, by show CI w wr.heap.size n (dX ts (pre ++ [x])).1 (dX ts (pre ++ [x])).2 _; rw [HSN.out, HS.out]; exact IM.out⟩)
                | (rename_i _ _ h _; exact absurd h (by simp [undef]))
      case done =>
        rintro D ys W hD rfl hci hK
        have cB := hci.best.cell
        have IM := ae hci
        clear hci
        gi_wp2
        refine ⟨by simp, .inl ⟨_, _, rfl, run_takeDeferred hK, ?_⟩⟩
        refine ⟨_, results_tmp2 rfl _ _ _, ?_⟩
        exact ⟨_, true, rfl, by unfold vZ; rw [Rt.out, HN.out]; rfl, IM.out.up.trans (belowK_b (w := W0) (n₀ := w.heap.size) (by omega) W D _ (.deferred none) hD hK rfl rfl)⟩
      case stop =>
        rintro D c pre W _ _ h _
        exact h.elim
end Go.Proofs.YtdibbemgpikgjaaGreat
namespace Go.Proofs.YtdibbemgpikgjaaGreat
open Go Go.RowKit
theorem gu {P:Program} {ops:Array Oper} {Q:Exit→Act→World→Prop} {rest:List Oper} {a:Act} {w:World} {d:Option Tmp} {t:TypeId} {pos:String} {af:Array Edge} {g:Option (Nat×Bool)} (ty:TypeId) {x:Array (Nat×Operand)} (h:wpList P ops Q (⟨d, .build ty x,t,pos,af,g⟩::rest) a w):wpList P ops Q (⟨d, .build ty x,t,pos,af,g⟩::rest) a w:=h
theorem Md (ts:List fH) (pre:List (El ts)):(dX ts pre).1= -1∨∃i:Nat,i<ts.length∧(dX ts pre).1=(i:Int):=by
 unfold dX;have:∀(l:List (El ts)) (st:Int×List Bool),(st.1= -1∨∃i:Nat,i<ts.length∧st.1=(i:Int))→((l.foldl (fun st x=>iC st x.1) st).1= -1∨∃i:Nat,i<ts.length∧(l.foldl (fun st x=>iC st x.1) st).1=(i:Int)):=by
  intro l
  induction l with
  |nil=>intro st h;exact h
  |cons x l ih=>
   intro st h;rw [List.foldl_cons];refine ih _ ?_;unfold iC;split
   ·exact h
   ·dsimp only;split
    ·exact .inr ⟨x.1.1,(iP.1 x.2).1,rfl⟩
    ·exact h
 exact this pre _ (.inl rfl)
theorem CG {ts:List fH} {p:Int} {b:Bool} (h:vZ ts=(p,b)):p<0∨∃i x,p=((i:Nat):Int)∧(b=true→ts[i]? =some x):=by
 unfold vZ at h;split at h
 ·injection h with h1 h2;rcases Md ts (LK ts ts.length) with h3|⟨i,hi,h3⟩
  ·exact .inl (by omega)
  ·exact .inr ⟨i,ts[i],by omega,fun _=>dK hi⟩
 ·injection h with h1 h2;subst h1 h2;exact .inr ⟨0,⟨⟨0,0,0,[],[],[]⟩,none,0,[]⟩,rfl,fun h=>nomatch h⟩
def zn (ts:List fH):Prop:=∀x∈ts,x.zs.length≤1000∧∀y∈x.zs,oU y.e.z
def NewP (w:World) (ts:List fH) (e:Ending) (w':World):Prop:=
 Below w.heap.size w w'∧∃p b,vZ ts=(p,b)∧((b=false∧e= .returned (.tuple #[.agg Tryz.zeroCells32,I 1]))∨(b=true∧p<0∧e= .returned (.tuple #[.agg Tryz.zeroCells32,I 4]))∨
  (b=true∧∃i x y,p=((i:Nat):Int)∧ts[i]? =some x∧y.t=x.t∧y.zs.map (·.e)=x.zs.map (·.e)∧e= .returned (.tuple #[.agg (ai y.t (.slice y.A y.zs.length y.c)),I 0])∧Wu w.heap.size w' y))
theorem Bo:(Tryz.prog.info? 32).map (·.size)=some Tryz.zeroCells32.size:=by kernel_rfl
theorem Vx:Tryz.zeroCells32.all (·.oneCell')=true:=by kernel_rfl
theorem Vw:(Tryz.prog.info? 32).map (fun i=>(i.zero,i.size))=some (some (.agg Tryz.zeroCells32),Tryz.zeroCells32.size):=by kernel_rfl
theorem MR (A:Option Addr) (c n:Nat) (ts:List fH) (w:World) (hn:ts.length=n) (hn1:n≤1000) (hl:zn ts) (h:kU w w.heap.size A ts):
  Calls Tryz.prog 37 #[.slice A n c] w (NewP w ts):=by
 have HR0:=ae (heap_alloc_last w (.cells Tryz.zeroCells32 32));have HB0:=ae (ag w (.cells Tryz.zeroCells32 32));have HC:=ae (zC A c n ts (w.alloc (.cells Tryz.zeroCells32 32)) hn hn1 (h.grow (ag w _)));have HN:=ae hn;have HL:=ae hl;have Rt:=ae h;clear hn hl h;go_enter Tryz.func37,Tryz.ntmps37;go_wp2_with (first
  |(with_reducible refine bu 32 ?_;refine bH rfl _ rfl Tryz.zeroCells32 Vw ?_))
 refine HC.out.mono ?_;rintro e w1 ⟨p,b,rfl,hp,hb1⟩;have HR1:=ae ((hb1.block _ (by simp)).trans HR0.out);have HB1:=ae (ah HB0.out hb1);have HP:=ae hp;have hrg:=CG hp;clear hb1 hp HC HR0 HB0;cases b with
 |false=>
  clear hrg;go_wp2_with (first
   |((with_reducible refine gu 32 ?_);refine bW rfl _ rfl Tryz.zeroCells32 (by kernel_rfl) ?_)
   |((with_reducible refine bV 32 ?_);refine wpList_store_row rfl _ _ _ rfl w.heap.size Tryz.zeroCells32 rfl rfl 32 Tryz.zeroCells32 HR1.out Bo rfl Vx ?_))
  refine bodyPost_ret (v:= .tuple #[.agg Tryz.zeroCells32,I 1]) (bQ rfl _ _ w.heap.size _ Tryz.zeroCells32 (0,0) _ rfl (setRow_heap _ _ _ _ _ _ HR1.out) Tryz.underlying32 rfl Bo _ rfl) rfl ?_;exact ⟨below_setRow HB1.out (Nat.le_refl _) _,p,false,HP.out, .inl ⟨rfl,rfl⟩⟩
 |true=>
  rcases hrg with hneg|⟨i,x,rfl,hx⟩
  ·go_wp2_with (first
    |((with_reducible refine gu 32 ?_);refine bW rfl _ rfl Tryz.zeroCells32 (by kernel_rfl) ?_)
    |((with_reducible refine bV 32 ?_);refine wpList_store_row rfl _ _ _ rfl w.heap.size Tryz.zeroCells32 rfl rfl 32 Tryz.zeroCells32 HR1.out Bo rfl Vx ?_))
   refine bodyPost_ret (v:= .tuple #[.agg Tryz.zeroCells32,I 4]) (bQ rfl _ _ w.heap.size _ Tryz.zeroCells32 (0,0) _ rfl (setRow_heap _ _ _ _ _ _ HR1.out) Tryz.underlying32 rfl Bo _ rfl) rfl ?_;exact ⟨below_setRow HB1.out (Nat.le_refl _) _,p,true,HP.out, .inr (.inl ⟨rfl,hneg,rfl⟩)⟩
  ·have hx:=hx rfl;have hil:i<n:=by have h1:=(iP.1 hx).1;have:=HN.out;omega
   have hxm:=gz hx;have HAT:Hid (lS w1 w1.heap.size x):=ae ((Rt.out.each x hxm).grow HB1.out);have h68:=(Rt.out.each x hxm).size;obtain ⟨b,off,rfl,hbw,htab⟩:∃b off,A=some ⟨b,off,none⟩∧b<w.heap.size∧rG w b off ts:=by
    rcases xR Rt.out with h0|h0
    ·have:=HN.out;omega
    ·exact h0
   have N8:Hid (w1.rangeAt b (off+i*68) x.cells):=ae (aW (htab i x hx).1 HB1.out hbw);have dR:Hid ((Tryz.prog.info? 32).map (·.size)=some x.cells.length):=ae (by rw [h68];kernel_rfl);have HX:=ae hx;have HLX:=ae (HL.out x hxm);have i0:(0:Int)≤(i:Int):=by omega
   have i1:(i:Int)<(n:Int):=by omega
   clear hx hxm h68 htab;go_wp2_with (with_reducible refine dM 32 ?_;refine wpList_load_mid rfl _ _ rfl b (off+i*68) rfl x.cells _ N8.out Tryz.underlying32 rfl dR.out ?_);refine (show Calls Tryz.prog _ #[.agg x.cells.toArray] w1 _ from Cm x x.zs.length w1 rfl HLX.out.1 HLX.out.2 HAT.out).mono ?_;rintro e w2 ⟨y,hy1,hy2,rfl,hy3,hb2⟩;have HY:=ae (show y.t=x.t∧y.zs.map (·.e)=x.zs.map (·.e)∧Wu w1.heap.size w2 y from ⟨hy1,hy2,hy3⟩);have HR2:=ae ((hb2.block _ (bY.1 HR1.out).1).trans HR1.out);have HB2:=ae (ah HB1.out hb2);have hlt1:=(bY.1 HR1.out).1;have HSY:=ae (bP y.t (.slice y.A y.zs.length y.c) hy3.prev hy3.bJ);have HZY:Hid (Tryz.zeroCells32.size=(ai y.t (.slice y.A y.zs.length y.c)).size):=ae (by rw [aZ _ _ hy3.prev hy3.bJ];kernel_rfl);clear hy1 hy2 hy3 hb2;go_wp2_with ((with_reducible refine bV 32 ?_);refine wpList_store_row rfl _ _ _ rfl w.heap.size (ai y.t (.slice y.A y.zs.length y.c)) rfl rfl 32 Tryz.zeroCells32 HR2.out HSY.out HZY.out (aT _ _ _ _) ?_);refine bodyPost_ret (v:= .tuple #[.agg (ai y.t (.slice y.A y.zs.length y.c)),I 0]) (bQ rfl _ _ w.heap.size _ (ai y.t (.slice y.A y.zs.length y.c)) (0,0) _ rfl (setRow_heap _ _ _ _ _ _ HR2.out) Tryz.underlying32 rfl HSY.out _ rfl) rfl ?_;refine ⟨below_setRow HB2.out (Nat.le_refl _) _,(i:Int),true,HP.out, .inr (.inr ⟨rfl,i,x,y,rfl,HX.out,HY.out.1,HY.out.2.1,rfl,?_⟩)⟩;exact (HY.out.2.2.aQ (by simp [World.setRow]) fun k h1 _=>setRow_other _ _ k _ (by omega)).lower (by omega)
end Go.Proofs.YtdibbemgpikgjaaGreat
