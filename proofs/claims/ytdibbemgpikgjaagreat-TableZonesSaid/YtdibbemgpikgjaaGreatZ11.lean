/- The texts Pf, Pc, in this order. -/
import Derived.Test.YtdibbemgpikgjaaGreatZ00
import Derived.Test.YtdibbemgpikgjaaGreatZ01
import Derived.Test.YtdibbemgpikgjaaGreatZ05
import Derived.Test.YtdibbemgpikgjaaGreatZ10
set_option maxRecDepth 10000
set_option maxHeartbeats 8000000
namespace Go.Proofs.YtdibbemgpikgjaaGreat
open Go Go.RowKit Go.Shelf
attribute [local go_sem] Oper.semAt_some
section
variable {F : Fence} {n : Nat} {P : Program} {ops : Array Oper} {Q : Exit → Act → World → Prop} {a : Act} {w : World} {rest : List Oper} {o : Oper}
theorem dW {ob : Obj} (hg : o.guard = none) (ty : TypeId) (x y : Operand) (ho : o.op = .store ty x y) (cells : Array Value) (hx : a.eval x = .pointer (some ⟨w.heap.size, 0, none⟩)) (hy : a.eval y = .agg cells)
    (t : TypeId) (old : Array Value) (hob : ob = .cells old t (0, 0)) (hi : (P.info? ty).map (·.size) = some cells.size) (hold : old.size = cells.size) (h1 : cells.all (·.oneCell') = true)
    (h : ∀ W, Below w.heap.size w W → W.heap.size = w.heap.size + 1 → W.heap[w.heap.size]? = some (.cells cells t (0, 0)) → Row W w.heap.size cells → KeepsOthers w W → wpListIn F n P ops Q rest (a.put o.dst undef) W) : wpListIn F n P ops Q (o :: rest) a (w.alloc ob) := by
  subst hob
  have hh : ((w.alloc (.cells old t)).setRow w.heap.size cells).heap[w.heap.size]? = some (.cells cells t (0, 0)) := setRow_heap _ _ _ _ _ _ (heap_alloc_last w _)
  refine xH hg ty x y ho w.heap.size cells hx hy t old (heap_alloc_last w _) hi hold h1 (h _ (below_setRow (ag w _) (Nat.le_refl _) _) (by simp [World.setRow]) hh (Row.lh hh) ⟨by simp [World.setRow], fun k ob hk hc => ?_⟩)
  have hkl := (aZ.1 hk).1
  rw [setRow_other _ _ k _ (by omega), Below.heap_alloc _ _ _ hkl]
  exact hk
end
def Di (x : Tb) (i : Nat) : Bool := decide (x.version = (i : Int) + 1) && (decide (0 ≤ x.aJ) && decide (x.aJ ≤ (i : Int)))
def GK (ts : List eF) : Bool := (List.range ts.length).all fun i => match ts[i]? with | some x => Di x.t i | none => true
def iD (st : Int × List Bool) (x : Nat × eF) : Int × List Bool :=
  if st.2[x.1 + 1]?.getD false = true then st
  else (if st.1 < 0 ∧ (x.2.t.aJ = 0 ∨ 0 < x.2.zs.length) then (x.1 : Int) else st.1, if 0 < x.2.t.aJ then st.2.set x.2.t.aJ.toNat true else st.2)
def dN (ts : List eF) (pre : List (El ts)) : Int × List Bool := pre.foldl (fun st x => iD st x.1) (-1, List.replicate (ts.length + 1) false)
def uM (ts : List eF) : Int × Bool := if GK ts = true then ((dN ts (Ju ts ts.length)).1, true) else (0, false)
theorem EG (ts : List eF) (pre : List (El ts)) (x : El ts) : dN ts (pre ++ [x]) = iD (dN ts pre) x.1 := by simp [dN]
theorem GY (ts : List eF) (pre : List (El ts)) : (dN ts pre).2.length = ts.length + 1 := by
  unfold dN
  have : ∀ (l : List (El ts)) (st : Int × List Bool), (l.foldl (fun st x => iD st x.1) st).2.length = st.2.length := by
    intro l
    induction l with
    | nil => intro st; rfl
    | cons x l ih =>
      intro st
      rw [List.foldl_cons, ih]
      unfold iD
      split
      · rfl
      · dsimp only
        split
        · simp
        · rfl
  rw [this]
  simp
theorem EH (p : Int) (gl : List Bool) (x : Nat × eF) (r : Nat) (hr : x.1 + 1 = r) (hb : gl[r]? = some true) : iD (p, gl) x = (p, gl) := by
  unfold iD
  dsimp only
  rw [hr, hb]
  rfl
theorem JC (p : Int) (gl : List Bool) (x : Nat × eF) (r m z : Nat) (hr : x.1 + 1 = r) (hb : gl[r]? = some false) (hm : x.2.t.aJ = (m : Int)) (hz : x.2.zs.length = z) :
    iD (p, gl) x = (if p < 0 ∧ (m = 0 ∨ 0 < z) then (x.1 : Int) else p, if 0 < m then gl.set m true else gl) := by
  unfold iD
  dsimp only
  rw [hr, hb, hm, hz, Int.toNat_natCast]
  simp only [Option.getD_some, Int.natCast_eq_zero, Int.natCast_pos]
  rfl
theorem LJ {ts : List eF} (h : GK ts = true) (i : Nat) (x : eF) (hx : ts[i]? = some x) : Di x.t i = true := by
  unfold GK at h
  rw [List.all_eq_true] at h
  have h1 := h i (List.mem_range.2 (iU.1 hx).1)
  rwa [hx] at h1
theorem Uo {ts : List eF} (i : Nat) (x : eF) (hx : ts[i]? = some x) (h : Di x.t i = false) : GK ts = false := by
  cases hc : GK ts with
  | false => rfl
  | true => rw [LJ hc i x hx] at h; cases h
theorem Qk {ts : List eF} (h : ∀ j x, ts[j]? = some x → Di x.t j = true) : GK ts = true := by
  unfold GK
  rw [List.all_eq_true]
  intro i hi
  have hl := List.mem_range.1 hi
  rw [dE hl]
  exact h i _ (dE hl)
theorem JV (n : Nat) (hn : n ≤ 100000) (W : World) : (Instr.makeSlice 141 (.int .i64 (n : Int)) (.int .i64 (n : Int))).run Tryz.prog W = .ok (.slice (some ⟨W.heap.size, 0, none⟩) n n) (W.alloc (.cells (Array.replicate n (.bool false)) 4)) := by
  have hib : (Tryz.prog.info? 4).map (fun i => (i.zero, i.size, i.bytes)) = some (some (.bool false), 1, 1) := by kernel_rfl
  obtain ⟨i0, hi, hz0, hz1, hz2⟩ := info_parts hib
  rw [run_makeSlice (P := Tryz.prog) (w := W) 141 4 i0 (.bool false) Tryz.underlying141 hi hz0 .i64 .i64 n n (by omega) (by omega) (by rw [hz1]; omega) (by rw [hz2]; omega) (by omega), hz1]
  have e : madeCells (Value.bool false).cells (((n : Int).toNat) * 1) = Array.replicate n (.bool false) := by
    apply Array.ext'
    simp [madeCells, Value.cells, Nat.mod_one]
    apply List.ext_getElem
    · simp
    · intro j h1 h2; simp
  rw [e]
  simp
structure CI (w : World) (N n : Nat) (p : Int) (gl : List Bool) (W : World) : Prop where
  best : Boxed W N 3 (I p)
  gone : Boxed W (N + 2) 141 (.slice (some ⟨N + 1, 0, none⟩) (n + 1) (n + 1))
  row : W.heap[N + 1]? = some (.cells (gl.map Value.bool).toArray 4 (0, 0))
  up : Below w.heap.size w W
  sz : N + 3 < W.heap.size
section
variable {w W W' : World} {N n : Nat} {p : Int} {gl : List Bool}
theorem CI.grow (h : CI w N n p gl W) (hb : Below W.heap.size W W') : CI w N n p gl W' := by
  have hs := h.sz
  exact ⟨(hb.block _ (by omega)).trans h.best, (hb.block _ (by omega)).trans h.gone, (hb.block _ (by omega)).trans h.row, ah h.up hb, dR h.sz hb.size⟩
theorem CI.MM (h : CI w N n p gl W) (hN : w.heap.size ≤ N) (v : Int) : CI w N n v gl (W.setCell ⟨N, 0, none⟩ (I v)) :=
  ⟨h.best.set _, h.gone.other (by omega) _, (heap_setCell_other W _ _ _ (by show N + 1 ≠ N; omega)).trans h.row, h.up.setCell (p := ⟨N, 0, none⟩) hN _, by simpa [World.setCell] using h.sz⟩
theorem CI.Vl (h : CI w N n p gl W) (hN : w.heap.size ≤ N) (m : Nat) : CI w N n p (gl.set m true) (W.setCell ⟨N + 1, m, none⟩ (.bool true)) := by
  refine ⟨(heap_setCell_other W _ _ _ (by show N ≠ N + 1; omega)).trans h.best, (heap_setCell_other W _ _ _ (by show N + 2 ≠ N + 1; omega)).trans h.gone, ?_, h.up.setCell (p := ⟨N + 1, m, none⟩) (by show w.heap.size ≤ N + 1; omega) _, by simpa [World.setCell] using h.sz⟩
  rw [heap_setCell_same W _ m _ _ _ h.row]
  simp [List.map_set]
theorem GL (hN : w.heap.size ≤ N) {o j : Nat} (hj : j ≤ 2) (v : Value) : BK w.heap.size (N + 3) W (W.setCell ⟨N + j, o, none⟩ v) :=
  ⟨(Below.refl _ W).setCell (p := ⟨N + j, o, none⟩) (by show w.heap.size ≤ N + j; omega) _, World.cell?_setCell_other _ _ _ _ (by intro e; have := congrArg Addr.block e; simp only at this; omega)⟩
end
theorem Yz {β : Type} {w : World} {N n B : Nat} (hB : w.heap.size ≤ B) (f : β → Int × List Bool) : OwnFrom B (fun s W => CI w N n (f s).1 (f s).2 W) := fun s X Y row hs hg hr => by
  have key : ∀ k cs t, X.heap[k]? = some (Obj.cells cs t (0, 0)) → Y.heap[k]? = X.heap[k]? := fun k cs t hk =>
    hg.block k (aZ.1 hk).1 fun e => by
      obtain ⟨_, o, ho, hc⟩ := hr k e.symm
      rw [hk] at ho; cases ho; cases hc
  exact ⟨(key _ _ _ hs.best).trans hs.best, (key _ _ _ hs.gone).trans hs.gone, (key _ _ _ hs.row).trans hs.row, hs.up.grown hg hs.up.size (fun k e => Nat.le_trans hB (hr k e).1), dR hs.sz hg.size⟩
theorem qy {β : Type} {B : Nat} (b : Nat) (t : TypeId) (cs : Array Value) : OwnFrom B (fun (_ : β) W => W.heap[b]? = some (.cells cs t (0, 0))) := fun s X Y row hs hg hr => by
  refine (hg.block b (aZ.1 hs).1 fun e => ?_).trans hs
  obtain ⟨_, o, ho, hc⟩ := hr b e.symm
  rw [hs] at ho; cases ho; cases hc
def TB (w : World) (ts : List eF) (e : Ending) (w' : World) : Prop := ∃ p b, e = .returned (.tuple #[I p, .bool b]) ∧ uM ts = (p, b) ∧ Below w.heap.size w w'
theorem zK {w : World} {B : Nat} {A : Option Addr} {ts : List eF} (h : jR w B A ts) : ts.length = 0 ∨ ∃ b off, A = some ⟨b, off, none⟩ ∧ b < B ∧ rJ w b off ts := by
  have hl := dJ (s := 68) eF.cells ts fun x hx => (h.each x hx).size
  rcases h.row with h0 | ⟨b, off, h1, h2, h3⟩
  · exact .inl (by omega)
  · exact .inr ⟨b, off, h1, h2, fun j x hx => ⟨aB.elem (fun x hx => (h.each x hx).size) h3 j x hx, (h.each x (fK hx)).size⟩⟩
def Cur1 (w : World) (ts : List eF) (n : Nat) (i : Value) (wr : World) : Prop := ∃ k : Nat, k ≤ n ∧ i = .int .i64 k ∧ (∀ j x, j < k → ts[j]? = some x → Di x.t j = true) ∧ Below w.heap.size w wr
theorem yu (A : Option Addr) (c n : Nat) (ts : List eF) (w : World) (hn : ts.length = n) (hn1 : n ≤ 1000) (h : jR w w.heap.size A ts) :
    Calls Tryz.prog 38 #[.slice A n c] w (TB w ts) := by
  refine (callsIn_wide (n := 3)).1 ?_
  have hro : Fence.wide.round = none := rfl
  have h1 : 1 ≤ 3 := by omega
  have HN := ae hn
  have HT := ae (zK h)
  have H1 : Hid (∀ x ∈ ts, x.cells.length = 68) := ae fun x hx => (h.each x hx).size
  clear h hn
  refine callsIn_of_wp_marks Tryz.func38 rfl trivial ?_ hro
  simp only [Tryz.ntmps38, List.size_toArray, List.length_cons, List.length_nil, Nat.reduceAdd, Nat.reduceSub, Array.replicate_succ, Array.replicate_zero, List.push_toArray, List.append_toArray, List.nil_append, List.cons_append]
  gi_wp2
  gi_loopw [12] (fun i wr => Cur1 w ts n i wr) (fun i _ => n - (intOf i).toNat)
  case atStart => exact ⟨0, Nat.zero_le _, rfl, fun j x hj => absurd hj (Nat.not_lt_zero _), Below.refl _ _⟩
  case round =>
    obtain ⟨k, hk, rfl, hall, hb⟩ := hrel
    have kS := ae hall
    have HB := ae hb
    clear hall hb
    by_cases hlt : k < n
    · have hkl : k < ts.length := by rw [HN.out]; exact hlt
      obtain ⟨x, hx⟩ : ∃ x, ts[k]? = some x := ⟨_, dE hkl⟩
      have h68 := H1.out x (fK hx)
      obtain ⟨b, off, rfl, hbw, htab⟩ : ∃ b off, A = some ⟨b, off, none⟩ ∧ b < w.heap.size ∧ rJ w b off ts := by
        rcases HT.out with h0 | h0
        · omega
        · exact h0
      have HX := ae hx
      have Le : Hid (wr.rangeAt b (off + k * 68) x.cells) := ae (aU (htab k x hx).1 HB.out hbw)
      have dM : Hid ((Tryz.prog.info? 32).map (·.size) = some x.cells.length) := ae (by rw [h68]; kernel_rfl)
      have ng : Hid ((Tryz.prog.info? 32).map (·.size) = some x.cells.toArray.size) := ae (by rw [List.size_toArray, h68]; kernel_rfl)
      have HZS : Hid (Tryz.zeroCells32.size = x.cells.toArray.size) := ae ((show Tryz.zeroCells32.size = 68 by kernel_rfl).trans (by rw [List.size_toArray, h68]))
      have i0 : (0 : Int) ≤ (k : Int) := by omega
      have i1 : (k : Int) < (n : Int) := by omega
      have hw : IntKind.i64.wrap ((k : Int) + 1) = (k : Int) + 1 := by rw [IntKind.wrap_i64]; omega
      clear hkl hx h68 htab
      gi_wp2_with (first
        | ((with_reducible refine EL 32 ?_); refine nG rfl _ _ rfl b (off + k * 68) rfl x.cells _ Le.out Tryz.underlying32 rfl dM.out ?_)
        | ((with_reducible refine mM 32 ?_); refine dW rfl _ _ _ rfl x.cells.toArray rfl rfl 32 Tryz.zeroCells32 rfl ng.out HZS.out (bf _ _ _ _) ?_; intro W5 hb5 hs5 hf5 oL hk5; have c1 : W5.cell? ⟨wr.heap.size, 1, none⟩ = some (I x.t.version) := oL.2 1; have c2 : W5.cell? ⟨wr.heap.size, 2, none⟩ = some (I x.t.aJ) := oL.2 2; have kT := ae (ah HB.out hb5); clear hb5 hs5 hf5 oL hk5))
      all_goals first
        | (refine ⟨⟨k + 1, by omega, by go_num, fun j y hj hy => ?_, kT.out⟩, by simp [intOf]; omega⟩
           by_cases hjk : j < k
           · exact kS.out j y hjk hy
           · have e : j = k := by omega
             subst e
             have e2 : x = y := by have h1 := HX.out; rw [hy] at h1; injection h1 with h1; exact h1.symm
             subst e2
             unfold Di
             rw [decide_eq_true (by omega), decide_eq_true (by omega), decide_eq_true (by omega)]
             rfl)
        | (have hno : Di x.t k = false := by
             cases hq : Di x.t k with
             | false => rfl
             | true => exfalso; unfold Di at hq; simp only [Bool.and_eq_true, decide_eq_true_eq] at hq; omega
           have PG := ae hno
           clear hno
           refine ⟨_, results_tmp2 rfl _ _ _, ?_⟩
           exact ⟨0, false, rfl, by unfold uM; rw [Uo k x HX.out PG.out]; rfl, kT.out⟩)
    · have hke : k = n := by omega
      have Po : Hid (GK ts = true) := ae (Qk fun j x hx => kS.out j x (by have h1 := (iU.1 hx).1; have := HN.out; omega) hx)
      have PE : Hid (Below w.heap.size w wr) := HB
      have hmk : ∀ W, (Instr.makeSlice 141 (.int .i64 ((n : Int) + 1)) (.int .i64 ((n : Int) + 1))).run Tryz.prog W = .ok (.slice (some ⟨W.heap.size, 0, none⟩) (n + 1) (n + 1)) (W.alloc (.cells (Array.replicate (n + 1) (.bool false)) 4)) := fun W => JV (n + 1) (by omega) W
      have hnl : ¬ (k : Int) < (n : Int) := by omega
      clear hke
      gi_wp2_with (refine ⟨trivial, ?_⟩; gi_at_call 60; refine (Qe Fence.wide 2 trivial hro _ _ _ _).mono ?_; rintro e w' ⟨rfl, rfl⟩)
      have hsz0 : (((wr.alloc (.cells #[I (-1)] 3)).alloc (.cells (Array.replicate (n + 1) (.bool false)) 4)).alloc (.cells #[.slice (some ⟨wr.heap.size + 1, 0, none⟩) (n + 1) (n + 1)] 141)).heap.size = wr.heap.size + 3 := by simp
      obtain ⟨Wx, QH⟩ : ∃ Wx, ((wr.alloc (.cells #[I (-1)] 3)).alloc (.cells (Array.replicate (n + 1) (.bool false)) 4)).alloc (.cells #[.slice (some ⟨wr.heap.size + 1, 0, none⟩) (n + 1) (n + 1)] 141) = Wx := ⟨_, rfl⟩
      have hbx : Below wr.heap.size wr Wx := by rw [← QH]; exact (((Below.refl _ wr).alloc (Nat.le_refl _) _).alloc (by simp) _).alloc (by simp; omega) _
      have hB0 : Wx.heap[wr.heap.size]? = some (.cells #[I (-1)] 3 (0, 0)) := by rw [← QH]; exact (Below.heap_alloc _ _ _ (by simp; omega)).trans ((Below.heap_alloc _ _ _ (by simp)).trans (heap_alloc_last wr _))
      have hB1 : Wx.heap[wr.heap.size + 1]? = some (.cells (Array.replicate (n + 1) (.bool false)) 4 (0, 0)) := by rw [← QH]; have h2 := heap_alloc_last (wr.alloc (.cells #[I (-1)] 3)) (.cells (Array.replicate (n + 1) (.bool false)) 4); rw [World.size_alloc] at h2; exact (Below.heap_alloc _ _ _ (by simp)).trans h2
      have hB2 : Wx.heap[wr.heap.size + 2]? = some (.cells #[.slice (some ⟨wr.heap.size + 1, 0, none⟩) (n + 1) (n + 1)] 141 (0, 0)) := by rw [← QH]; have h2 := heap_alloc_last ((wr.alloc (.cells #[I (-1)] 3)).alloc (.cells (Array.replicate (n + 1) (.bool false)) 4)) (.cells #[.slice (some ⟨wr.heap.size + 1, 0, none⟩) (n + 1) (n + 1)] 141); rw [World.size_alloc, World.size_alloc] at h2; exact h2
      rw [QH] at hsz0 ⊢
      have bS := Boxed.new Wx 39 (.slice A n c)
      have hb4 := ag Wx (.cells #[.slice A n c] 39)
      obtain ⟨W0, hW0⟩ : ∃ W0, Wx.alloc (.cells #[.slice A n c] 39) = W0 := ⟨_, rfl⟩
      have hsz4 : W0.heap.size = wr.heap.size + 4 := by rw [← hW0, World.size_alloc, hsz0]
      rw [hW0] at bS hb4 ⊢
      rw [hsz0] at bS hb4
      have UJ : w.heap.size ≤ wr.heap.size := HB.out.size
      have hCI : CI w wr.heap.size n (-1) (List.replicate (n + 1) false) W0 := ⟨(hb4.block _ (by omega)).trans hB0, (hb4.block _ (by omega)).trans hB2, by rw [hb4.block _ (by omega), hB1]; simp, (HB.out.trans (hbx.mono UJ)).trans (hb4.mono (by omega)), by omega⟩
      have Xb : ts.length = 0 ∨ ∃ b off, A = some ⟨b, off, none⟩ ∧ b < w.heap.size ∧ rJ W0 b off ts := HT.out.imp id fun ⟨b, off, h1, h2, h3⟩ => ⟨b, off, h1, h2, fun j x hx => ⟨aU (h3 j x hx).1 hCI.up h2, (h3 j x hx).2⟩⟩
      have hst := Gz Fence.wide (3 - 1) trivial hro (by omega) (wr.heap.size + 3) w.heap.size A c ts (by have := HN.out; omega) W0 (by omega) (by omega) (by rw [HN.out]; exact bS.cell) Xb
      rw [HN.out] at hst
      clear QH hbx hB0 hB1 hB2 bS hb4 hW0 hsz0 Xb hmk
      refine wpIn_rangeFunc_ownH hro h1 (gf := 84) (lb := #[.pointer (some ⟨wr.heap.size + 3, 0, none⟩)]) rfl trivial (enters_of Tryz.func84 (by kernel_rfl) rfl)
        hst (fun h k => h.trans k) (Yv (by omega) (by omega)) (Below.refl _ _) (fun _ => rfl)
        (fun pre W => CI w wr.heap.size n (dN ts pre).1 (dN ts pre).2 W)
        (fun _ _ _ => False)
        (Yz (by omega) _)
        (fun _ _ _ _ _ hs _ _ => hs)
        (by unfold dN; rw [HN.out]; exact hCI)
        (fun x a' W => ∃ B, wr.heap.size + 3 < B ∧ W.heap[B]? = some (.cells x.1.2.cells.toArray 32 (0, 0)) ∧ a' = ({ tmps := #[.slice A n c, undef, u2, u3, u4, u5, .pointer (some ⟨wr.heap.size, 0, none⟩), .pointer (some ⟨wr.heap.size + 1 + 1, 0, none⟩), I x.1.1, .pointer (some ⟨B, 0, none⟩), .slice A n c, I n, I k, .bool false, u14, u15, u16, u17, u18, u19, u20, u21, u22, u23, u24, u25, u26, u27, u28, u29, u30, u31, u32, u33, .slice A n c, I n, I (n + 1), .slice (some ⟨wr.heap.size + 1, 0, none⟩) (n + 1) (n + 1), .slice A n c, .func (.func 84) #[] #[.pointer (some ⟨wr.heap.size + 1 + 1 + 1, 0, none⟩)], I x.1.1, .agg x.1.2.cells.toArray, undef, undef, undef, undef, undef, undef, undef, undef, undef, undef, undef, undef, undef, undef, undef, undef, undef, undef, undef, undef, undef, undef, undef, undef, undef, undef, undef], defers := [] } : Act))
        (fun x a' _ X Y row hs hg hr => by obtain ⟨B, h1, h2, h3⟩ := hs; exact ⟨B, h1, qy B _ _ () X Y row h2 hg hr, h3⟩)
        ?assign ?body ?done ?stop
      case assign =>
        rintro l pre x W K hci hK
        have h68 := H1.out x.1.2 (fK x.2)
        have ng : Hid ((Tryz.prog.info? 32).map (·.size) = some x.1.2.cells.toArray.size) := ae (by rw [List.size_toArray, h68]; kernel_rfl)
        have HZS : Hid (Tryz.zeroCells32.size = x.1.2.cells.toArray.size) := ae ((show Tryz.zeroCells32.size = 68 by kernel_rfl).trans (by rw [List.size_toArray, h68]))
        have IW := ae hci
        have hsz := hci.sz
        have hup := hci.up.size
        clear hci h68
        gi_wp2_with ((with_reducible refine mM 32 ?_); refine dW rfl _ _ _ rfl x.1.2.cells.toArray rfl rfl 32 Tryz.zeroCells32 rfl ng.out HZS.out (bf _ _ _ _) ?_; intro W5 hb5 hs5 hh5 oL hk5; have kT := ae hb5; have Np := ae hh5; have tu := ae hk5; clear hb5 hs5 hh5 oL hk5)
        exact hK _ _ (tu.out.from _) ⟨kT.out.mono hup, kT.out.cell (p := ⟨wr.heap.size + 3, 0, none⟩) hsz⟩ (IW.out.grow kT.out) ⟨W.heap.size, hsz, Np.out, rfl⟩
      case body =>
        rintro l pre x a' W hl _ hci ⟨B, hB, hblk, rfl⟩ hlt2
        have htb := LJ Po.out x.1.1 x.1.2 x.2
        have hxl : x.1.1 < n := by have h1 := (iU.1 x.2).1; have := HN.out; omega
        unfold Di at htb
        simp only [Bool.and_eq_true, decide_eq_true_eq] at htb
        obtain ⟨hv, hw0, hw1⟩ := htb
        obtain ⟨⟨p, gl⟩, hst⟩ : ∃ st, dN ts pre = st := ⟨_, rfl⟩
        have hgl : gl.length = n + 1 := by have h := GY ts pre; rw [hst, HN.out] at h; exact h
        rw [hst] at hci
        have Z5 : Hid (dN ts (pre ++ [x]) = iD (p, gl) x.1) := ae (by rw [EG, hst])
        clear hst
        have hc1 : W.cell? ⟨B, 1, none⟩ = some (I x.1.2.t.version) := cell_of_row W B 1 _ _ _ hblk
        have hc2 : W.cell? ⟨B, 2, none⟩ = some (I x.1.2.t.aJ) := cell_of_row W B 2 _ _ _ hblk
        have hc3 : W.cell? ⟨B, 3, none⟩ = some (.slice x.1.2.A x.1.2.zs.length x.1.2.c) := cell_of_row W B 3 _ _ _ hblk
        obtain ⟨m, hm⟩ : ∃ m : Nat, x.1.2.t.aJ = (m : Int) := ⟨_, (Int.toNat_of_nonneg hw0).symm⟩
        obtain ⟨r, hr⟩ : ∃ r : Nat, x.1.1 + 1 = r := ⟨_, rfl⟩
        have hvr : x.1.2.t.version = (r : Int) := by omega
        obtain ⟨z, hz⟩ : ∃ z, x.1.2.zs.length = z := ⟨_, rfl⟩
        obtain ⟨b, hb⟩ : ∃ b, gl[r]? = some b := ⟨_, dE (by omega)⟩
        obtain ⟨b2, hb2⟩ : ∃ b, gl[m]? = some b := ⟨_, dE (by omega)⟩
        rw [hvr] at hc1
        rw [hm] at hc2
        rw [hz] at hc3
        have cB := hci.best.cell
        have cG := hci.gone.cell
        have fB := hci.best.frozen
        have hfz : ∀ i, W.frozen? ⟨wr.heap.size + 1, i, none⟩ = false := fun i => frozen_of_row _ _ i _ _ hci.row
        have hgc : ∀ j b, gl[j]? = some b → W.cell? ⟨wr.heap.size + 1, j, none⟩ = some (.bool b) := fun j b hj => by rw [cell_of_row W _ j _ _ _ hci.row]; simp [hj]
        have g1 := hgc _ _ hb
        have g2 := hgc _ _ hb2
        have IW := ae hci
        have r0 : (0 : Int) ≤ (r : Int) := by omega
        have r1 : (r : Int) < (n : Int) + 1 := by omega
        have m0 : (0 : Int) ≤ (m : Int) := by omega
        have m1 : (m : Int) < (n : Int) + 1 := by omega
        have n1 : ¬ B = wr.heap.size + 1 := by omega
        have n2 : ¬ B = wr.heap.size := by omega
        clear hci hgc hv hw0 hw1 hvr hb2 hgl hblk
        cases b with
        | true =>
          have HS := ae (EH p gl x.1 r hr hb)
          clear hm hz hr hb
          gi_wp2
          exact ⟨KeepsFrom.refl _ _, BK.refl _ _ _, by show CI w wr.heap.size n (dN ts (pre ++ [x])).1 (dN ts (pre ++ [x])).2 _; rw [Z5.out, HS.out]; exact IW.out⟩
        | false =>
          have HG := ae (JC p gl x.1 r m z hr hb hm hz)
          clear hm hz hr hb
          by_cases hm0 : 0 < m
          · have jf := ae (IW.out.Vl UJ m)
            by_cases hp : p < 0
            · by_cases hz0 : 0 < z
              · have HS : Hid (iD (p, gl) x.1 = ((x.1.1 : Int), gl.set m true)) := ae (by rw [HG.out, if_pos ⟨hp, .inr hz0⟩, if_pos hm0])
                gi_wp2
                exact ⟨((KeepsOthers.setCell _ _ _).trans (KeepsOthers.setCell _ _ _)).from _, (GL (N := wr.heap.size) (o := m) (j := 1) UJ (by omega) _).trans (GL (N := wr.heap.size) (o := 0) (j := 0) UJ (by omega) _), by show CI w wr.heap.size n (dN ts (pre ++ [x])).1 (dN ts (pre ++ [x])).2 _; rw [Z5.out, HS.out]; exact jf.out.MM UJ _⟩
              · have hzz : z = 0 := by omega
                have HS : Hid (iD (p, gl) x.1 = (p, gl.set m true)) := ae (by rw [HG.out, if_neg (by omega), if_pos hm0])
                gi_wp2
                exact ⟨(KeepsOthers.setCell _ _ _).from _, GL (N := wr.heap.size) (o := m) (j := 1) UJ (by omega) _, by show CI w wr.heap.size n (dN ts (pre ++ [x])).1 (dN ts (pre ++ [x])).2 _; rw [Z5.out, HS.out]; exact jf.out⟩
            · have HS : Hid (iD (p, gl) x.1 = (p, gl.set m true)) := ae (by rw [HG.out, if_neg (by omega), if_pos hm0])
              gi_wp2
              all_goals first
                | (exact ⟨(KeepsOthers.setCell _ _ _).from _, GL (N := wr.heap.size) (o := m) (j := 1) UJ (by omega) _, by show CI w wr.heap.size n (dN ts (pre ++ [x])).1 (dN ts (pre ++ [x])).2 _; rw [Z5.out, HS.out]; exact jf.out⟩)
                | (rename_i _ _ h _; exact absurd h (by simp [undef]))
          · have hmz : m = 0 := by omega
            by_cases hp : p < 0
            · have HS : Hid (iD (p, gl) x.1 = ((x.1.1 : Int), gl)) := ae (by rw [HG.out, if_pos ⟨hp, .inl hmz⟩, if_neg hm0])
              gi_wp2
              exact ⟨(KeepsOthers.setCell _ _ _).from _, GL (N := wr.heap.size) (o := 0) (j := 0) UJ (by omega) _, by show CI w wr.heap.size n (dN ts (pre ++ [x])).1 (dN ts (pre ++ [x])).2 _; rw [Z5.out, HS.out]; exact IW.out.MM UJ _⟩
            · have HS : Hid (iD (p, gl) x.1 = (p, gl)) := ae (by rw [HG.out, if_neg (by omega), if_neg hm0])
              gi_wp2
              all_goals first
                | (exact ⟨KeepsFrom.refl _ _, BK.refl _ _ _, by show CI w wr.heap.size n (dN ts (pre ++ [x])).1 (dN ts (pre ++ [x])).2 _; rw [Z5.out, HS.out]; exact IW.out⟩)
                | (rename_i _ _ h _; exact absurd h (by simp [undef]))
      case done =>
        rintro D ys W hD rfl hci hK
        have cB := hci.best.cell
        have IW := ae hci
        clear hci
        gi_wp2
        refine ⟨by simp, .inl ⟨_, _, rfl, run_takeDeferred hK, ?_⟩⟩
        refine ⟨_, results_tmp2 rfl _ _ _, ?_⟩
        exact ⟨_, true, rfl, by unfold uM; rw [Po.out, HN.out]; rfl, IW.out.up.trans (belowK_b (w := W0) (n₀ := w.heap.size) (by omega) W D _ (.deferred none) hD hK rfl rfl)⟩
      case stop =>
        rintro D c pre W _ _ h _
        exact h.elim
end Go.Proofs.YtdibbemgpikgjaaGreat
namespace Go.Proofs.YtdibbemgpikgjaaGreat
open Go Go.RowKit
def CX (lo g:Nat) (w:World) (A:Option Addr) (cs:List Value):Prop:=
 cs.length=0∨∃b off,A=some ⟨b,off,none⟩∧lo≤b∧b<w.heap.size∧b≠g∧∀j u,cs[j]? =some u→w.cell? ⟨b,off+j,none⟩=some u
theorem CX.aQ {lo g:Nat} {w w':World} {A:Option Addr} {cs:List Value} (h:CX lo g w A cs) (hs:w.heap.size≤w'.heap.size) (hb:∀k,lo≤k→k<w.heap.size→k≠g→w'.heap[k]? =w.heap[k]?):CX lo g w' A cs:=by
 rcases h with h|⟨b,off,h1,h2,h3,h4,h5⟩
 ·exact .inl h
 ·exact .inr ⟨b,off,h1,h2,dR h3 hs,h4,fun j u hu=>(World.cell?_of_block (a:=⟨b,off+j,none⟩) (hb b h2 h3 h4)).trans (h5 j u hu)⟩
theorem CX.off {lo g g':Nat} {w:World} {A:Option Addr} {cs:List Value} (h:CX lo g w A cs) (hg:g'<lo):CX lo g' w A cs:=by
 rcases h with h|⟨b,off,h1,h2,h3,_,h5⟩
 ·exact .inl h
 ·exact .inr ⟨b,off,h1,h2,h3,by omega,h5⟩
theorem CX.lower {lo lo' g:Nat} {w:World} {A:Option Addr} {cs:List Value} (h:CX lo g w A cs) (hl:lo'≤lo):CX lo' g w A cs:=by
 rcases h with h|⟨b,off,h1,h2,h3,h4,h5⟩
 ·exact .inl h
 ·exact .inr ⟨b,off,h1,by omega,h3,h4,h5⟩
theorem CX.dZ {B g e size n c:Nat} {A:Option Addr} {w:World} {cs:List Value} (h:w.ownsRow B e size (.slice A n c) n cs) (hg:g<B):CX B g w A cs:=by
 rcases h.2 with ⟨hv,hn⟩|⟨b,cap,cur,hv,hb,hh,_⟩
 ·refine .inl ?_;rw [h.1,hn,Nat.zero_mul]
 ·injection hv with h1 _ _;subst h1;exact .inr ⟨b,0,rfl,hb,(aZ.1 hh).1,by omega,fun j u hu=>by rw [Nat.zero_add,←addr_add];exact h.cells (g:=b) rfl j u hu⟩
structure LH (lo g:Nat) (w:World) (s:Zs) (z:Zn):Prop where
 au:CX lo g w s.A (z.cal.au.map I)
 rules:CX lo g w s.B (z.cal.rules.flatMap Lr.cells)
 trans:CX lo g w s.C (z.trans.flatMap Tr.cells)
 ay:CX lo g w s.D (z.ay.flatMap Yr.cells)
section
variable {lo lo' g g':Nat} {w w':World} {s:Zs} {z:Zn}
theorem LH.aQ (h:LH lo g w s z) (hs:w.heap.size≤w'.heap.size) (hb:∀k,lo≤k→k<w.heap.size→k≠g→w'.heap[k]? =w.heap[k]?):LH lo g w' s z:=
 ⟨h.au.aQ hs hb,h.rules.aQ hs hb,h.trans.aQ hs hb,h.ay.aQ hs hb⟩
theorem LH.off (h:LH lo g w s z) (hg:g'<lo):LH lo g' w s z:=⟨h.au.off hg,h.rules.off hg,h.trans.off hg,h.ay.off hg⟩
theorem LH.lower (h:LH lo g w s z) (hl:lo'≤lo):LH lo' g w s z:=⟨h.au.lower hl,h.rules.lower hl,h.trans.lower hl,h.ay.lower hl⟩
end
structure oQ (z:Zn):Prop where
 au:z.cal.au.length≤10000
 rules:z.cal.rules.length≤10000
 trans:z.trans.length≤10000
 ay:z.ay.length≤10000
def iQ:Array Value:= #[I 0, .slice none 0 0,I 0, .slice none 0 0,I 0, .slice none 0 0,I 0, .slice none 0 0]
structure FV (w:World) (cs:Array Value) (W:World):Prop where
 var:W.heap[w.heap.size]? =some (.cells cs 51 (0,0))
 res:W.heap[w.heap.size+1]? =some (.cells iQ 51 (0,0))
 up:Below w.heap.size w W
section
variable {w W W':World} {cs:Array Value}
theorem FV.lt (h:FV w cs W):w.heap.size+1<W.heap.size:=(aZ.1 h.res).1
theorem FV.grow (h:FV w cs W) (hb:Below W.heap.size W W'):FV w cs W':=
 ⟨(hb.block _ (by have:=h.lt;omega)).trans h.var,(hb.block _ h.lt).trans h.res,ah h.up hb⟩
theorem FV.store (h:FV w cs W) (o:Nat) (v:Value):FV w (cs.setIfInBounds o v) (W.setCell ⟨w.heap.size,o,none⟩ v):=
 ⟨heap_setCell_same W _ o _ _ _ h.var,(heap_setCell_other W _ _ v (by show w.heap.size+1≠w.heap.size;omega)).trans h.res,h.up.setCell (p:=⟨w.heap.size,o,none⟩) (Nat.le_refl _) _⟩
theorem FV.start (w:World) (cs:Array Value):FV w cs ((w.alloc (.cells cs 51)).alloc (.cells iQ 51)):=
 ⟨heap_alloc2_old w _ _,heap_alloc2_new w _ _,ah (ag w _) (ag _ _)⟩
theorem FV.row (h:FV w cs W):Row W w.heap.size cs:=⟨by have:=h.lt;omega,fun i=>cell_of_row W _ i _ _ _ h.var⟩
end
theorem mr {w W:World} {o:Nat} {v:Value} {lo g:Nat} {A:Option Addr} {cs:List Value} (h:CX lo g W A cs) (hlo:w.heap.size+2≤lo):CX lo g (W.setCell ⟨w.heap.size,o,none⟩ v) A cs:=
 h.aQ (by simp [World.setCell]) fun k h1 _ _=>heap_setCell_other W _ k _ (by show k≠w.heap.size;omega)
def CzQ (w:World) (z:Zn) (e:Ending) (w':World):Prop:=∃s,e= .returned (.agg (aj z s))∧LH w.heap.size w.heap.size w' s z∧Below w.heap.size w w'
theorem VK (z:Zn) (s:Zs):(aj z s)[1]? =some (.slice s.A z.cal.au.length s.a):=rfl
theorem VL (z:Zn) (s:Zs):(aj z s)[3]? =some (.slice s.B z.cal.rules.length s.b):=rfl
theorem VM (z:Zn) (s:Zs):(aj z s)[5]? =some (.slice s.C z.trans.length s.c):=rfl
theorem VN (z:Zn) (s:Zs):(aj z s)[7]? =some (.slice s.D z.ay.length s.d):=rfl
attribute [local go_sem] VK VL VM VN
theorem rQ (z:Zn) (s:Zs) (w:World) (hL:oQ z) (hA:gW w w.heap.size s z):Calls Tryz.prog 29 #[.agg (aj z s)] w (CzQ w z):=by
 have HS:=ae (FV.start w (aj z s));have HL:=ae hL;have HA:=ae hA;clear hL hA;go_enter Tryz.func29,Tryz.ntmps29;go_wp2_with (with_reducible refine bn 51 ?_;refine dh rfl _ rfl iQ (by kernel_rfl) ?_);generalize (w.alloc (.cells (aj z s) 51)).alloc (.cells iQ 51)=W0 at HS ⊢;have vM:=HS;have c0:W0.cell? ⟨w.heap.size,1,none⟩=some (.slice s.A z.cal.au.length s.a):=vM.out.row.2 1;have f0:∀i,W0.frozen? ⟨w.heap.size,i,none⟩=false:=fun i=>frozen_of_row _ _ i _ _ vM.out.var;refine (show Calls Tryz.prog _ _ W0 _ from Ur s.A s.a z.cal.au.length (z.cal.au.map I) W0 (HA.out.au.keep vM.out.up |>.more vM.out.up.size) (by rw [List.length_map];omega) (by intro u hu;obtain ⟨q,_,rfl⟩:=List.mem_map.1 hu;rfl) HL.out.au).mono ?_;rintro e w1 ⟨A1,a1,rfl,hown,hb⟩;have TR:=ae (vM.out.grow hb);have hr1:∀i,w1.cell? ⟨w.heap.size,i,none⟩=_:=TR.out.row.2;have hf1:∀i,w1.frozen? ⟨w.heap.size,i,none⟩=false:=fun i=>frozen_of_row _ _ i _ _ TR.out.var;have v1:w1.cell? ⟨w.heap.size,1,none⟩=some (.slice s.A z.cal.au.length s.a):=hr1 1;have hlt1:=vM.out.lt;have n1:w1.cell? ⟨w.heap.size,3,none⟩=some (.slice s.B z.cal.rules.length s.b):=hr1 3;have Jf:Hid (CX (w.heap.size+2) w.heap.size (w1.setCell ⟨w.heap.size,1,none⟩ (.slice A1 z.cal.au.length a1)) A1 (z.cal.au.map I)):=ae (mr ((CX.dZ hown (by omega)).lower (by omega)) (Nat.le_refl _));have uH:Hid (FV w (aj z ⟨A1,a1,s.B,s.b,s.C,s.c,s.D,s.d⟩) (w1.setCell ⟨w.heap.size,1,none⟩ (.slice A1 z.cal.au.length a1))):=ae (TR.out.store 1 (.slice A1 z.cal.au.length a1));clear hown hb hr1 c0 f0;go_wp2_with fail;generalize hW1:w1.setCell ⟨w.heap.size,1,none⟩ (.slice A1 z.cal.au.length a1)=W1 at uH Jf ⊢;have jQ:=uH;have HX1_1:=Jf;have c1:W1.cell? ⟨w.heap.size,3,none⟩=some (.slice s.B z.cal.rules.length s.b):=jQ.out.row.2 3;have f1:∀i,W1.frozen? ⟨w.heap.size,i,none⟩=false:=fun i=>frozen_of_row _ _ i _ _ jQ.out.var;clear v1 n1 hf1 hlt1 uH TR hW1 Jf;refine (show Calls Tryz.prog _ _ W1 _ from Ut s.B s.b z.cal.rules.length (z.cal.rules.flatMap Lr.cells) W1 (HA.out.rules.keep jQ.out.up |>.more jQ.out.up.size) (by rw [dJ (s:=3) Lr.cells _ fun _ _=>rfl]) (EK Lr.cells _ fun x _=>U4 x) HL.out.rules).mono ?_;rintro e w2 ⟨A2,a2,rfl,hown,hb⟩;have TS:=ae (jQ.out.grow hb);have hr2:∀i,w2.cell? ⟨w.heap.size,i,none⟩=_:=TS.out.row.2;have hf2:∀i,w2.frozen? ⟨w.heap.size,i,none⟩=false:=fun i=>frozen_of_row _ _ i _ _ TS.out.var;have v2:w2.cell? ⟨w.heap.size,3,none⟩=some (.slice s.B z.cal.rules.length s.b):=hr2 3;have hlt2:=jQ.out.lt;have n2:w2.cell? ⟨w.heap.size,5,none⟩=some (.slice s.C z.trans.length s.c):=hr2 5;have Jg:=ae (mr (o:=3) (v:= .slice A2 z.cal.rules.length a2) (HX1_1.out.aQ hb.size fun k _ h2 _=>hb.block k h2) (Nat.le_refl _));have Ji:Hid (CX (w.heap.size+2) w.heap.size (w2.setCell ⟨w.heap.size,3,none⟩ (.slice A2 z.cal.rules.length a2)) A2 (z.cal.rules.flatMap Lr.cells)):=ae (mr ((CX.dZ hown (by omega)).lower (by omega)) (Nat.le_refl _));have uH:Hid (FV w (aj z ⟨A1,a1,A2,a2,s.C,s.c,s.D,s.d⟩) (w2.setCell ⟨w.heap.size,3,none⟩ (.slice A2 z.cal.rules.length a2))):=ae (TS.out.store 3 (.slice A2 z.cal.rules.length a2));clear hown hb hr2 c1 f1;go_wp2_with fail;generalize hW2:w2.setCell ⟨w.heap.size,3,none⟩ (.slice A2 z.cal.rules.length a2)=W2 at uH Jg Ji ⊢;have HS2:=uH;have HX1_2:=Jg;have HX2_2:=Ji;have c2:W2.cell? ⟨w.heap.size,5,none⟩=some (.slice s.C z.trans.length s.c):=HS2.out.row.2 5;have f2:∀i,W2.frozen? ⟨w.heap.size,i,none⟩=false:=fun i=>frozen_of_row _ _ i _ _ HS2.out.var;clear v2 n2 hf2 hlt2 uH TS hW2 Jg Ji;refine (show Calls Tryz.prog _ _ W2 _ from Uw s.C s.c z.trans.length (z.trans.flatMap Tr.cells) W2 (HA.out.trans.keep HS2.out.up |>.more HS2.out.up.size) (by rw [dJ (s:=2) Tr.cells _ fun _ _=>rfl]) (EK Tr.cells _ fun x _=>uU x) HL.out.trans).mono ?_;rintro e w3 ⟨A3,a3,rfl,hown,hb⟩;have TT:=ae (HS2.out.grow hb);have hr3:∀i,w3.cell? ⟨w.heap.size,i,none⟩=_:=TT.out.row.2;have hf3:∀i,w3.frozen? ⟨w.heap.size,i,none⟩=false:=fun i=>frozen_of_row _ _ i _ _ TT.out.var;have v3:w3.cell? ⟨w.heap.size,5,none⟩=some (.slice s.C z.trans.length s.c):=hr3 5;have hlt3:=HS2.out.lt
 have n3:w3.cell? ⟨w.heap.size,7,none⟩=some (.slice s.D z.ay.length s.d):=hr3 7;have Jh:=ae (mr (o:=5) (v:= .slice A3 z.trans.length a3) (HX1_2.out.aQ hb.size fun k _ h2 _=>hb.block k h2) (Nat.le_refl _));have Jj:=ae (mr (o:=5) (v:= .slice A3 z.trans.length a3) (HX2_2.out.aQ hb.size fun k _ h2 _=>hb.block k h2) (Nat.le_refl _));have Jk:Hid (CX (w.heap.size+2) w.heap.size (w3.setCell ⟨w.heap.size,5,none⟩ (.slice A3 z.trans.length a3)) A3 (z.trans.flatMap Tr.cells)):=ae (mr ((CX.dZ hown (by omega)).lower (by omega)) (Nat.le_refl _));have uH:Hid (FV w (aj z ⟨A1,a1,A2,a2,A3,a3,s.D,s.d⟩) (w3.setCell ⟨w.heap.size,5,none⟩ (.slice A3 z.trans.length a3))):=ae (TT.out.store 5 (.slice A3 z.trans.length a3));clear hown hb hr3 c2 f2;go_wp2_with fail;generalize hW3:w3.setCell ⟨w.heap.size,5,none⟩ (.slice A3 z.trans.length a3)=W3 at uH Jh Jj Jk ⊢;have mZ:=uH;have HX1_3:=Jh;have HX2_3:=Jj;have HX3_3:=Jk;have c3:W3.cell? ⟨w.heap.size,7,none⟩=some (.slice s.D z.ay.length s.d):=mZ.out.row.2 7;have f3:∀i,W3.frozen? ⟨w.heap.size,i,none⟩=false:=fun i=>frozen_of_row _ _ i _ _ mZ.out.var;clear v3 n3 hf3 hlt3 uH TT hW3 Jh Jj Jk;refine (show Calls Tryz.prog _ _ W3 _ from Uy s.D s.d z.ay.length (z.ay.flatMap Yr.cells) W3 (HA.out.ay.keep mZ.out.up |>.more mZ.out.up.size) (by rw [dJ (s:=5) Yr.cells _ fun _ _=>rfl]) (EK Yr.cells _ fun x _=>vg x) HL.out.ay).mono ?_;rintro e w4 ⟨A4,a4,rfl,hown,hb⟩;have XR:=ae (mZ.out.grow hb);have hr4:∀i,w4.cell? ⟨w.heap.size,i,none⟩=_:=XR.out.row.2;have hf4:∀i,w4.frozen? ⟨w.heap.size,i,none⟩=false:=fun i=>frozen_of_row _ _ i _ _ XR.out.var;have v4:w4.cell? ⟨w.heap.size,7,none⟩=some (.slice s.D z.ay.length s.d):=hr4 7;have hlt4:=mZ.out.lt;have X6:=ae (mr (o:=7) (v:= .slice A4 z.ay.length a4) (HX1_3.out.aQ hb.size fun k _ h2 _=>hb.block k h2) (Nat.le_refl _));have X7:=ae (mr (o:=7) (v:= .slice A4 z.ay.length a4) (HX2_3.out.aQ hb.size fun k _ h2 _=>hb.block k h2) (Nat.le_refl _));have X8:=ae (mr (o:=7) (v:= .slice A4 z.ay.length a4) (HX3_3.out.aQ hb.size fun k _ h2 _=>hb.block k h2) (Nat.le_refl _));have X9:Hid (CX (w.heap.size+2) w.heap.size (w4.setCell ⟨w.heap.size,7,none⟩ (.slice A4 z.ay.length a4)) A4 (z.ay.flatMap Yr.cells)):=ae (mr ((CX.dZ hown (by omega)).lower (by omega)) (Nat.le_refl _));have uH:Hid (FV w (aj z ⟨A1,a1,A2,a2,A3,a3,A4,a4⟩) (w4.setCell ⟨w.heap.size,7,none⟩ (.slice A4 z.ay.length a4))):=ae (XR.out.store 7 (.slice A4 z.ay.length a4));clear hown hb hr4 c3 f3;go_wp2_with (first
  |(with_reducible refine dI 51 ?_;refine aV rfl _ _ rfl w.heap.size rfl (aj z ⟨A1,a1,A2,a2,A3,a3,A4,a4⟩) uH.out.row _ Tryz.underlying51 rfl (kC _ _) ?_)
  |(with_reducible refine bT 51 ?_;refine wpList_store_row rfl _ _ _ rfl (w.heap.size+1) (aj z ⟨A1,a1,A2,a2,A3,a3,A4,a4⟩) rfl rfl 51 iQ uH.out.res (kC _ _) rfl (vw _ _) ?_))
 refine bodyPost_ret (v:= .agg (aj z ⟨A1,a1,A2,a2,A3,a3,A4,a4⟩)) (results_cell_row rfl _ _ (w.heap.size+1) _ (aj z ⟨A1,a1,A2,a2,A3,a3,A4,a4⟩) (0,0) _ rfl (setRow_heap _ _ _ _ _ _ uH.out.res) Tryz.underlying51 rfl (kC _ _)) rfl ?_;have hb:∀(W:World) (cs:Array Value) (k:Nat),w.heap.size+2≤k→(W.setRow (w.heap.size+1) cs).heap[k]? =W.heap[k]? :=fun W cs k hk=>setRow_other _ _ k _ (by omega);have hX:∀ {A:Option Addr} {cs:List Value} {W:World} {rc:Array Value},CX (w.heap.size+2) w.heap.size W A cs→CX w.heap.size w.heap.size (W.setRow (w.heap.size+1) rc) A cs:=fun h=>(h.aQ (by simp [World.setRow]) fun k h1 _ _=>hb _ _ k h1).lower (by omega);exact ⟨⟨A1,a1,A2,a2,A3,a3,A4,a4⟩,rfl,⟨hX X6.out,hX X7.out,hX X8.out,hX X9.out⟩,below_setRow uH.out.up (Nat.le_succ _) _⟩
end Go.Proofs.YtdibbemgpikgjaaGreat
