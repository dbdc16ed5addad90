/- The texts Pf, Pg, in this order. -/
import Derived.Test.YtdibbemgpikgjaaGreatDoorW00
import Derived.Test.YtdibbemgpikgjaaGreatDoorW04
import Derived.Test.YtdibbemgpikgjaaGreatDoorW05
set_option maxRecDepth 10000
set_option maxHeartbeats 8000000
namespace Go.Proofs.YtdibbemgpikgjaaGreatDoor
open Go Go.RowKit Go.Shelf
attribute [local go_sem] Oper.semAt_some
section
variable {F : Fence} {n : Nat} {P : Program} {ops : Array Oper} {Q : Exit → Act → World → Prop} {a : Act} {w : World} {rest : List Oper} {o : Oper}
theorem iJ {ob : Obj} (hg : o.guard = none) (ty : TypeId) (x y : Operand) (ho : o.op = .store ty x y) (cells : Array Value) (hx : a.eval x = .pointer (some ⟨w.heap.size, 0, none⟩)) (hy : a.eval y = .agg cells)
    (t : TypeId) (old : Array Value) (hob : ob = .cells old t (0, 0)) (hi : (P.info? ty).map (·.size) = some cells.size) (hold : old.size = cells.size) (h1 : cells.all (·.oneCell') = true)
    (h : ∀ W, Below w.heap.size w W → W.heap.size = w.heap.size + 1 → W.heap[w.heap.size]? = some (.cells cells t (0, 0)) → Row W w.heap.size cells → KeepsOthers w W → wpListIn F n P ops Q rest (a.put o.dst undef) W) : wpListIn F n P ops Q (o :: rest) a (w.alloc ob) := by
  subst hob
  have hh : ((w.alloc (.cells old t)).setRow w.heap.size cells).heap[w.heap.size]? = some (.cells cells t (0, 0)) := setRow_heap _ _ _ _ _ _ (heap_alloc_last w _)
  refine yA hg ty x y ho w.heap.size cells hx hy t old (heap_alloc_last w _) hi hold h1 (h _ (below_setRow (ag w _) (Nat.le_refl _) _) (by simp [World.setRow]) hh (Row.jF hh) ⟨by simp [World.setRow], fun k ob hk hc => ?_⟩)
  have hkl := (bT.1 hk).1
  rw [setRow_other _ _ k _ (by omega), Below.heap_alloc _ _ _ hkl]
  exact hk
end
def D5 (x : Tb) (i : Nat) : Bool := decide (x.version = (i : Int) + 1) && (decide (0 ≤ x.aJ) && decide (x.aJ ≤ (i : Int)))
def Ii (ts : List dI) : Bool := (List.range ts.length).all fun i => match ts[i]? with | some x => D5 x.t i | none => true
def gY (st : Int × List Bool) (x : Nat × dI) : Int × List Bool :=
  if st.2[x.1 + 1]?.getD false = true then st
  else (if st.1 < 0 ∧ (x.2.t.aJ = 0 ∨ 0 < x.2.zs.length) then (x.1 : Int) else st.1, if 0 < x.2.t.aJ then st.2.set x.2.t.aJ.toNat true else st.2)
def dL (ts : List dI) (pre : List (El ts)) : Int × List Bool := pre.foldl (fun st x => gY st x.1) (-1, List.replicate (ts.length + 1) false)
def wo (ts : List dI) : Int × Bool := if Ii ts = true then ((dL ts (KF ts ts.length)).1, true) else (0, false)
theorem FC (ts : List dI) (pre : List (El ts)) (x : El ts) : dL ts (pre ++ [x]) = gY (dL ts pre) x.1 := by simp [dL]
theorem Iu (ts : List dI) (pre : List (El ts)) : (dL ts pre).2.length = ts.length + 1 := by
  unfold dL
  have : ∀ (l : List (El ts)) (st : Int × List Bool), (l.foldl (fun st x => gY st x.1) st).2.length = st.2.length := by
    intro l
    induction l with
    | nil => intro st; rfl
    | cons x l ih =>
      intro st
      rw [List.foldl_cons, ih]
      unfold gY
      split
      · rfl
      · dsimp only
        split
        · simp
        · rfl
  rw [this]
  simp
theorem FD (p : Int) (gl : List Bool) (x : Nat × dI) (r : Nat) (hr : x.1 + 1 = r) (hb : gl[r]? = some true) : gY (p, gl) x = (p, gl) := by
  unfold gY
  dsimp only
  rw [hr, hb]
  rfl
theorem KP (p : Int) (gl : List Bool) (x : Nat × dI) (r m z : Nat) (hr : x.1 + 1 = r) (hb : gl[r]? = some false) (hm : x.2.t.aJ = (m : Int)) (hz : x.2.zs.length = z) :
    gY (p, gl) x = (if p < 0 ∧ (m = 0 ∨ 0 < z) then (x.1 : Int) else p, if 0 < m then gl.set m true else gl) := by
  unfold gY
  dsimp only
  rw [hr, hb, hm, hz, Int.toNat_natCast]
  simp only [Option.getD_some, Int.natCast_eq_zero, Int.natCast_pos]
  rfl
theorem NR {ts : List dI} (h : Ii ts = true) (i : Nat) (x : dI) (hx : ts[i]? = some x) : D5 x.t i = true := by
  unfold Ii at h
  rw [List.all_eq_true] at h
  have h1 := h i (List.mem_range.2 (gu.1 hx).1)
  rwa [hx] at h1
theorem Vk {ts : List dI} (i : Nat) (x : dI) (hx : ts[i]? = some x) (h : D5 x.t i = false) : Ii ts = false := by
  cases hc : Ii ts with
  | false => rfl
  | true => rw [NR hc i x hx] at h; cases h
theorem Rf {ts : List dI} (h : ∀ j x, ts[j]? = some x → D5 x.t j = true) : Ii ts = true := by
  unfold Ii
  rw [List.all_eq_true]
  intro i hi
  have hl := List.mem_range.1 hi
  rw [dw hl]
  exact h i _ (dw hl)
theorem LH (n : Nat) (hn : n ≤ 100000) (W : World) : (Instr.makeSlice 137 (.int .i64 (n : Int)) (.int .i64 (n : Int))).run Tryz.prog W = .ok (.slice (some ⟨W.heap.size, 0, none⟩) n n) (W.alloc (.cells (Array.replicate n (.bool false)) 4)) := by
  have hib : (Tryz.prog.info? 4).map (fun i => (i.zero, i.size, i.bytes)) = some (some (.bool false), 1, 1) := by kernel_rfl
  obtain ⟨i0, hi, hz0, hz1, hz2⟩ := info_parts hib
  rw [run_makeSlice (P := Tryz.prog) (w := W) 137 4 i0 (.bool false) Tryz.underlying137 hi hz0 .i64 .i64 n n (by omega) (by omega) (by rw [hz1]; omega) (by rw [hz2]; omega) (by omega), hz1]
  have e : madeCells (Value.bool false).cells (((n : Int).toNat) * 1) = Array.replicate n (.bool false) := by
    apply Array.ext'
    simp [madeCells, Value.cells, Nat.mod_one]
    apply List.ext_getElem
    · simp
    · intro j h1 h2; simp
  rw [e]
  simp
structure CI (w : World) (N n : Nat) (p : Int) (gl : List Bool) (W : World) : Prop where
  best : Boxed W N 3 (I p)
  gone : Boxed W (N + 2) 137 (.slice (some ⟨N + 1, 0, none⟩) (n + 1) (n + 1))
  row : W.heap[N + 1]? = some (.cells (gl.map Value.bool).toArray 4 (0, 0))
  up : Below w.heap.size w W
  sz : N + 3 < W.heap.size
section
variable {w W W' : World} {N n : Nat} {p : Int} {gl : List Bool}
theorem CI.grow (h : CI w N n p gl W) (hb : Below W.heap.size W W') : CI w N n p gl W' := by
  have hs := h.sz
  exact ⟨(hb.block _ (by omega)).trans h.best, (hb.block _ (by omega)).trans h.gone, (hb.block _ (by omega)).trans h.row, ah h.up hb, dQ h.sz hb.size⟩
theorem CI.Om (h : CI w N n p gl W) (hN : w.heap.size ≤ N) (v : Int) : CI w N n v gl (W.setCell ⟨N, 0, none⟩ (I v)) :=
  ⟨h.best.set _, h.gone.other (by omega) _, (heap_setCell_other W _ _ _ (by show N + 1 ≠ N; omega)).trans h.row, h.up.setCell (p := ⟨N, 0, none⟩) hN _, by simpa [World.setCell] using h.sz⟩
theorem CI.Wu (h : CI w N n p gl W) (hN : w.heap.size ≤ N) (m : Nat) : CI w N n p (gl.set m true) (W.setCell ⟨N + 1, m, none⟩ (.bool true)) := by
  refine ⟨(heap_setCell_other W _ _ _ (by show N ≠ N + 1; omega)).trans h.best, (heap_setCell_other W _ _ _ (by show N + 2 ≠ N + 1; omega)).trans h.gone, ?_, h.up.setCell (p := ⟨N + 1, m, none⟩) (by show w.heap.size ≤ N + 1; omega) _, by simpa [World.setCell] using h.sz⟩
  rw [heap_setCell_same W _ m _ _ _ h.row]
  simp [List.map_set]
theorem Ij (hN : w.heap.size ≤ N) {o j : Nat} (hj : j ≤ 2) (v : Value) : BK w.heap.size (N + 3) W (W.setCell ⟨N + j, o, none⟩ v) :=
  ⟨(Below.refl _ W).setCell (p := ⟨N + j, o, none⟩) (by show w.heap.size ≤ N + j; omega) _, World.cell?_setCell_other _ _ _ _ (by intro e; have := congrArg Addr.block e; simp only at this; omega)⟩
end
theorem Zp {β : Type} {w : World} {N n B : Nat} (hB : w.heap.size ≤ B) (f : β → Int × List Bool) : OwnFrom B (fun s W => CI w N n (f s).1 (f s).2 W) := fun s X Y row hs hg hr => by
  have key : ∀ k cs t, X.heap[k]? = some (Obj.cells cs t (0, 0)) → Y.heap[k]? = X.heap[k]? := fun k cs t hk =>
    hg.block k (bT.1 hk).1 fun e => by
      obtain ⟨_, o, ho, hc⟩ := hr k e.symm
      rw [hk] at ho; cases ho; cases hc
  exact ⟨(key _ _ _ hs.best).trans hs.best, (key _ _ _ hs.gone).trans hs.gone, (key _ _ _ hs.row).trans hs.row, hs.up.grown hg hs.up.size (fun k e => Nat.le_trans hB (hr k e).1), dQ hs.sz hg.size⟩
theorem Ae {β : Type} {B : Nat} (b : Nat) (t : TypeId) (cs : Array Value) : OwnFrom B (fun (_ : β) W => W.heap[b]? = some (.cells cs t (0, 0))) := fun s X Y row hs hg hr => by
  refine (hg.block b (bT.1 hs).1 fun e => ?_).trans hs
  obtain ⟨_, o, ho, hc⟩ := hr b e.symm
  rw [hs] at ho; cases ho; cases hc
def UN (w : World) (ts : List dI) (e : Ending) (w' : World) : Prop := ∃ p b, e = .returned (.tuple #[I p, .bool b]) ∧ wo ts = (p, b) ∧ Below w.heap.size w w'
theorem uS {w : World} {B : Nat} {A : Option Addr} {ts : List dI} (h : jd w B A ts) : ts.length = 0 ∨ ∃ b off, A = some ⟨b, off, none⟩ ∧ b < B ∧ qC w b off ts := by
  have hl := dN (s := 68) dI.cells ts fun x hx => (h.each x hx).size
  rcases h.row with h0 | ⟨b, off, h1, h2, h3⟩
  · exact .inl (by omega)
  · exact .inr ⟨b, off, h1, h2, fun j x hx => ⟨aA.elem (fun x hx => (h.each x hx).size) h3 j x hx, (h.each x (fZ hx)).size⟩⟩
def Cur1 (w : World) (ts : List dI) (n : Nat) (i : Value) (wr : World) : Prop := ∃ k : Nat, k ≤ n ∧ i = .int .i64 k ∧ (∀ j x, j < k → ts[j]? = some x → D5 x.t j = true) ∧ Below w.heap.size w wr
theorem yZ (A : Option Addr) (c n : Nat) (ts : List dI) (w : World) (hn : ts.length = n) (hn1 : n ≤ 1000) (h : jd w w.heap.size A ts) :
    Calls Tryz.prog 39 #[.slice A n c] w (UN w ts) := by
  refine (callsIn_wide (n := 3)).1 ?_
  have hro : Fence.wide.round = none := rfl
  have h1 : 1 ≤ 3 := by omega
  have HN := ae hn
  have HT := ae (uS h)
  have H1 : Hid (∀ x ∈ ts, x.cells.length = 68) := ae fun x hx => (h.each x hx).size
  clear h hn
  refine callsIn_of_wp_marks Tryz.func39 rfl trivial ?_ hro
  simp only [Tryz.ntmps39, List.size_toArray, List.length_cons, List.length_nil, Nat.reduceAdd, Nat.reduceSub, Array.replicate_succ, Array.replicate_zero, List.push_toArray, List.append_toArray, List.nil_append, List.cons_append]
  gi_wp2
  gi_loopw [12] (fun i wr => Cur1 w ts n i wr) (fun i _ => n - (intOf i).toNat)
  case atStart => exact ⟨0, Nat.zero_le _, rfl, fun j x hj => absurd hj (Nat.not_lt_zero _), Below.refl _ _⟩
  case round =>
    obtain ⟨k, hk, rfl, hall, hb⟩ := hrel
    have lF := ae hall
    have HB := ae hb
    clear hall hb
    by_cases hlt : k < n
    · have hkl : k < ts.length := by rw [HN.out]; exact hlt
      obtain ⟨x, hx⟩ : ∃ x, ts[k]? = some x := ⟨_, dw hkl⟩
      have h68 := H1.out x (fZ hx)
      obtain ⟨b, off, rfl, hbw, htab⟩ : ∃ b off, A = some ⟨b, off, none⟩ ∧ b < w.heap.size ∧ qC w b off ts := by
        rcases HT.out with h0 | h0
        · omega
        · exact h0
      have HX := ae hx
      have E5 : Hid (wr.rangeAt b (off + k * 68) x.cells) := ae (aN (htab k x hx).1 HB.out hbw)
      have ed : Hid ((Tryz.prog.info? 37).map (·.size) = some x.cells.length) := ae (by rw [h68]; kernel_rfl)
      have ni : Hid ((Tryz.prog.info? 37).map (·.size) = some x.cells.toArray.size) := ae (by rw [List.size_toArray, h68]; kernel_rfl)
      have OW : Hid (Tryz.zeroCells37.size = x.cells.toArray.size) := ae ((show Tryz.zeroCells37.size = 68 by kernel_rfl).trans (by rw [List.size_toArray, h68]))
      have i0 : (0 : Int) ≤ (k : Int) := by omega
      have i1 : (k : Int) < (n : Int) := by omega
      have hw : IntKind.i64.wrap ((k : Int) + 1) = (k : Int) + 1 := by rw [IntKind.wrap_i64]; omega
      clear hkl hx h68 htab
      gi_wp2_with (first
        | ((with_reducible refine FO 37 ?_); refine nR rfl _ _ rfl b (off + k * 68) rfl x.cells _ E5.out Tryz.underlying37 rfl ed.out ?_)
        | ((with_reducible refine uq 37 ?_); refine iJ rfl _ _ _ rfl x.cells.toArray rfl rfl 37 Tryz.zeroCells37 rfl ni.out OW.out (bu _ _ _ _) ?_; intro W5 hb5 hs5 hf5 uO hk5; have c1 : W5.cell? ⟨wr.heap.size, 1, none⟩ = some (I x.t.version) := uO.2 1; have c2 : W5.cell? ⟨wr.heap.size, 2, none⟩ = some (I x.t.aJ) := uO.2 2; have oO := ae (ah HB.out hb5); clear hb5 hs5 hf5 uO hk5))
      all_goals first
        | (refine ⟨⟨k + 1, by omega, by go_num, fun j y hj hy => ?_, oO.out⟩, by simp [intOf]; omega⟩
           by_cases hjk : j < k
           · exact lF.out j y hjk hy
           · have e : j = k := by omega
             subst e
             have e2 : x = y := by have h1 := HX.out; rw [hy] at h1; injection h1 with h1; exact h1.symm
             subst e2
             unfold D5
             rw [decide_eq_true (by omega), decide_eq_true (by omega), decide_eq_true (by omega)]
             rfl)
        | (have hno : D5 x.t k = false := by
             cases hq : D5 x.t k with
             | false => rfl
             | true => exfalso; unfold D5 at hq; simp only [Bool.and_eq_true, decide_eq_true_eq] at hq; omega
           have U3 := ae hno
           clear hno
           refine ⟨_, results_tmp2 rfl _ _ _, ?_⟩
           exact ⟨0, false, rfl, by unfold wo; rw [Vk k x HX.out U3.out]; rfl, oO.out⟩)
    · have hke : k = n := by omega
      have Qx : Hid (Ii ts = true) := ae (Rf fun j x hx => lF.out j x (by have h1 := (gu.1 hx).1; have := HN.out; omega) hx)
      have QD : Hid (Below w.heap.size w wr) := HB
      have hmk : ∀ W, (Instr.makeSlice 137 (.int .i64 ((n : Int) + 1)) (.int .i64 ((n : Int) + 1))).run Tryz.prog W = .ok (.slice (some ⟨W.heap.size, 0, none⟩) (n + 1) (n + 1)) (W.alloc (.cells (Array.replicate (n + 1) (.bool false)) 4)) := fun W => LH (n + 1) (by omega) W
      have hnl : ¬ (k : Int) < (n : Int) := by omega
      clear hke
      gi_wp2_with (refine ⟨trivial, ?_⟩; gi_at_call 58; refine (Q4 Fence.wide 2 trivial hro _ _ _ _).mono ?_; rintro e w' ⟨rfl, rfl⟩)
      have hsz0 : (((wr.alloc (.cells #[I (-1)] 3)).alloc (.cells (Array.replicate (n + 1) (.bool false)) 4)).alloc (.cells #[.slice (some ⟨wr.heap.size + 1, 0, none⟩) (n + 1) (n + 1)] 137)).heap.size = wr.heap.size + 3 := by simp
      obtain ⟨Wx, RQ⟩ : ∃ Wx, ((wr.alloc (.cells #[I (-1)] 3)).alloc (.cells (Array.replicate (n + 1) (.bool false)) 4)).alloc (.cells #[.slice (some ⟨wr.heap.size + 1, 0, none⟩) (n + 1) (n + 1)] 137) = Wx := ⟨_, rfl⟩
      have hbx : Below wr.heap.size wr Wx := by rw [← RQ]; exact (((Below.refl _ wr).alloc (Nat.le_refl _) _).alloc (by simp) _).alloc (by simp; omega) _
      have hB0 : Wx.heap[wr.heap.size]? = some (.cells #[I (-1)] 3 (0, 0)) := by rw [← RQ]; exact (Below.heap_alloc _ _ _ (by simp; omega)).trans ((Below.heap_alloc _ _ _ (by simp)).trans (heap_alloc_last wr _))
      have hB1 : Wx.heap[wr.heap.size + 1]? = some (.cells (Array.replicate (n + 1) (.bool false)) 4 (0, 0)) := by rw [← RQ]; have h2 := heap_alloc_last (wr.alloc (.cells #[I (-1)] 3)) (.cells (Array.replicate (n + 1) (.bool false)) 4); rw [World.size_alloc] at h2; exact (Below.heap_alloc _ _ _ (by simp)).trans h2
      have hB2 : Wx.heap[wr.heap.size + 2]? = some (.cells #[.slice (some ⟨wr.heap.size + 1, 0, none⟩) (n + 1) (n + 1)] 137 (0, 0)) := by rw [← RQ]; have h2 := heap_alloc_last ((wr.alloc (.cells #[I (-1)] 3)).alloc (.cells (Array.replicate (n + 1) (.bool false)) 4)) (.cells #[.slice (some ⟨wr.heap.size + 1, 0, none⟩) (n + 1) (n + 1)] 137); rw [World.size_alloc, World.size_alloc] at h2; exact h2
      rw [RQ] at hsz0 ⊢
      have bS := Boxed.new Wx 28 (.slice A n c)
      have hb4 := ag Wx (.cells #[.slice A n c] 28)
      obtain ⟨W0, hW0⟩ : ∃ W0, Wx.alloc (.cells #[.slice A n c] 28) = W0 := ⟨_, rfl⟩
      have hsz4 : W0.heap.size = wr.heap.size + 4 := by rw [← hW0, World.size_alloc, hsz0]
      rw [hW0] at bS hb4 ⊢
      rw [hsz0] at bS hb4
      have VH : w.heap.size ≤ wr.heap.size := HB.out.size
      have hCI : CI w wr.heap.size n (-1) (List.replicate (n + 1) false) W0 := ⟨(hb4.block _ (by omega)).trans hB0, (hb4.block _ (by omega)).trans hB2, by rw [hb4.block _ (by omega), hB1]; simp, (HB.out.trans (hbx.mono VH)).trans (hb4.mono (by omega)), by omega⟩
      have XZ : ts.length = 0 ∨ ∃ b off, A = some ⟨b, off, none⟩ ∧ b < w.heap.size ∧ qC W0 b off ts := HT.out.imp id fun ⟨b, off, h1, h2, h3⟩ => ⟨b, off, h1, h2, fun j x hx => ⟨aN (h3 j x hx).1 hCI.up h2, (h3 j x hx).2⟩⟩
      have hst := Ib Fence.wide (3 - 1) trivial hro (by omega) (wr.heap.size + 3) w.heap.size A c ts (by have := HN.out; omega) W0 (by omega) (by omega) (by rw [HN.out]; exact bS.cell) XZ
      rw [HN.out] at hst
      clear RQ hbx hB0 hB1 hB2 bS hb4 hW0 hsz0 XZ hmk
      refine wpIn_rangeFunc_ownH hro h1 (gf := 83) (lb := #[.pointer (some ⟨wr.heap.size + 3, 0, none⟩)]) rfl trivial (enters_of Tryz.func83 (by kernel_rfl) rfl)
        hst (fun h k => h.trans k) (Zk (by omega) (by omega)) (Below.refl _ _) (fun _ => rfl)
        (fun pre W => CI w wr.heap.size n (dL ts pre).1 (dL ts pre).2 W)
        (fun _ _ _ => False)
        (Zp (by omega) _)
        (fun _ _ _ _ _ hs _ _ => hs)
        (by unfold dL; rw [HN.out]; exact hCI)
        (fun x a' W => ∃ B, wr.heap.size + 3 < B ∧ W.heap[B]? = some (.cells x.1.2.cells.toArray 37 (0, 0)) ∧ a' = ({ tmps := #[.slice A n c, undef, u2, u3, u4, u5, .pointer (some ⟨wr.heap.size, 0, none⟩), .pointer (some ⟨wr.heap.size + 1 + 1, 0, none⟩), I x.1.1, .pointer (some ⟨B, 0, none⟩), .slice A n c, I n, I k, .bool false, u14, u15, u16, u17, u18, u19, u20, u21, u22, u23, u24, u25, u26, u27, u28, u29, u30, u31, u32, u33, .slice A n c, I n, I (n + 1), .slice (some ⟨wr.heap.size + 1, 0, none⟩) (n + 1) (n + 1), .slice A n c, .func (.func 83) #[] #[.pointer (some ⟨wr.heap.size + 1 + 1 + 1, 0, none⟩)], I x.1.1, .agg x.1.2.cells.toArray, undef, undef, undef, undef, undef, undef, undef, undef, undef, undef, undef, undef, undef, undef, undef, undef, undef, undef, undef, undef, undef, undef, undef, undef, undef, undef, undef], defers := [] } : Act))
        (fun x a' _ X Y row hs hg hr => by obtain ⟨B, h1, h2, h3⟩ := hs; exact ⟨B, h1, Ae B _ _ () X Y row h2 hg hr, h3⟩)
        ?assign ?body ?done ?stop
      case assign =>
        rintro l pre x W K hci hK
        have h68 := H1.out x.1.2 (fZ x.2)
        have ni : Hid ((Tryz.prog.info? 37).map (·.size) = some x.1.2.cells.toArray.size) := ae (by rw [List.size_toArray, h68]; kernel_rfl)
        have OW : Hid (Tryz.zeroCells37.size = x.1.2.cells.toArray.size) := ae ((show Tryz.zeroCells37.size = 68 by kernel_rfl).trans (by rw [List.size_toArray, h68]))
        have JH := ae hci
        have hsz := hci.sz
        have hup := hci.up.size
        clear hci h68
        gi_wp2_with ((with_reducible refine uq 37 ?_); refine iJ rfl _ _ _ rfl x.1.2.cells.toArray rfl rfl 37 Tryz.zeroCells37 rfl ni.out OW.out (bu _ _ _ _) ?_; intro W5 hb5 hs5 hh5 uO hk5; have oO := ae hb5; have Yq := ae hh5; have xP := ae hk5; clear hb5 hs5 hh5 uO hk5)
        exact hK _ _ (xP.out.from _) ⟨oO.out.mono hup, oO.out.cell (p := ⟨wr.heap.size + 3, 0, none⟩) hsz⟩ (JH.out.grow oO.out) ⟨W.heap.size, hsz, Yq.out, rfl⟩
      case body =>
        rintro l pre x a' W hl _ hci ⟨B, hB, hblk, rfl⟩ hlt2
        have htb := NR Qx.out x.1.1 x.1.2 x.2
        have hxl : x.1.1 < n := by have h1 := (gu.1 x.2).1; have := HN.out; omega
        unfold D5 at htb
        simp only [Bool.and_eq_true, decide_eq_true_eq] at htb
        obtain ⟨hv, hw0, hw1⟩ := htb
        obtain ⟨⟨p, gl⟩, hst⟩ : ∃ st, dL ts pre = st := ⟨_, rfl⟩
        have hgl : gl.length = n + 1 := by have h := Iu ts pre; rw [hst, HN.out] at h; exact h
        rw [hst] at hci
        have HSN : Hid (dL ts (pre ++ [x]) = gY (p, gl) x.1) := ae (by rw [FC, hst])
        clear hst
        have hc1 : W.cell? ⟨B, 1, none⟩ = some (I x.1.2.t.version) := cell_of_row W B 1 _ _ _ hblk
        have hc2 : W.cell? ⟨B, 2, none⟩ = some (I x.1.2.t.aJ) := cell_of_row W B 2 _ _ _ hblk
        have hc3 : W.cell? ⟨B, 3, none⟩ = some (.slice x.1.2.A x.1.2.zs.length x.1.2.c) := cell_of_row W B 3 _ _ _ hblk
        obtain ⟨m, hm⟩ : ∃ m : Nat, x.1.2.t.aJ = (m : Int) := ⟨_, (Int.toNat_of_nonneg hw0).symm⟩
        obtain ⟨r, hr⟩ : ∃ r : Nat, x.1.1 + 1 = r := ⟨_, rfl⟩
        have hvr : x.1.2.t.version = (r : Int) := by omega
        obtain ⟨z, hz⟩ : ∃ z, x.1.2.zs.length = z := ⟨_, rfl⟩
        obtain ⟨b, hb⟩ : ∃ b, gl[r]? = some b := ⟨_, dw (by omega)⟩
        obtain ⟨b2, hb2⟩ : ∃ b, gl[m]? = some b := ⟨_, dw (by omega)⟩
        rw [hvr] at hc1
        rw [hm] at hc2
        rw [hz] at hc3
        have cB := hci.best.cell
        have cG := hci.gone.cell
        have fB := hci.best.frozen
        have hfz : ∀ i, W.frozen? ⟨wr.heap.size + 1, i, none⟩ = false := fun i => frozen_of_row _ _ i _ _ hci.row
        have hgc : ∀ j b, gl[j]? = some b → W.cell? ⟨wr.heap.size + 1, j, none⟩ = some (.bool b) := fun j b hj => by rw [cell_of_row W _ j _ _ _ hci.row]; simp [hj]
        have g1 := hgc _ _ hb
        have g2 := hgc _ _ hb2
        have JH := ae hci
        have r0 : (0 : Int) ≤ (r : Int) := by omega
        have r1 : (r : Int) < (n : Int) + 1 := by omega
        have m0 : (0 : Int) ≤ (m : Int) := by omega
        have m1 : (m : Int) < (n : Int) + 1 := by omega
        have n1 : ¬ B = wr.heap.size + 1 := by omega
        have n2 : ¬ B = wr.heap.size := by omega
        clear hci hgc hv hw0 hw1 hvr hb2 hgl hblk
        cases b with
        | true =>
          have HS := ae (FD p gl x.1 r hr hb)
          clear hm hz hr hb
          gi_wp2
          exact ⟨KeepsFrom.refl _ _, BK.refl _ _ _, by show CI w wr.heap.size n (dL ts (pre ++ [x])).1 (dL ts (pre ++ [x])).2 _; rw [HSN.out, HS.out]; exact JH.out⟩
        | false =>
          have HG := ae (KP p gl x.1 r m z hr hb hm hz)
          clear hm hz hr hb
          by_cases hm0 : 0 < m
          · have lY := ae (JH.out.Wu VH m)
            by_cases hp : p < 0
            · by_cases hz0 : 0 < z
              · have HS : Hid (gY (p, gl) x.1 = ((x.1.1 : Int), gl.set m true)) := ae (by rw [HG.out, if_pos ⟨hp, .inr hz0⟩, if_pos hm0])
                gi_wp2
                exact ⟨((KeepsOthers.setCell _ _ _).trans (KeepsOthers.setCell _ _ _)).from _, (Ij (N := wr.heap.size) (o := m) (j := 1) VH (by omega) _).trans (Ij (N := wr.heap.size) (o := 0) (j := 0) VH (by omega) _), by show CI w wr.heap.size n (dL ts (pre ++ [x])).1 (dL ts (pre ++ [x])).2 _; rw [HSN.out, HS.out]; exact lY.out.Om VH _⟩
              · have hzz : z = 0 := by omega
                have HS : Hid (gY (p, gl) x.1 = (p, gl.set m true)) := ae (by rw [HG.out, if_neg (by omega), if_pos hm0])
                gi_wp2
                exact ⟨(KeepsOthers.setCell _ _ _).from _, Ij (N := wr.heap.size) (o := m) (j := 1) VH (by omega) _, by show CI w wr.heap.size n (dL ts (pre ++ [x])).1 (dL ts (pre ++ [x])).2 _; rw [HSN.out, HS.out]; exact lY.out⟩
            · have HS : Hid (gY (p, gl) x.1 = (p, gl.set m true)) := ae (by rw [HG.out, if_neg (by omega), if_pos hm0])
              gi_wp2
              all_goals first
                | (exact ⟨(KeepsOthers.setCell _ _ _).from _, Ij (N := wr.heap.size) (o := m) (j := 1) VH (by omega) _, by show CI w wr.heap.size n (dL ts (pre ++ [x])).1 (dL ts (pre ++ [x])).2 _; rw [HSN.out, HS.out]; exact lY.out⟩)
                | (rename_i _ _ h _; exact absurd h (by simp [undef]))
          · have hmz : m = 0 := by omega
            by_cases hp : p < 0
            · have HS : Hid (gY (p, gl) x.1 = ((x.1.1 : Int), gl)) := ae (by rw [HG.out, if_pos ⟨hp, .inl hmz⟩, if_neg hm0])
              gi_wp2
              exact ⟨(KeepsOthers.setCell _ _ _).from _, Ij (N := wr.heap.size) (o := 0) (j := 0) VH (by omega) _, by show CI w wr.heap.size n (dL ts (pre ++ [x])).1 (dL ts (pre ++ [x])).2 _; rw [HSN.out, HS.out]; exact JH.out.Om VH _⟩
            · have HS : Hid (gY (p, gl) x.1 = (p, gl)) := ae (by rw [HG.out, if_neg (by omega), if_neg hm0])
              gi_wp2
              all_goals first
                | (exact ⟨KeepsFrom.refl _ _, BK.refl _ _ _, by show CI w wr.heap.size n (dL ts (pre ++ [x])).1 (dL ts (pre ++ [x])).2 _; rw [HSN.out, HS.out]; exact JH.out⟩)
                | (rename_i _ _ h _; exact absurd h (by simp [undef]))
      case done =>
        rintro D ys W hD rfl hci hK
        have cB := hci.best.cell
        have JH := ae hci
        clear hci
        gi_wp2
        refine ⟨by simp, .inl ⟨_, _, rfl, run_takeDeferred hK, ?_⟩⟩
        refine ⟨_, results_tmp2 rfl _ _ _, ?_⟩
        exact ⟨_, true, rfl, by unfold wo; rw [Qx.out, HN.out]; rfl, JH.out.up.trans (belowK_b (w := W0) (n₀ := w.heap.size) (by omega) W D _ (.deferred none) hD hK rfl rfl)⟩
      case stop =>
        rintro D c pre W _ _ h _
        exact h.elim
end Go.Proofs.YtdibbemgpikgjaaGreatDoor
namespace Go.Proofs.YtdibbemgpikgjaaGreatDoor
open Go Go.RowKit
theorem iL {P:Program} {ops:Array Oper} {Q:Exit→Act→World→Prop} {rest:List Oper} {a:Act} {w:World} {d:Option Tmp} {t:TypeId} {pos:String} {af:Array Edge} {g:Option (Nat×Bool)} (ty:TypeId) {x:Array (Nat×Operand)} (h:wpList P ops Q (⟨d, .build ty x,t,pos,af,g⟩::rest) a w):wpList P ops Q (⟨d, .build ty x,t,pos,af,g⟩::rest) a w:=h
theorem KQ (ts:List dI) (pre:List (El ts)):(dL ts pre).1= -1∨∃i:Nat,i<ts.length∧(dL ts pre).1=(i:Int):=by
 unfold dL;have:∀(l:List (El ts)) (st:Int×List Bool),(st.1= -1∨∃i:Nat,i<ts.length∧st.1=(i:Int))→((l.foldl (fun st x=>gY st x.1) st).1= -1∨∃i:Nat,i<ts.length∧(l.foldl (fun st x=>gY st x.1) st).1=(i:Int)):=by
  intro l
  induction l with
  |nil=>intro st h;exact h
  |cons x l ih=>
   intro st h;rw [List.foldl_cons];refine ih _ ?_;unfold gY;split
   ·exact h
   ·dsimp only;split
    ·exact .inr ⟨x.1.1,(gu.1 x.2).1,rfl⟩
    ·exact h
 exact this pre _ (.inl rfl)
theorem BF {ts:List dI} {p:Int} {b:Bool} (h:wo ts=(p,b)):p<0∨∃i x,p=((i:Nat):Int)∧(b=true→ts[i]? =some x):=by
 unfold wo at h;split at h
 ·injection h with h1 h2;rcases KQ ts (KF ts ts.length) with h3|⟨i,hi,h3⟩
  ·exact .inl (by omega)
  ·exact .inr ⟨i,ts[i],by omega,fun _=>dw hi⟩
 ·injection h with h1 h2;subst h1 h2;exact .inr ⟨0,⟨⟨0,0,0,[],[],[]⟩,none,0,[]⟩,rfl,fun h=>nomatch h⟩
def yR (ts:List dI):Prop:=∀x∈ts,x.zs.length≤1000∧∀y∈x.zs,pW y.e.z
def NewP (w:World) (ts:List dI) (e:Ending) (w':World):Prop:=
 Below w.heap.size w w'∧∃p b,wo ts=(p,b)∧((b=false∧e= .returned (.tuple #[.agg Tryz.zeroCells37,I 1]))∨(b=true∧p<0∧e= .returned (.tuple #[.agg Tryz.zeroCells37,I 4]))∨
  (b=true∧∃i x y,p=((i:Nat):Int)∧ts[i]? =some x∧y.t=x.t∧y.zs.map (·.e)=x.zs.map (·.e)∧e= .returned (.tuple #[.agg (ai y.t (.slice y.A y.zs.length y.c)),I 0])∧Vg w.heap.size w' y))
theorem Ar:(Tryz.prog.info? 37).map (·.size)=some Tryz.zeroCells37.size:=by kernel_rfl
theorem Ul:Tryz.zeroCells37.all (·.oneCell')=true:=by kernel_rfl
theorem Uk:(Tryz.prog.info? 37).map (fun i=>(i.zero,i.size))=some (some (.agg Tryz.zeroCells37),Tryz.zeroCells37.size):=by kernel_rfl
theorem LJ (A:Option Addr) (c n:Nat) (ts:List dI) (w:World) (hn:ts.length=n) (hn1:n≤1000) (hl:yR ts) (h:jd w w.heap.size A ts):
  Calls Tryz.prog 38 #[.slice A n c] w (NewP w ts):=by
 have HR0:=ae (heap_alloc_last w (.cells Tryz.zeroCells37 37));have HB0:=ae (ag w (.cells Tryz.zeroCells37 37));have HC:=ae (yZ A c n ts (w.alloc (.cells Tryz.zeroCells37 37)) hn hn1 (h.grow (ag w _)));have HN:=ae hn;have HL:=ae hl;have Qx:=ae h;clear hn hl h;go_enter Tryz.func38,Tryz.ntmps38;go_wp2_with (first
  |(with_reducible refine bn 37 ?_;refine dh rfl _ rfl Tryz.zeroCells37 Uk ?_))
 refine HC.out.mono ?_;rintro e w1 ⟨p,b,rfl,hp,hb1⟩;have HR1:=ae ((hb1.block _ (by simp)).trans HR0.out);have HB1:=ae (ah HB0.out hb1);have HP:=ae hp;have hrg:=BF hp;clear hb1 hp HC HR0 HB0;cases b with
 |false=>
  clear hrg;go_wp2_with (first
   |((with_reducible refine iL 37 ?_);refine di rfl _ rfl Tryz.zeroCells37 (by kernel_rfl) ?_)
   |((with_reducible refine bW 37 ?_);refine wpList_store_row rfl _ _ _ rfl w.heap.size Tryz.zeroCells37 rfl rfl 37 Tryz.zeroCells37 HR1.out Ar rfl Ul ?_))
  refine bodyPost_ret (v:= .tuple #[.agg Tryz.zeroCells37,I 1]) (bI rfl _ _ w.heap.size _ Tryz.zeroCells37 (0,0) _ rfl (setRow_heap _ _ _ _ _ _ HR1.out) Tryz.underlying37 rfl Ar _ rfl) rfl ?_;exact ⟨below_setRow HB1.out (Nat.le_refl _) _,p,false,HP.out, .inl ⟨rfl,rfl⟩⟩
 |true=>
  rcases hrg with hneg|⟨i,x,rfl,hx⟩
  ·go_wp2_with (first
    |((with_reducible refine iL 37 ?_);refine di rfl _ rfl Tryz.zeroCells37 (by kernel_rfl) ?_)
    |((with_reducible refine bW 37 ?_);refine wpList_store_row rfl _ _ _ rfl w.heap.size Tryz.zeroCells37 rfl rfl 37 Tryz.zeroCells37 HR1.out Ar rfl Ul ?_))
   refine bodyPost_ret (v:= .tuple #[.agg Tryz.zeroCells37,I 4]) (bI rfl _ _ w.heap.size _ Tryz.zeroCells37 (0,0) _ rfl (setRow_heap _ _ _ _ _ _ HR1.out) Tryz.underlying37 rfl Ar _ rfl) rfl ?_;exact ⟨below_setRow HB1.out (Nat.le_refl _) _,p,true,HP.out, .inr (.inl ⟨rfl,hneg,rfl⟩)⟩
  ·have hx:=hx rfl;have hil:i<n:=by have h1:=(gu.1 hx).1;have:=HN.out;omega
   have hxm:=fZ hx;have HAT:Hid (kM w1 w1.heap.size x):=ae ((Qx.out.each x hxm).grow HB1.out);have h68:=(Qx.out.each x hxm).size;obtain ⟨b,off,rfl,hbw,htab⟩:∃b off,A=some ⟨b,off,none⟩∧b<w.heap.size∧qC w b off ts:=by
    rcases uS Qx.out with h0|h0
    ·have:=HN.out;omega
    ·exact h0
   have E5:Hid (w1.rangeAt b (off+i*68) x.cells):=ae (aN (htab i x hx).1 HB1.out hbw);have ed:Hid ((Tryz.prog.info? 37).map (·.size)=some x.cells.length):=ae (by rw [h68];kernel_rfl);have HX:=ae hx;have HLX:=ae (HL.out x hxm);have i0:(0:Int)≤(i:Int):=by omega
   have i1:(i:Int)<(n:Int):=by omega
   clear hx hxm h68 htab;go_wp2_with (with_reducible refine dY 37 ?_;refine wpList_load_mid rfl _ _ rfl b (off+i*68) rfl x.cells _ E5.out Tryz.underlying37 rfl ed.out ?_);refine (show Calls Tryz.prog _ #[.agg x.cells.toArray] w1 _ from BC x x.zs.length w1 rfl HLX.out.1 HLX.out.2 HAT.out).mono ?_;rintro e w2 ⟨y,hy1,hy2,rfl,hy3,hb2⟩;have HY:=ae (show y.t=x.t∧y.zs.map (·.e)=x.zs.map (·.e)∧Vg w1.heap.size w2 y from ⟨hy1,hy2,hy3⟩);have HR2:=ae ((hb2.block _ (bT.1 HR1.out).1).trans HR1.out);have HB2:=ae (ah HB1.out hb2);have hlt1:=(bT.1 HR1.out).1;have HSY:=ae (cu y.t (.slice y.A y.zs.length y.c) hy3.prev hy3.bz);have HZY:Hid (Tryz.zeroCells37.size=(ai y.t (.slice y.A y.zs.length y.c)).size):=ae (by rw [bF _ _ hy3.prev hy3.bz];kernel_rfl);clear hy1 hy2 hy3 hb2;go_wp2_with ((with_reducible refine bW 37 ?_);refine wpList_store_row rfl _ _ _ rfl w.heap.size (ai y.t (.slice y.A y.zs.length y.c)) rfl rfl 37 Tryz.zeroCells37 HR2.out HSY.out HZY.out (bu _ _ _ _) ?_);refine bodyPost_ret (v:= .tuple #[.agg (ai y.t (.slice y.A y.zs.length y.c)),I 0]) (bI rfl _ _ w.heap.size _ (ai y.t (.slice y.A y.zs.length y.c)) (0,0) _ rfl (setRow_heap _ _ _ _ _ _ HR2.out) Tryz.underlying37 rfl HSY.out _ rfl) rfl ?_;refine ⟨below_setRow HB2.out (Nat.le_refl _) _,(i:Int),true,HP.out, .inr (.inr ⟨rfl,i,x,y,rfl,HX.out,HY.out.1,HY.out.2.1,rfl,?_⟩)⟩;exact (HY.out.2.2.aP (by simp [World.setRow]) fun k h1 _=>setRow_other _ _ k _ (by omega)).lower (by omega)
end Go.Proofs.YtdibbemgpikgjaaGreatDoor
