/- The texts Nb, Nc, Nd, Dq, Qe, Qf, Qg, in this order. -/
import Derived.Test.YtdibbemgpikgjaaGreatZ00
import Derived.Sort.QuietTacIn
import Derived.Test.YtdibbemgpikgjaaGreatZ01
import Derived.Test.YtdibbemgpikgjaaGreatZ09
import Derived.Test.YtdibbemgpikgjaaGreatZ17
set_option maxRecDepth 10000
set_option maxHeartbeats 8000000
namespace Go.Proofs.YtdibbemgpikgjaaGreat
open Go Go.RowKit
section
variable {F : Fence} {n : Nat} {P : Program} {ops : Array Oper} {Q : Exit → Act → World → Prop} {md : Region.Mode}
theorem uB (l0 : Nat) (hd : ∀ (i : Nat) (o : Oper), ops[i]? = some o → ∀ c, o.op ≠ .defer c) : ∀ (fuel : Nat) (listed : Array Bool) (a : Act) (w : World), wpAnyIn F n P md ops Q fuel listed a w → wpAnyIn (F.inRound l0) n P md ops Q fuel listed a w := by
  intro fuel
  induction fuel with
  | zero => intro listed a w h; exact h
  | succ fuel ih =>
    intro listed a w h
    refine ⟨h.1, fun i hi => ?_⟩
    have h2 := wpOpIn_mono (fun a w => ih _ a w) (h.2 i hi)
    unfold wpOpIn at h2 ⊢
    cases ho : ops[i]? with
    | none => rw [ho] at h2; exact h2
    | some o =>
      rw [ho] at h2
      simp only at h2 ⊢
      split
      · rename_i hw
        rw [if_pos hw] at h2
        unfold Oper.wpIn at h2 ⊢
        rw [Oper.semAt_eq _ _ _ (hd i o ho)] at h2 ⊢
        exact h2
      · rename_i hw
        rw [if_neg hw] at h2
        exact h2
theorem qi {l0 id : Nat} {a : Act} {w : World} {l : List Oper} (hd : (l.all fun o => match o.op with | .defer _ => false | _ => true) = true) (hm : P.follows .mixedOrders = true) (hB : Region.lexB .any l.toArray = true)
    (h : wpQuietIn Fence.wide n P l.toArray (fun w' => ∃ n, w' = w.drewN n) (fun a' => ∀ w', (∃ n, w' = w.drewN n) → Q .normal a' w') l a) : (Code.region id l.toArray true).wpIn (Fence.wide.inRound l0) n P Q a w := by
  simp only [Region.lexB, Bool.and_eq_true] at hB
  refine wpIn_region_any hm (uB l0 (fun i o ho c hc => ?_) _ _ _ _ (wpAnyIn_of_quiet (C := fun w' => ∃ n, w' = w.drewN n) (Q := fun a' => ∀ w', (∃ n, w' = w.drewN n) → Q .normal a' w') rfl (fun _ w' hw' h => h w' hw') _ _ _ _ ⟨1, rfl⟩ ?_))
  · have hm2 : o ∈ l := by
      rw [List.getElem?_toArray] at ho
      exact fK ho
    have h3 := List.all_eq_true.1 hd o hm2
    rw [hc] at h3
    cases h3
  · have := wpAnyQIn_lex (F := Fence.wide) (n := n) (C := fun w' => ∃ n, w' = w.drewN n) (md := .any) hB.1 l.toArray.toList 0 (Array.replicate l.toArray.size false) a (by simp) (by simpa using hB.2) (by simpa using h)
    simpa using this
end
theorem uz {P : Program} {fn : Func} {p : Tmp} {ty : TypeId} (h : fn.results = #[.cell p ty]) (tmps : Array Value) (w : World) (g : Nat) (t : TypeId) (v : Value) (hp : tmps.getD p undef = .pointer (some ⟨g, 0, none⟩)) (hg : w.heap[g]? = some (.cells #[v] t (0, 0))) (hu : P.underlying ty = some .bool) : (results fn tmps).run P w = .ok v w := by
  have hp' : tmps[p]?.getD undef = .pointer (some ⟨g, 0, none⟩) := by simpa using hp
  have hc : w.cell? ⟨g, 0, none⟩ = some v := cell_of_row w g 0 _ _ _ hg
  have ha : (isAgg ty).run P w = .ok false w := by simp [isAgg, underlying, go_sem, hu]
  simp [results, h, hp', asAddr, loadVar, go_sem, ha, hc]
theorem YI (t : Array Value) (p q : Tmp) (u v : Value) : (#[p, q].zip #[u, v]).foldl (fun t (x : Tmp × Value) => t.setIfInBounds x.1 x.2) t = (t.setIfInBounds p u).setIfInBounds q v := by simp
def jE (c : Cal) (A : Option Addr) (a : Nat) (R : Option Addr) (r : Nat) (S : Value) : Array Value := #[I c.aN, .slice A c.au.length a, I c.bu, .slice R c.rules.length r, S]
structure Gs (w : World) (y : Int) (b : Bool) (W : World) : Prop where
  yr : W.heap[w.heap.size + 1]? = some (.cells #[I y] 3 (0, 0))
  res : W.heap[w.heap.size + 2]? = some (.cells #[.bool b] 4 (0, 0))
  up : Below w.heap.size w W
theorem Gs.grow {w W W' : World} {y : Int} {b : Bool} (h : Gs w y b W) (hb : Below W.heap.size W W') : Gs w y b W' :=
  ⟨(hb.block _ (aZ.1 h.yr).1).trans h.yr, (hb.block _ (aZ.1 h.res).1).trans h.res, ah h.up hb⟩
theorem Gs.start (w : World) (y : Int) (cs : Array Value) (t : TypeId) : Gs w y false (((w.alloc (.cells cs t)).alloc (.cells #[I y] 3)).alloc (.cells #[.bool false] 4)) := by
  have h1 := heap_alloc_last (w.alloc (.cells cs t)) (.cells #[I y] 3)
  have h2 := heap_alloc_last ((w.alloc (.cells cs t)).alloc (.cells #[I y] 3)) (.cells #[.bool false] 4)
  rw [World.size_alloc] at h1
  rw [World.size_alloc, World.size_alloc] at h2
  exact ⟨(Below.heap_alloc _ _ _ (by simp)).trans h1, h2, (((Below.refl _ w).alloc (Nat.le_refl _) _).alloc (by simp) _).alloc (by simp; omega) _⟩
theorem Gs.set {w W : World} {y : Int} {b : Bool} (h : Gs w y b W) (v : Bool) : Gs w y v (W.setCell ⟨w.heap.size + 2, 0, none⟩ (.bool v)) := by
  refine ⟨(heap_setCell_other W _ _ _ (by show w.heap.size + 1 ≠ w.heap.size + 2; omega)).trans h.yr, ?_, h.up.setCell (p := ⟨w.heap.size + 2, 0, none⟩) (by show w.heap.size ≤ w.heap.size + 2; omega) _⟩
  rw [heap_setCell_same W _ 0 _ _ _ h.res]
  rfl
theorem Me {w X Y : World} {y : Int} {b : Bool} {B : Nat} {row : Option Nat} (hB : w.heap.size ≤ B) (hs : Gs w y b X) (hg : X.grownBy Y row) (hr : ∀ r, row = some r → B ≤ r ∧ ∃ o : Obj, X.heap[r]? = some o ∧ o.isCells = false) : Gs w y b Y := by
  have key : ∀ k cs t, X.heap[k]? = some (Obj.cells cs t (0, 0)) → Y.heap[k]? = X.heap[k]? := fun k cs t hk =>
    hg.block k (aZ.1 hk).1 fun e => by
      obtain ⟨_, o, ho, hc⟩ := hr k e.symm
      rw [hk] at ho; cases ho; cases hc
  exact ⟨(key _ _ _ hs.yr).trans hs.yr, (key _ _ _ hs.res).trans hs.res, hs.up.grown hg hs.up.size (fun k e => Nat.le_trans hB (hr k e).1)⟩
theorem Zo {w : World} {y : Int} {B : Nat} (hB : w.heap.size ≤ B) {β : Type} (f : β → Prop) : OwnFrom B (fun s W => Gs w y false W ∧ w.heap.size + 3 < W.heap.size ∧ f s) := fun _ _ _ _ hs hg hr => ⟨Me hB hs.1 hg hr, dR hs.2.1 hg.size, hs.2.2⟩
theorem U2 {w : World} {y : Int} {B : Nat} (hB : w.heap.size ≤ B) {rs : List Lr} (c : Code) : OwnFrom B (fun (pre : List (ElR rs)) W => c = .ret ∧ ∃ x ∈ pre, (y % 2 == x.1.2.rest) = true ∧ Gs w y x.1.2.yes W) := fun _ _ _ _ hs hg hr => by
  obtain ⟨h1, x, h2, h3, h4⟩ := hs
  exact ⟨h1, x, h2, h3, Me hB h4 hg hr⟩
theorem leapA (c : Cal) (A R : Option Addr) (a r : Nat) (S : Value) (y : Int) (w : World) (hc : gG c) (h : nN w w.heap.size A R c) : Calls Tryz.prog 130 #[.agg (jE c A a R r S), I y] w (Gives (.bool (oV c y)) w) := by
  refine (callsIn_wide (n := 3)).1 ?_
  have hro : Fence.wide.round = none := rfl
  have h1 : 1 ≤ 3 := by omega
  obtain ⟨n, hn⟩ : ∃ n, c.rules.length = n := ⟨_, rfl⟩
  have hru := hc.ru
  obtain ⟨ep, m0, m1, lp, rs, rfl, b1, b2, b3, b4, hrs⟩ := hc.form
  simp only at hn hru
  have Z4 := ae hrs
  have HH := ae h
  have HN := ae hn
  have HV := ae (ag w (.cells #[I ep, .slice A 2 a, I lp, .slice R n r, S] (198)))
  have e0 : jE ⟨ep, [m0, m1], lp, rs⟩ A a R r S = #[I ep, .slice A 2 a, I lp, .slice R n r, S] := by rw [← hn]; rfl
  rw [e0]
  clear hc h hn hrs e0 b1 b2 b3 b4
  refine callsIn_of_wp_marks Tryz.func130 rfl trivial ?_ hro
  simp only [Tryz.ntmps130, List.size_toArray, List.length_cons, List.length_nil, Nat.reduceAdd, Nat.reduceSub, Array.replicate_succ, Array.replicate_zero, List.push_toArray, List.append_toArray, List.nil_append, List.cons_append]
  gi_wp2_with (refine ⟨trivial, ?_⟩; gi_at_call 137; refine (Qd Fence.wide 2 trivial hro _ _ _ _).mono ?_; rintro e w' ⟨rfl, rfl⟩)
  obtain ⟨Wx, QH⟩ : ∃ Wx, ((w.alloc (.cells #[I ep, .slice A 2 a, I lp, .slice R n r, S] (198))).alloc (.cells #[I y] 3)).alloc (.cells #[.bool false] 4) = Wx := ⟨_, rfl⟩
  have hV3 : Gs w y false Wx := by rw [← QH]; exact Gs.start _ _ _ _
  have hsz0 : Wx.heap.size = w.heap.size + 3 := by rw [← QH]; simp
  rw [QH]
  have bS := Boxed.new Wx 45 (.slice R n r)
  have hb4 := ag Wx (.cells #[.slice R n r] 45)
  obtain ⟨W0, hW0⟩ : ∃ W0, Wx.alloc (.cells #[.slice R n r] 45) = W0 := ⟨_, rfl⟩
  have hsz4 : W0.heap.size = w.heap.size + 4 := by rw [← hW0, World.size_alloc, hsz0]
  rw [hW0] at bS hb4 ⊢
  rw [hsz0] at bS hb4
  have hV4 : Gs w y false W0 := hV3.grow (by rw [hsz0]; exact hb4)
  have hrul : rs.length = 0 ∨ ∃ b off, R = some ⟨b, off, none⟩ ∧ b < w.heap.size ∧ P6 W0 b off rs := by
    rcases HH.out.rules with h0 | ⟨b, off, e, hb, hc⟩
    · refine .inl ?_
      rw [dJ (s := 3) Lr.cells rs (fun _ _ => rfl)] at h0
      omega
    · exact .inr ⟨b, off, e, hb, fun j x hx => ⟨aU (aB.elem (s := 3) (f := Lr.cells) (fun _ _ => rfl) hc j x hx) hV4.up hb, rfl⟩⟩
  have hst := Gy Fence.wide (3 - 1) trivial hro (by omega) (w.heap.size + 3) w.heap.size R r rs (by omega) W0 (by omega) (by omega) (by rw [HN.out]; exact bS.cell) hrul
  rw [HN.out] at hst
  clear QH hb4 hW0 hsz0 hrul hV3 bS
  refine wpIn_rangeFunc_ownH hro h1 (gf := 140) (lb := #[.pointer (some ⟨w.heap.size + 3, 0, none⟩)]) rfl trivial (enters_of Tryz.func140 (by kernel_rfl) rfl)
    hst (fun h k => h.trans k) (Yv (by omega) (by omega)) (Below.refl _ _) (fun _ => rfl)
    (fun pre W => Gs w y false W ∧ w.heap.size + 3 < W.heap.size ∧ ∀ x ∈ pre, (y % 2 == x.1.2.rest) = false)
    (fun c pre W => c = .ret ∧ ∃ x ∈ pre, (y % 2 == x.1.2.rest) = true ∧ Gs w y x.1.2.yes W)
    (Zo (by omega) _)
    (fun c => U2 (by omega) c)
    ⟨hV4, by omega, fun _ h => nomatch h⟩
    (fun x a' W => ∃ B, w.heap.size + 3 < B ∧ W.heap[B]? = some (.cells x.1.2.cells.toArray 134 (0, 0)) ∧ a' = ({ tmps := #[.agg #[I ep, .slice A 2 a, I lp, .slice R n r, S], I y, .pointer (some ⟨w.heap.size, 0, none⟩), .pointer (some ⟨w.heap.size + 1, 0, none⟩), .pointer (some ⟨w.heap.size + 1 + 1, 0, none⟩), undef, .pointer (some ⟨B, 0, none⟩), .pointer (some ⟨w.heap.size, 0, none⟩), .pointer (some ⟨w.heap.size, 3, none⟩), .slice R n r, .func (.func 140) #[] #[.pointer (some ⟨w.heap.size + 1 + 1 + 1, 0, none⟩)], I (x.1.1 : Int), .agg x.1.2.cells.toArray, undef, undef, undef, undef, undef, undef, undef, undef, undef], defers := [] } : Act))
    (fun x a' _ X Y row hs hg hr => by obtain ⟨B, h1, h2, h3⟩ := hs; exact ⟨B, h1, qy B _ _ () X Y row h2 hg hr, h3⟩)
    ?assign ?body ?done ?stop
  case assign =>
    rintro l pre ⟨⟨i, ⟨ev, re, ye⟩⟩, hx⟩ W K hci hK
    have IW := ae hci
    have hsz := hci.2.1
    clear hci
    rw [YI]
    simp only [Lr.cells, List.setIfInBounds_toArray, List.set_cons_succ, List.set_cons_zero]
    gi_wp2_with (first | ((with_reducible refine pX 134 ?_); refine ik rfl _ rfl #[I 0, I 0, .bool false] (by kernel_rfl) ?_) | ((with_reducible refine mM 134 ?_); go_must (refine dW rfl _ _ _ rfl #[I ev, I re, .bool ye] rfl rfl 134 #[I 0, I 0, .bool false] rfl (by kernel_rfl) rfl (by kernel_rfl) ?_); intro W5 hb5 hs5 hh5 oL hk5; have kT := ae hb5; have Np := ae hh5; have tu := ae hk5; clear hb5 hs5 hh5 oL hk5))
    exact hK _ _ (tu.out.from _) ⟨kT.out.mono (by omega), kT.out.cell (p := ⟨w.heap.size + 3, 0, none⟩) (by show w.heap.size + 3 < _; omega)⟩ ⟨IW.out.1.grow kT.out, dR hsz kT.out.size, IW.out.2.2⟩ ⟨W.heap.size, by omega, Np.out, rfl⟩
  case body =>
    rintro l pre x a' W hl _ hci ⟨B, hB, hblk, rfl⟩ hlt2
    obtain ⟨⟨i, ⟨ev, re, ye⟩⟩, hx⟩ := x
    simp only [Lr.cells] at hblk ⊢
    have hev : ev = 2 ∧ 0 ≤ re ∧ re < 2 := by
      rcases Z4.out with h0 | ⟨q, yy, h0, q1, q2, _⟩
      · rw [h0] at hx; cases hx
      · rw [h0] at hx
        have hi : i = 0 := by have := (iU.1 hx).1; simp at this; omega
        subst hi
        injection hx with hx
        injection hx with e1 e2 e3
        subst e1 e2 e3
        exact ⟨rfl, q1, q2⟩
    obtain ⟨rfl, r1, r2⟩ := hev
    have hc0 : W.cell? ⟨B, 0, none⟩ = some (I 2) := cell_of_row W B 0 _ _ _ hblk
    have hc1 : W.cell? ⟨B, 1, none⟩ = some (I re) := cell_of_row W B 1 _ _ _ hblk
    have hc2 : W.cell? ⟨B, 2, none⟩ = some (.bool ye) := cell_of_row W B 2 _ _ _ hblk
    have hcy : W.cell? ⟨w.heap.size + 1, 0, none⟩ = some (I y) := cell_of_row W _ 0 _ _ _ hci.1.yr
    have hcr : W.cell? ⟨w.heap.size + 1 + 1, 0, none⟩ = some (.bool false) := cell_of_row W (w.heap.size + 2) 0 _ _ _ hci.1.res
    have hfr : W.frozen? ⟨w.heap.size + 1 + 1, 0, none⟩ = false := frozen_of_row _ (w.heap.size + 2) 0 _ _ hci.1.res
    have IW := ae hci
    have XM := ae (fun W' => Ar y 2 W' (by omega) (by omega))
    clear hci hblk r1 r2
    gi_wp2_with fail
    refine qi (by kernel_rfl) (by kernel_rfl) (by kernel_rfl) ?_
    iterate 7 (
      refine wpQuietIn_step (by first | (go_simp; done) | exact fun _ _ _ _ => True.intro) (fun K hK => ?_)
      go_simp
      first
        | (refine hK _ ?_; clear hK K)
        | (apply Exists.intro
           refine ⟨fun _ => ?_, hK _ ?_⟩
           (gi_at_call 116; exact CallsIn.quiet_of_same (callsIn_wide.2 (XM.out _)))
           clear hK K))
    refine wpQuietIn_nil ?_
    rintro _ ⟨k, rfl⟩
    obtain ⟨t, ht⟩ : ∃ t, (y % 2 == re) = t := ⟨_, rfl⟩
    have HT := ae ht
    rw [ht]
    clear ht hc0 hc1 hcy
    have SN := ae (IW.out.1.grow (below_drewN' W k))
    cases t
    · gi_wp2
      exact ⟨(show KeepsOthers W (W.drewN k) from ⟨Nat.le_refl _, fun _ _ h _ => h⟩).from _, ⟨(below_drewN' W k).mono IW.out.1.up.size, rfl⟩, SN.out, IW.out.2.1, fun x hx => by
        rcases List.mem_append.1 hx with h1 | h1
        · exact IW.out.2.2 x h1
        · rw [List.mem_singleton.1 h1]
          exact HT.out⟩
    · gi_wp2
      iterate 4 (try (rw [Oper.semAt_eq _ _ _ (fun c h => by cases h)]; go_simp; gi_wp2))
      exact ⟨((show KeepsOthers W (W.drewN k) from ⟨Nat.le_refl _, fun _ _ h _ => h⟩).trans (KeepsOthers.setCell _ _ _)).from _, rfl, _, List.mem_append_right _ (List.mem_singleton.2 rfl), HT.out, SN.out.set ye⟩
  case done =>
    rintro D ys W hD rfl ⟨hlp, hsz, hall⟩ hK
    have hcr : W.cell? ⟨w.heap.size + 1 + 1, 0, none⟩ = some (.bool false) := cell_of_row W (w.heap.size + 2) 0 _ _ _ hlp.res
    have hfr : W.frozen? ⟨w.heap.size + 1 + 1, 0, none⟩ = false := frozen_of_row _ (w.heap.size + 2) 0 _ _ hlp.res
    have En := ae hlp
    have kS := ae hall
    clear hlp hall
    gi_wp2
    have hK2 : (W.setCell ⟨w.heap.size + 1 + 1, 0, none⟩ (.bool false)).heap[D]? = some (.deferred (some [])) := (heap_setCell_other W _ _ _ (by show D ≠ w.heap.size + 1 + 1; omega)).trans hK
    refine ⟨by simp, .inl ⟨_, _, rfl, run_takeDeferred hK2, ?_⟩⟩
    have HS := ae (En.out.set false)
    refine ⟨_, uz rfl _ _ (w.heap.size + 2) _ (.bool false) rfl ((World.putObj_heap_other (by omega)).trans HS.out.res) Tryz.underlying4, ?_⟩
    have hF : oV ⟨ep, [m0, m1], lp, rs⟩ y = false := by
      rcases Z4.out with h0 | ⟨q, yy, h0, q1, q2, _⟩
      · subst h0
        rfl
      · subst h0
        have hn1 : n = 1 := HN.out.symm
        subst hn1
        have h5 := kS.out ⟨(0, ⟨2, q, yy⟩), rfl⟩ (by rw [GG _ 0 0 ⟨2, q, yy⟩ rfl rfl]; exact List.mem_append_right _ (List.mem_singleton.2 rfl))
        show ((y % 2 == q) && yy) = false
        rw [show (y % 2 == q) = false from h5]
        rfl
    rw [hF]
    exact ⟨rfl, HS.out.up.trans (belowK_b (w := W0) (n₀ := w.heap.size) (by omega) _ D _ (.deferred none) hD hK2 rfl rfl)⟩
  case stop =>
    rintro D c pre W hD hpre ⟨rfl, x, hx, ht, hlp⟩ hK
    have En := ae hlp
    have HT := ae ht
    clear hlp ht
    gi_wp2
    refine ⟨by simp, .inl ⟨_, _, rfl, run_takeDeferred hK, ?_⟩⟩
    refine ⟨_, uz rfl _ _ (w.heap.size + 2) _ (.bool x.1.2.yes) rfl ((World.putObj_heap_other (by omega)).trans En.out.res) Tryz.underlying4, ?_⟩
    have hF : oV ⟨ep, [m0, m1], lp, rs⟩ y = x.1.2.yes := by
      obtain ⟨⟨i, v⟩, hv⟩ := x
      rcases Z4.out with h0 | ⟨q, yy, h0, q1, q2, _⟩
      · subst h0
        cases hv
      · subst h0
        have hi : i = 0 := by have := (iU.1 hv).1; simp at this; omega
        subst hi
        have hv2 : some (⟨2, q, yy⟩ : Lr) = some v := hv
        injection hv2 with hv2
        subst hv2
        have h5 := HT.out
        show ((y % 2 == q) && yy) = yy
        rw [show (y % 2 == q) = true from h5]
        rfl
    rw [hF]
    exact ⟨rfl, En.out.up.trans (belowK_b (w := W0) (n₀ := w.heap.size) (by omega) _ D _ (.deferred none) hD hK rfl rfl)⟩
attribute [local go_sem] jE aF
theorem Rh (c:Cal) (A R:Option Addr) (a r:Nat) (S:Value) (y m:Int) (w:World) (hc:gG c) (h:nN w w.heap.size A R c) (hm:m=1∨m=2):Calls Tryz.prog 115 #[.agg (jE c A a R r S),I y,I m] w (Gives (I (dw c y m)) w):=by
 have HL:=ae (fun (W:World) (hb:Below w.heap.size w W)=>leapA c A R a r S y W hc ((h.au.keep hb).more hb.size |> fun h1=>⟨h1,(h.rules.keep hb).more hb.size⟩));obtain ⟨n,hn⟩:∃n,c.rules.length=n:=⟨_,rfl⟩;have hMF:=ae (show dw c y m=dw c y m from rfl);obtain ⟨lv,hlv⟩:∃b,oV c y=b:=⟨_,rfl⟩;rw [hlv] at HL;obtain ⟨ep,m0,m1,lp,rs,rfl,b1,b2,b3,b4,hrs⟩:=hc.form;simp only at hn;obtain ⟨b,off,rfl,hb,hcl⟩:=h.au.there (by show 0<2;omega);have f0:w.cell? ⟨b,off,none⟩=some (I m0):=hcl 0 _ rfl;have f1:w.cell? ⟨b,off+1,none⟩=some (I m1):=hcl 1 _ rfl;have hne:¬b=w.heap.size:=by omega
 have e0:(jE ⟨ep,[m0,m1],lp,rs⟩ (some ⟨b,off,none⟩) a R r S)= #[I ep, .slice (some ⟨b,off,none⟩) 2 a,I lp, .slice R n r,S]:=by rw [←hn];rfl
 rw [e0] at HL ⊢;have HV:=ae (jS.start w #[I ep, .slice (some ⟨b,off,none⟩) 2 a,I lp, .slice R n r,S] (198));have Wi:=ae hlv;clear hc h hcl hn hrs e0 hlv hMF;rcases hm with rfl|rfl
 ·by_cases hl:lp=0
  ·subst hl;have HE:Hid (dw ⟨ep,[m0,m1],0,rs⟩ y 1=m0+(if lv=true then 1 else 0)):=ae (by
    unfold dw;rw [Wi.out];cases lv<;>rfl)
   go_enter Tryz.func115,Tryz.ntmps115;go_wp2_with fail;refine (HL.out _ HV.out.up).mono ?_;rintro e w1 ⟨rfl,hb1⟩;have HW:=ae (HV.out.grow hb1);clear hb1;cases lv
   ·go_wp2_with fail;go_ret;exact ⟨by rw [HE.out];first|rfl|(rw [if_neg (by decide),Int.add_zero];rfl),HW.out.up⟩
   ·go_wp2_with fail;go_ret;exact ⟨by rw [HE.out];first|rfl|(rw [if_neg (by decide),Int.add_zero];rfl),HW.out.up⟩
  ·have hl2:¬(0:Int)=lp:=fun e=>hl e.symm;have HE:Hid (dw ⟨ep,[m0,m1],lp,rs⟩ y 1=m0):=ae (by
    unfold dw;rw [if_neg (fun h=>hl h.1.symm)];show m0+0=m0;omega)
   go_enter Tryz.func115,Tryz.ntmps115;go_wp2_with fail;go_ret;exact ⟨by rw [HE.out];rfl,HV.out.up⟩
 ·by_cases hl:lp=1
  ·subst hl;have HE:Hid (dw ⟨ep,[m0,m1],1,rs⟩ y 2=m1+(if lv=true then 1 else 0)):=ae (by
    unfold dw;rw [Wi.out];cases lv<;>rfl)
   go_enter Tryz.func115,Tryz.ntmps115;go_wp2_with fail;refine (HL.out _ HV.out.up).mono ?_;rintro e w1 ⟨rfl,hb1⟩;have HW:=ae (HV.out.grow hb1);clear hb1;cases lv
   ·go_wp2_with fail;go_ret;exact ⟨by rw [HE.out];first|rfl|(rw [if_neg (by decide),Int.add_zero];rfl),HW.out.up⟩
   ·go_wp2_with fail;go_ret;exact ⟨by rw [HE.out];first|rfl|(rw [if_neg (by decide),Int.add_zero];rfl),HW.out.up⟩
  ·have hl2:¬(1:Int)=lp:=fun e=>hl e.symm;have HE:Hid (dw ⟨ep,[m0,m1],lp,rs⟩ y 2=m1):=ae (by
    unfold dw;rw [if_neg (fun h=>hl h.1.symm)];show m1+0=m1;omega)
   go_enter Tryz.func115,Tryz.ntmps115;go_wp2_with fail;go_ret;exact ⟨by rw [HE.out];rfl,HV.out.up⟩
theorem SA (c:Cal) (y:Int) (hc:gG c):dw c y 1+dw c y 2=dK c y:=by
 obtain ⟨ep,m0,m1,lp,rs,rfl,b1,b2,b3,b4,hrs⟩:=hc.form;obtain ⟨lv,hlv⟩:∃b,oV ⟨ep,[m0,m1],lp,rs⟩ y=b:=⟨_,rfl⟩;have hl:lv=true→lp=0∨lp=1:=fun h=>by
  rcases hrs with rfl|⟨q,yy,rfl,q1,q2,q3⟩
  ·rw [←hlv] at h;cases h
  ·omega
 unfold dw dK;rw [hlv];cases lv
 ·show (m0+(if (1:Int) - 1=lp∧false=true then 1 else 0))+(m1+(if (2:Int) - 1=lp∧false=true then 1 else 0))=(m0+m1)+0;rw [if_neg (fun h=>nomatch h.2),if_neg (fun h=>nomatch h.2)];omega
 ·show (m0+(if (1:Int) - 1=lp∧true=true then 1 else 0))+(m1+(if (2:Int) - 1=lp∧true=true then 1 else 0))=(m0+m1)+1;rcases hl rfl with rfl|rfl
  ·rw [if_pos ⟨rfl,rfl⟩,if_neg (fun h=>by have:=h.1;omega)];omega
  ·rw [if_neg (fun h=>by have:=h.1;omega),if_pos ⟨rfl,rfl⟩];omega
theorem Xk (c:Cal) (A R:Option Addr) (a r:Nat) (S:Value) (y:Int) (w:World) (hc:gG c) (h:nN w w.heap.size A R c):Calls Tryz.prog 102 #[.agg (jE c A a R r S),I y] w (Gives (I (dK c y)) w):=by
 have Lj:=ae (fun (m:Int) (hm:m=1∨m=2) (W:World) (hb:Below w.heap.size w W)=>Rh c A R a r S y m W hc (h.grow hb) hm);have XT:=ae (SA c y hc);have q1b:=jV c y 1 hc (.inl rfl);have q2b:=jV c y 2 hc (.inr rfl);obtain ⟨n,hn⟩:∃n,c.rules.length=n:=⟨_,rfl⟩;have H1:=ae (Lj.out 1 (.inl rfl));have H2:=ae (Lj.out 2 (.inr rfl));obtain ⟨q1,hq1⟩:∃q,dw c y 1=q:=⟨_,rfl⟩;obtain ⟨q2,hq2⟩:∃q,dw c y 2=q:=⟨_,rfl⟩;rw [hq1] at H1 XT q1b;rw [hq2] at H2 XT q2b;obtain ⟨ep,m0,m1,lp,rs,rfl,b1,b2,b3,b4,hrs⟩:=hc.form;simp only at hn;have e0:(jE ⟨ep,[m0,m1],lp,rs⟩ A a R r S)= #[I ep, .slice A 2 a,I lp, .slice R n r,S]:=by rw [←hn];rfl
 rw [e0] at H1 H2 ⊢;have HV:=ae (jS.start w #[I ep, .slice A 2 a,I lp, .slice R n r,S] (198));have ha:(Tryz.prog.info? (198)).map (·.size)=some 5:=by kernel_rfl
 clear hc h hn hrs e0 hq1 hq2 Lj b1 b2 b3 b4;go_enter Tryz.func102,Tryz.ntmps102;go_wp2_with fail;refine wp_loop_rounds 3 ?_;rw [rounds_succ];go_wp2_with fail;refine (H1.out _ HV.out.up).mono ?_;rintro e w1 ⟨rfl,hb1⟩;have oH:=ae (HV.out.grow hb1);have v0:=oH.out.row.2 0;have v1:=oH.out.row.2 1;have v2:=oH.out.row.2 2;have v3:=oH.out.row.2 3;have v4:=oH.out.row.2 4;clear hb1 H1 HV;go_wp2_with fail;rw [rounds_succ];go_wp2_with fail;refine (H2.out _ oH.out.up).mono ?_;rintro e w2 ⟨rfl,hb2⟩;have ni:=ae (oH.out.grow hb2);clear hb2 H2 oH v0 v1 v2 v3 v4;go_wp2_with fail;rw [rounds_succ];go_wp2_with fail;go_ret;exact ⟨by rw [←XT.out];rfl,ni.out.up⟩
end Go.Proofs.YtdibbemgpikgjaaGreat
namespace Go.Proofs.YtdibbemgpikgjaaGreat
open Go Go.RowKit
theorem Hr (c:Cal) (A R:Option Addr) (a r:Nat) (y m:Int) (w:World) (hc:gG c) (h:nN w w.heap.size A R c) (hm:m=1∨m=2):Calls Tryz.prog 100 #[.agg (aF c A a R r),I y,I m] w (Gives (I (dw c y m)) w):=by
 have Lj:=ae (fun (W:World) (hb:Below w.heap.size w W)=>Rh c A R a r (.slice none 0 0) y m W hc (h.grow hb) hm);have je:=ae (fun (W:World) (hb:Below w.heap.size w W)=>nP c A R a r W hc (h.grow hb));obtain ⟨n,hn⟩:∃n,c.rules.length=n:=⟨_,rfl⟩;obtain ⟨ep,m0,m1,lp,rs,rfl,b1,b2,b3,b4,hrs⟩:=hc.form;simp only at hn;have e1:aF ⟨ep,[m0,m1],lp,rs⟩ A a R r= #[I ep, .slice A 2 a,I lp, .slice R n r]:=by rw [←hn];rfl
 have e2:∀S,jE ⟨ep,[m0,m1],lp,rs⟩ A a R r S= #[I ep, .slice A 2 a,I lp, .slice R n r,S]:=fun S=>by rw [←hn];rfl
 have HV:=ae (jS.start w #[I ep, .slice A 2 a,I lp, .slice R n r] 47);obtain ⟨q,hq⟩:∃q,dw ⟨ep,[m0,m1],lp,rs⟩ y m=q:=⟨_,rfl⟩;rw [hq,e2] at Lj;rw [e1] at je ⊢;rw [hq];have p1:¬m<1:=by omega
 have p2:¬(2:Int)<m:=by omega
 clear hc h hn hrs e1 e2 hq b1 b2 b3 b4 hm;go_enter Tryz.func100,Tryz.ntmps100;go_wp2_with fail;refine (je.out _ HV.out.up).mono ?_;rintro e w1 ⟨rfl,hb1⟩;have oH:=ae (HV.out.grow hb1);have v0:=oH.out.row.2 0;have v1:=oH.out.row.2 1;have v2:=oH.out.row.2 2;have v3:=oH.out.row.2 3;clear hb1 je HV;go_wp2_with fail;refine (Lj.out _ oH.out.up).mono ?_;rintro e w2 ⟨rfl,hb2⟩;have ni:=ae (oH.out.grow hb2);clear hb2 Lj oH v0 v1 v2 v3;go_wp2_with fail;go_ret;exact ⟨rfl,ni.out.up⟩
theorem VC (c:Cal) (A R:Option Addr) (a r:Nat) (y:Int) (w:World) (hc:gG c) (h:nN w w.heap.size A R c):Calls Tryz.prog 77 #[.agg (aF c A a R r),I y] w (Gives (I (dK c y)) w):=by
 have Lj:=ae (fun (W:World) (hb:Below w.heap.size w W)=>Xk c A R a r (.slice none 0 0) y W hc (h.grow hb));have je:=ae (fun (W:World) (hb:Below w.heap.size w W)=>nP c A R a r W hc (h.grow hb));obtain ⟨n,hn⟩:∃n,c.rules.length=n:=⟨_,rfl⟩;obtain ⟨ep,m0,m1,lp,rs,rfl,b1,b2,b3,b4,hrs⟩:=hc.form;simp only at hn;have e1:aF ⟨ep,[m0,m1],lp,rs⟩ A a R r= #[I ep, .slice A 2 a,I lp, .slice R n r]:=by rw [←hn];rfl
 have e2:∀S,jE ⟨ep,[m0,m1],lp,rs⟩ A a R r S= #[I ep, .slice A 2 a,I lp, .slice R n r,S]:=fun S=>by rw [←hn];rfl
 have HV:=ae (jS.start w #[I ep, .slice A 2 a,I lp, .slice R n r] 47);obtain ⟨q,hq⟩:∃q,dK ⟨ep,[m0,m1],lp,rs⟩ y=q:=⟨_,rfl⟩;rw [hq,e2] at Lj;rw [e1] at je ⊢;rw [hq];clear hc h hn hrs e1 e2 hq b1 b2 b3 b4;go_enter Tryz.func77,Tryz.ntmps77;go_wp2_with fail;refine (je.out _ HV.out.up).mono ?_;rintro e w1 ⟨rfl,hb1⟩;have oH:=ae (HV.out.grow hb1);have v0:=oH.out.row.2 0;have v1:=oH.out.row.2 1;have v2:=oH.out.row.2 2;have v3:=oH.out.row.2 3;clear hb1 je HV;go_wp2_with fail;refine (Lj.out _ oH.out.up).mono ?_;rintro e w2 ⟨rfl,hb2⟩;have ni:=ae (oH.out.grow hb2);clear hb2 Lj oH v0 v1 v2 v3;go_wp2_with fail;go_ret;exact ⟨rfl,ni.out.up⟩
def aH (zs:List Int):Array Value:=(zs.map fun z=>Value.int .u32 z).toArray
theorem bW (zs:List Int):(aH zs).size=zs.length:=by simp [aH]
theorem gJ (zs:List Int) (i:Nat) (h:i<zs.length):(aH zs)[i]? =some (.int .u32 (zs[i]?.getD 0)):=by
 simp [aH,h]
theorem Aq (zs:List Int) (i:Nat) (z:Int):(aH zs).setIfInBounds i (.int .u32 z)=aH (zs.set i z):=by
 simp [aH,List.map_set]
theorem jo (zs:List Int):(aH zs).all (·.oneCell')=true:=by
 rw [Array.all_eq_true_iff_forall_mem];intro v hv;simp [aH] at hv;obtain ⟨z,_,rfl⟩:=hv;rfl
section
variable {P:Program} {ops:Array Oper} {Q:Exit→Act→World→Prop} {a:Act} {w:World} {rest:List Oper} {o:Oper}
theorem aG (hg:o.guard=none) (t:TypeId) (ho:o.op= .alloc t) (cells:Array Value) (hz:(P.info? t).map (fun i=>(i.zero,i.size))=some (some (.agg cells),cells.size))
  (h:wpList P ops Q rest (a.put o.dst (.pointer (some ⟨w.heap.size,0,none⟩))) (w.alloc (.cells cells t))):wpList P ops Q (o::rest) a w:=by
 refine wpList_plain hg fun K hK=>?_;unfold Oper.wp execOp;simp only [ho,Sem.run_bind,mD w t (.agg cells) _ hz,Result.andThen_ok];exact hK _ _ h
end
def oJ (w:World) (b:Nat) (cs:Array Value):Prop:=b<w.heap.size∧∀i,w.cell? ⟨b,i,none⟩=cs[i]?
section
variable {P:Program} {ops:Array Oper} {Q:Exit→Act→World→Prop} {a:Act} {w:World} {rest:List Oper} {o:Oper}
theorem aW (hw:Region.wanted o (yielded ops a.tmps)=true) (ty:TypeId) (x:Operand) (ho:o.op= .load ty x) (g:Nat) (hx:a.eval x= .pointer (some ⟨g,0,none⟩)) (cs:Array Value) (hr:oJ w g cs)
  (d:TypeDesc) (hu:P.underlying ty=some d) (hd:d.isRow=true) (hi:(P.info? ty).map (·.size)=some cs.size)
  (h:wpList P ops Q rest (a.put o.dst (.agg cs)) w):wpList P ops Q (o::rest) a w:=by
 unfold wpList;rw [if_pos hw];have hc:w.rangeAt g 0 cs.toList:=fun j v hv=>by rw [Nat.zero_add,hr.2 j];simpa using hv
 refine .inl (wp_load_mid ty x ho g 0 hx cs.toList d hc hu hd (by rw [hi];simp) ?_);simpa using h
end
theorem aC {B g:Nat} {w0 w:World} (hb:Below B w0 w) (hBg:B≤g) (cs:Array Value):Below B w0 (w.setRow g cs):=
 hb.trans ⟨rfl,rfl,rfl,by simp [World.setRow],fun k hk=>setRow_other w g k cs (by omega)⟩
structure AV (b:Nat) (t:TypeId) (cs:Array Value) (W:World):Prop where
 var:W.heap[b]? =some (.cells cs t (0,0))
section
variable {b g:Nat} {t:TypeId} {cs:Array Value} {W W':World}
theorem AV.lt (h:AV b t cs W):b<W.heap.size:=(aZ.1 h.var).1
theorem AV.cell (h:AV b t cs W):∀i,W.cell? ⟨b,i,none⟩=cs[i]? :=fun i=>cell_of_row W _ i _ _ _ h.var
theorem AV.gm (h:AV b t cs W):∀i,W.frozen? ⟨b,i,none⟩=false:=fun i=>frozen_of_row W _ i _ _ h.var
theorem AV.below (h:AV b t cs W) (hb:Below W.heap.size W W'):AV b t cs W':=⟨(hb.block _ h.lt).trans h.var⟩
theorem AV.put (h:AV b t cs W) (o:Nat) (v:Value):AV b t (cs.setIfInBounds o v) (W.setCell ⟨b,o,none⟩ v):=⟨heap_setCell_same W _ o _ _ _ h.var⟩
theorem AV.far (h:AV b t cs W) (hn:b≠g) (o:Nat) (v:Value):AV b t cs (W.setCell ⟨g,o,none⟩ v):=⟨(heap_setCell_other W _ b v hn).trans h.var⟩
theorem AV.drew (h:AV b t cs W):AV b t cs W.drew:=⟨h.var⟩
theorem AV.new (W:World) (cs:Array Value) (t:TypeId):AV W.heap.size t cs (W.alloc (.cells cs t)):=⟨heap_alloc_last W _⟩
end
theorem yO:(Tryz.prog.info? 209).map (fun i=>(i.zero,i.size))=some (some (.agg (aH (List.replicate 64 0))),(aH (List.replicate 64 0)).size):=by kernel_rfl
section
variable {P:Program} {ops:Array Oper} {o:Oper} {a:Act} {w:World} {K:Act→World→Prop} {Q:Exit→Act→World→Prop} {E:Prop}
theorem fQ (hgd:o.guard=none) (t:TypeId) (ho:o.op= .alloc t) (cells:Array Value) (hz:(P.info? t).map (fun i=>(i.zero,i.size))=some (some (.agg cells),cells.size))
  (h:K (a.put o.dst (.pointer (some ⟨w.heap.size,0,none⟩))) (w.alloc (.cells cells t))):if Region.wanted o (yielded ops a.tmps)=true then Oper.wp P o a w K Q else E:=by
 have hw:Region.wanted o (yielded ops a.tmps)=true:=by simp [Region.wanted,hgd]
 rw [if_pos hw];unfold Oper.wp execOp;simp only [ho,Sem.run_bind,mD w t (.agg cells) _ hz,Result.andThen_ok];exact h
theorem jB (hgd:o.guard=none) (ty:TypeId) (x y:Operand) (ho:o.op= .store ty x y) (g:Nat) (cells:Array Value) (hx:a.eval x= .pointer (some ⟨g,0,none⟩)) (hy:a.eval y= .agg cells)
  (t:TypeId) (old:Array Value) (hg:w.heap[g]? =some (.cells old t (0,0))) (hi:(P.info? ty).map (·.size)=some cells.size) (hold:old.size=cells.size) (h1:cells.all (·.oneCell')=true)
  (h:K (a.put o.dst undef) (w.setRow g cells)):if Region.wanted o (yielded ops a.tmps)=true then Oper.wp P o a w K Q else E:=by
 have hw:Region.wanted o (yielded ops a.tmps)=true:=by simp [Region.wanted,hgd]
 rw [if_pos hw];exact wp_store_row ty x y ho g cells hx hy t old hg hi hold h1 h
end
theorem dC (w:World) (t:TypeId) (cs:Array Value) (l:List Value) (h:cs.toList=l):∀j u,l[j]? =some u→(w.alloc (.cells cs t)).cell? ((⟨w.heap.size,0,none⟩:Addr).add j)=some u:=by
 intro j u hu;rw [addr_add,cell_of_row _ _ j _ _ _ (heap_alloc_last w _),←Array.getElem?_toList,h];exact hu
theorem own_below {w w':World} {base e size n:Nat} {v:Value} {xs:List Value} (h:w.ownsRow base e size v n xs) (hb:Below w.heap.size w w'):w'.ownsRow base e size v n xs:=
 World.ownsRow.kept (row:=none) h ⟨hb.os,hb.tape,hb.output,hb.size,fun k hk _=>hb.block k hk⟩ (by cases v.ownBlock<;>simp)
theorem Sv {P:Program} {ops:Array Oper} {Q:Exit→Act→World→Prop} {md:Region.Mode} {S:World→Prop} {i:Nat} {oi:Oper} {v:Value} {d:Tmp} {fuel:Nat} {listed:Array Bool} {a:Act} {w:World} (hi:ops[i]? =some oi) (hd:oi.dst=some d)
  (hs:Region.noSelect ops=true) (hf:Region.free md ops listed i=true) (hr:(Region.ready md ops listed).contains i=true)
  (hQ:∀c a w,Q (.panic c) (a.put oi.dst v) w→Q (.panic c) a w) (hy:YieldsIf P ops S oi v a) (hS:S w)
  (h:wpAnyH P md ops Q S fuel (listed.setIfInBounds i true) (a.put (some d) v) w):wpAnyH P md ops Q S (fuel+1) listed a w:=
 wpAnyH_take hi hs hf hr hQ hy hS (by rw [hd];exact h)
theorem bV {P:Program} {ops:Array Oper} {S:World→Prop} {op:Oper} {a:Act} (hw:Region.wanted op (yielded ops a.tmps)=true) (t:TypeId) (parts:Array (Nat×Operand)) (ho:op.op= .build t parts) (cells:Array Value)
  (hb:P.built t (parts.map fun (i,x)=>(i,a.eval x)).toList=some cells):YieldsIf P ops S op (.agg cells) a:=
 .inl ⟨hw,fun w _=>by
  unfold execOp;simp only [ho,Sem.run_bind,run_build w t _ cells hb,Result.andThen_ok];rfl⟩
theorem nY (W:World) (o:Obj):(W.alloc o).heap.size=W.heap.size+1:=by simp
theorem AV.lq {b:Nat} {t:TypeId} {cs:Array Value} {W:World} (h:AV b t cs W) (ds:Array Value):AV b t ds (W.setRow b ds):=⟨setRow_heap _ _ _ _ _ _ h.var⟩
theorem AV.qJ {b c:Nat} {t:TypeId} {cs:Array Value} {W:World} (h:AV b t cs W) (hn:b≠c) (ds:Array Value):AV b t cs (W.setRow c ds):=⟨(setRow_other _ _ b _ hn).trans h.var⟩
theorem AV.jK {b:Nat} {t:TypeId} {cs:Array Value} {W:World} (h:AV b t cs W):oJ W b cs:=⟨h.lt,h.cell⟩
end Go.Proofs.YtdibbemgpikgjaaGreat
