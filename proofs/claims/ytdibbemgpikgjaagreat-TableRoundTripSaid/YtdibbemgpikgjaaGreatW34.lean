/- The texts Jb, Jc, Jd, in this order. -/
import Derived.Test.YtdibbemgpikgjaaGreatW00
import Derived.Test.YtdibbemgpikgjaaGreatW31
import Derived.Test.YtdibbemgpikgjaaGreatW33
set_option maxRecDepth 10000
set_option maxHeartbeats 8000000
namespace Go.Proofs.YtdibbemgpikgjaaGreat
open Go Go.RowKit
def Qk (rs : List Lr) (y : Int) : Bool := match rs.reverse.find? (fun r => y % r.every == r.rest) with
  | some r => r.yes
  | none => false
theorem FT : ∀ (rs : List Lr) (y : Nat), (ng rs y).isSome = true → ∀ r ∈ rs, (1 ≤ r.every ∧ r.every ≤ 400) ∧ 0 ≤ r.rest ∧ r.rest < r.every
  | [], _, _, _, h => nomatch h
  | x :: rs, y, h, r, hr => by
    unfold ng at h
    split at h
    · cases h
    · rename_i hb
      split at h
      · cases h
      · rcases List.mem_cons.1 hr with e | h1
        · rw [e]
          omega
        · exact FT rs _ h r h1
theorem Ou (rs : List Lr) (k : Nat) (hk : k ≤ rs.length) : (Jg rs k).map (·.1.2) = rs.reverse.take k := by
  induction k with
  | zero => rfl
  | succ k ih =>
    have h1 : rs.length - 1 - k < rs.length := by omega
    rw [Jh rs k (rs.length - 1 - k) rs[rs.length - 1 - k] (dK h1) rfl, List.map_append, ih (by omega)]
    rw [jJ rs.reverse k rs[rs.length - 1 - k] (by rw [List.getElem?_reverse (by omega), dK h1])]
    rfl
theorem lpG_no {rs : List Lr} {y : Int} (h : ∀ x ∈ Jg rs rs.length, (y % x.1.2.every == x.1.2.rest) = false) : Qk rs y = false := by
  have h1 : rs.reverse.find? (fun r => y % r.every == r.rest) = none := by
    rw [List.find?_eq_none]
    intro r hr
    have h2 : r ∈ (Jg rs rs.length).map (·.1.2) := by
      rw [Ou rs _ (Nat.le_refl _), List.take_of_length_le (by simp)]
      exact hr
    obtain ⟨x, hx, e⟩ := List.mem_map.1 h2
    rw [← e, h x hx]
    simp
  unfold Qk
  rw [h1]
theorem Xp {rs : List Lr} {y : Int} {k : Nat} {p : List (ZF rs)} {x : ZF rs} (hk : k ≤ rs.length) (e : p ++ [x] = Jg rs k) (h : ∀ x ∈ p, (y % x.1.2.every == x.1.2.rest) = false) (hx : (y % x.1.2.every == x.1.2.rest) = true) : Qk rs y = x.1.2.yes := by
  have h1 : rs.reverse.find? (fun r => y % r.every == r.rest) = some x.1.2 := by
    rw [← List.take_append_drop k rs.reverse, List.find?_append, ← Ou rs k hk, ← e, List.map_append, List.find?_append]
    have h2 : (p.map (·.1.2)).find? (fun r => y % r.every == r.rest) = none := by
      rw [List.find?_eq_none]
      intro r hr
      obtain ⟨z, hz, e⟩ := List.mem_map.1 hr
      rw [← e, h z hz]
      simp
    rw [h2]
    simp only [List.map_cons, List.map_nil, List.find?_cons, hx, Option.none_or, Option.some_or]
  unfold Qk
  rw [h1]
theorem Xq {w : World} {y : Int} {B : Nat} (hB : w.heap.size ≤ B) {rs : List Lr} (c : Code) : OwnFrom B (fun (pre : List (ZF rs)) W => c = .ret ∧ ∃ p x, pre = p ++ [x] ∧ (∀ z ∈ p, (y % z.1.2.every == z.1.2.rest) = false) ∧ (y % x.1.2.every == x.1.2.rest) = true ∧ I4 w y x.1.2.yes W) := fun _ _ _ _ hs hg hr => by
  obtain ⟨h1, p, x, h2, h5, h3, h4⟩ := hs
  exact ⟨h1, p, x, h2, h5, h3, OL hB h4 hg hr⟩
theorem leapG (c : Cal) (A R : Option Addr) (a r : Nat) (S : Value) (y : Int) (w : World) (hru : c.rules.length ≤ 16) (hgd : ∀ r ∈ c.rules, 1 ≤ r.every ∧ r.every ≤ 400) (h : oC w w.heap.size A R c) : Calls Tryz.prog 130 #[.agg (kJ c A a R r S), I y] w (Gives (.bool (Qk c.rules y)) w) := by
  refine (callsIn_wide (n := 3)).1 ?_
  have hro : Fence.wide.round = none := rfl
  have h1 : 1 ≤ 3 := by omega
  obtain ⟨ep, ms, lp, rs⟩ := c
  simp only at hru hgd
  obtain ⟨n, hn⟩ : ∃ n, rs.length = n := ⟨_, rfl⟩
  obtain ⟨mm, hmm⟩ : ∃ n, ms.length = n := ⟨_, rfl⟩
  have HGD := ae hgd
  have HH := ae h
  have HN := ae hn
  have HV := ae (ag w (.cells #[I ep, .slice A mm a, I lp, .slice R n r, S] (198)))
  have e0 : kJ ⟨ep, ms, lp, rs⟩ A a R r S = #[I ep, .slice A mm a, I lp, .slice R n r, S] := by rw [← hn, ← hmm]; rfl
  rw [e0]
  clear h hn hmm hgd e0
  refine callsIn_of_wp_marks Tryz.func130 rfl trivial ?_ hro
  simp only [Tryz.ntmps130, List.size_toArray, List.length_cons, List.length_nil, Nat.reduceAdd, Nat.reduceSub, Array.replicate_succ, Array.replicate_zero, List.push_toArray, List.append_toArray, List.nil_append, List.cons_append]
  gi_wp2_with (refine ⟨trivial, ?_⟩; gi_at_call 137; refine (SX Fence.wide 2 trivial hro _ _ _ _).mono ?_; rintro e w' ⟨rfl, rfl⟩)
  obtain ⟨Wx, TU⟩ : ∃ Wx, ((w.alloc (.cells #[I ep, .slice A mm a, I lp, .slice R n r, S] (198))).alloc (.cells #[I y] 3)).alloc (.cells #[.bool false] 4) = Wx := ⟨_, rfl⟩
  have hV3 : I4 w y false Wx := by rw [← TU]; exact I4.start _ _ _ _
  have hsz0 : Wx.heap.size = w.heap.size + 3 := by rw [← TU]; simp
  rw [TU]
  have bS := Boxed.new Wx 45 (.slice R n r)
  have hb4 := ag Wx (.cells #[.slice R n r] 45)
  obtain ⟨W0, hW0⟩ : ∃ W0, Wx.alloc (.cells #[.slice R n r] 45) = W0 := ⟨_, rfl⟩
  have hsz4 : W0.heap.size = w.heap.size + 4 := by rw [← hW0, World.size_alloc, hsz0]
  rw [hW0] at bS hb4 ⊢
  rw [hsz0] at bS hb4
  have hV4 : I4 w y false W0 := hV3.grow (by rw [hsz0]; exact hb4)
  have hrul : rs.length = 0 ∨ ∃ b off, R = some ⟨b, off, none⟩ ∧ b < w.heap.size ∧ SI W0 b off rs := by
    rcases HH.out.rules with h0 | ⟨b, off, e, hb, hc⟩
    · refine .inl ?_
      rw [dP (s := 3) Lr.cells rs (fun _ _ => rfl)] at h0
      omega
    · exact .inr ⟨b, off, e, hb, fun j x hx => ⟨aW (aB.elem (s := 3) (f := Lr.cells) (fun _ _ => rfl) hc j x hx) hV4.up hb, rfl⟩⟩
  have hst := Je Fence.wide (3 - 1) trivial hro (by omega) (w.heap.size + 3) w.heap.size R r rs (by omega) W0 (by omega) (by omega) (by rw [HN.out]; exact bS.cell) hrul
  rw [HN.out] at hst
  clear TU hb4 hW0 hsz0 hrul hV3 bS
  refine wpIn_rangeFunc_ownH hro h1 (gf := 140) (lb := #[.pointer (some ⟨w.heap.size + 3, 0, none⟩)]) rfl trivial (enters_of Tryz.func140 (by kernel_rfl) rfl)
    hst (fun h k => h.trans k) (bk_b (by omega) (by omega)) (Below.refl _ _) (fun _ => rfl)
    (fun pre W => I4 w y false W ∧ w.heap.size + 3 < W.heap.size ∧ ∀ x ∈ pre, (y % x.1.2.every == x.1.2.rest) = false)
    (fun c pre W => c = .ret ∧ ∃ p x, pre = p ++ [x] ∧ (∀ z ∈ p, (y % z.1.2.every == z.1.2.rest) = false) ∧ (y % x.1.2.every == x.1.2.rest) = true ∧ I4 w y x.1.2.yes W)
    (lp_own (by omega) _)
    (fun c => Xq (by omega) c)
    ⟨hV4, by omega, fun _ h => nomatch h⟩
    (fun x a' W => ∃ B, w.heap.size + 3 < B ∧ W.heap[B]? = some (.cells x.1.2.cells.toArray 134 (0, 0)) ∧ a' = ({ tmps := #[.agg #[I ep, .slice A mm a, I lp, .slice R n r, S], I y, .pointer (some ⟨w.heap.size, 0, none⟩), .pointer (some ⟨w.heap.size + 1, 0, none⟩), .pointer (some ⟨w.heap.size + 1 + 1, 0, none⟩), undef, .pointer (some ⟨B, 0, none⟩), .pointer (some ⟨w.heap.size, 0, none⟩), .pointer (some ⟨w.heap.size, 3, none⟩), .slice R n r, .func (.func 140) #[] #[.pointer (some ⟨w.heap.size + 1 + 1 + 1, 0, none⟩)], I (x.1.1 : Int), .agg x.1.2.cells.toArray, undef, undef, undef, undef, undef, undef, undef, undef, undef], defers := [] } : Act))
    (fun x a' _ X Y row hs hg hr => by obtain ⟨B, h1, h2, h3⟩ := hs; exact ⟨B, h1, Gv B _ _ () X Y row h2 hg hr, h3⟩)
    ?assign ?body ?done ?stop
  case assign =>
    rintro l pre ⟨⟨i, ⟨ev, re, ye⟩⟩, hx⟩ W K hci hK
    have IM := ae hci
    have hsz := hci.2.1
    clear hci
    rw [foldl2]
    simp only [Lr.cells, List.setIfInBounds_toArray, List.set_cons_succ, List.set_cons_zero]
    gi_wp2_with (first | ((with_reducible refine Ju 134 ?_); refine sK rfl _ rfl #[I 0, I 0, .bool false] (by kernel_rfl) ?_) | ((with_reducible refine xq 134 ?_); go_must (refine kL rfl _ _ _ rfl #[I ev, I re, .bool ye] rfl rfl 134 #[I 0, I 0, .bool false] rfl (by kernel_rfl) rfl (by kernel_rfl) ?_); intro W5 hb5 hs5 hh5 tq hk5; have oN := ae hb5; have HH5 := ae hh5; have zq := ae hk5; clear hb5 hs5 hh5 tq hk5))
    exact hK _ _ (zq.out.from _) ⟨oN.out.mono (by omega), oN.out.cell (p := ⟨w.heap.size + 3, 0, none⟩) (by show w.heap.size + 3 < _; omega)⟩ ⟨IM.out.1.grow oN.out, dS hsz oN.out.size, IM.out.2.2⟩ ⟨W.heap.size, by omega, HH5.out, rfl⟩
  case body =>
    rintro l pre x a' W hl _ hci ⟨B, hB, hblk, rfl⟩ hlt2
    obtain ⟨⟨i, ⟨ev, re, ye⟩⟩, hx⟩ := x
    simp only [Lr.cells] at hblk ⊢
    have hev : 1 ≤ ev ∧ ev ≤ 400 := HGD.out _ (gz hx)
    have hc0 : W.cell? ⟨B, 0, none⟩ = some (I ev) := cell_of_row W B 0 _ _ _ hblk
    have hc1 : W.cell? ⟨B, 1, none⟩ = some (I re) := cell_of_row W B 1 _ _ _ hblk
    have hc2 : W.cell? ⟨B, 2, none⟩ = some (.bool ye) := cell_of_row W B 2 _ _ _ hblk
    have hcy : W.cell? ⟨w.heap.size + 1, 0, none⟩ = some (I y) := cell_of_row W _ 0 _ _ _ hci.1.yr
    have hcr : W.cell? ⟨w.heap.size + 1 + 1, 0, none⟩ = some (.bool false) := cell_of_row W (w.heap.size + 2) 0 _ _ _ hci.1.res
    have hfr : W.frozen? ⟨w.heap.size + 1 + 1, 0, none⟩ = false := frozen_of_row _ (w.heap.size + 2) 0 _ _ hci.1.res
    have IM := ae hci
    have V4 := ae (fun W' => Ci y ev W' (by omega) (by omega))
    clear hci hblk
    gi_wp2_with fail
    refine qY (by kernel_rfl) (by kernel_rfl) (by kernel_rfl) ?_
    iterate 7 (
      refine wpQuietIn_step (by first | (go_simp; done) | exact fun _ _ _ _ => True.intro) (fun K hK => ?_)
      go_simp
      first
        | (refine hK _ ?_; clear hK K)
        | (apply Exists.intro
           refine ⟨fun _ => ?_, hK _ ?_⟩
           (gi_at_call 116; exact CallsIn.quiet_of_same (callsIn_wide.2 (V4.out _)))
           clear hK K))
    refine wpQuietIn_nil ?_
    rintro _ ⟨k, rfl⟩
    obtain ⟨t, ht⟩ : ∃ t, (y % ev == re) = t := ⟨_, rfl⟩
    have HT := ae ht
    rw [ht]
    clear ht hc0 hc1 hcy
    have HCK := ae (IM.out.1.grow (below_drewN' W k))
    cases t
    · gi_wp2
      exact ⟨(show KeepsOthers W (W.drewN k) from ⟨Nat.le_refl _, fun _ _ h _ => h⟩).from _, ⟨(below_drewN' W k).mono IM.out.1.up.size, rfl⟩, HCK.out, IM.out.2.1, fun x hx => by
        rcases List.mem_append.1 hx with h1 | h1
        · exact IM.out.2.2 x h1
        · rw [List.mem_singleton.1 h1]
          exact HT.out⟩
    · gi_wp2
      iterate 4 (try (rw [Oper.semAt_eq _ _ _ (fun c h => by cases h)]; go_simp; gi_wp2))
      exact ⟨((show KeepsOthers W (W.drewN k) from ⟨Nat.le_refl _, fun _ _ h _ => h⟩).trans (KeepsOthers.setCell _ _ _)).from _, rfl, pre, _, rfl, IM.out.2.2, HT.out, HCK.out.set ye⟩
  case done =>
    rintro D ys W hD rfl ⟨hlp, hsz, hall⟩ hK
    have hcr : W.cell? ⟨w.heap.size + 1 + 1, 0, none⟩ = some (.bool false) := cell_of_row W (w.heap.size + 2) 0 _ _ _ hlp.res
    have hfr : W.frozen? ⟨w.heap.size + 1 + 1, 0, none⟩ = false := frozen_of_row _ (w.heap.size + 2) 0 _ _ hlp.res
    have IQ := ae hlp
    have lQ := ae hall
    clear hlp hall
    gi_wp2
    have hK2 : (W.setCell ⟨w.heap.size + 1 + 1, 0, none⟩ (.bool false)).heap[D]? = some (.deferred (some [])) := (heap_setCell_other W _ _ _ (by show D ≠ w.heap.size + 1 + 1; omega)).trans hK
    refine ⟨by simp, .inl ⟨_, _, rfl, run_takeDeferred hK2, ?_⟩⟩
    have HS := ae (IQ.out.set false)
    refine ⟨_, vP rfl _ _ (w.heap.size + 2) _ (.bool false) rfl ((World.putObj_heap_other (by omega)).trans HS.out.res) Tryz.underlying4, ?_⟩
    have hF : Qk rs y = false := lpG_no (by rw [HN.out]; exact lQ.out)
    rw [hF]
    exact ⟨rfl, HS.out.up.trans (belowK_b (w := W0) (n₀ := w.heap.size) (by omega) _ D _ (.deferred none) hD hK2 rfl rfl)⟩
  case stop =>
    rintro D c pre W hD hpre ⟨rfl, p, x, hpx, hfa, ht, hlp⟩ hK
    have IQ := ae hlp
    have HT := ae ht
    clear hlp ht
    gi_wp2
    refine ⟨by simp, .inl ⟨_, _, rfl, run_takeDeferred hK, ?_⟩⟩
    refine ⟨_, vP rfl _ _ (w.heap.size + 2) _ (.bool x.1.2.yes) rfl ((World.putObj_heap_other (by omega)).trans IQ.out.res) Tryz.underlying4, ?_⟩
    have hF : Qk rs y = x.1.2.yes := by
      obtain ⟨k, hk, e⟩ := hpre
      exact Xp (by rw [HN.out]; exact hk) (hpx.symm.trans e) hfa HT.out
    rw [hF]
    exact ⟨rfl, IQ.out.up.trans (belowK_b (w := W0) (n₀ := w.heap.size) (by omega) _ D _ (.deferred none) hD hK rfl rfl)⟩
def zF (c:Cal) (y:Int) (m:Nat):Int:=(c.aj[m]?.getD 0)+(bif (m:Int)==c.aY then (bif Qk c.rules y then 1 else 0) else 0)
def oh (c:Cal) (y:Int):Nat→Int
 |0=>0
 |m+1=>oh c y m+zF c y m
def Bh (c:Cal) (y:Int):Int:=oh c y c.aj.length
theorem G5 (c:Cal) (y:Int) (m:Nat) (hc:kZ c) (hm:m<c.aj.length):1≤zF c y m∧zF c y m≤41:=by
 have h1:=hc.mo (c.aj[m]) (List.getElem_mem hm);unfold zF;rw [dK hm,Option.getD_some];cases (m:Int)==c.aY<;>cases Qk c.rules y<;>simp only [cond_true,cond_false]<;>omega
theorem Bi (c:Cal) (y:Int) (hc:kZ c) (k:Nat) (hk:k≤c.aj.length):(k:Int)≤oh c y k∧oh c y k≤41*(k:Int):=by
 induction k with
 |zero=>exact ⟨by show (0:Int)≤0;omega,by show (0:Int)≤41*0;omega⟩
 |succ k ih=>
  have h1:=ih (by omega);have h2:=G5 c y k hc (by omega);show _≤oh c y k+zF c y k∧oh c y k+zF c y k≤_;omega
theorem Ii (c:Cal) (y:Int) (hc:kZ c):1≤Bh c y∧Bh c y≤656:=by
 have h1:=Bi c y hc c.aj.length (Nat.le_refl _);have h2:=hc.ml;unfold Bh;omega
theorem kZ.aY {c:Cal} (hc:kZ c):∀r∈c.rules,1≤r.every∧r.every≤400:=fun r hr=>(FT c.rules 1 hc.per r hr).1
theorem Uy (c:Cal) (A R:Option Addr) (a r:Nat) (S:Value) (y:Int) (m:Nat) (w:World) (hc:kZ c) (h:oC w w.heap.size A R c) (hm:m<c.aj.length):Calls Tryz.prog 115 #[.agg (kJ c A a R r S),I y,I ((m:Int)+1)] w (Gives (I (zF c y m)) w):=by
 have HL:=ae (fun (W:World) (hb:Below w.heap.size w W)=>leapG c A R a r S y W hc.rl hc.aY ⟨(h.aj.keep hb).more hb.size,(h.rules.keep hb).more hb.size⟩);obtain ⟨x,hx⟩:∃x,c.aj[m]? =some x:=⟨_,dK hm⟩;have hxb:=hc.mo x (gz hx);have h16:=hc.ml;have HE:Hid (zF c y m=x+(bif (m:Int)==c.aY then (bif Qk c.rules y then 1 else 0) else 0)):=ae (by unfold zF;rw [hx,Option.getD_some]);obtain ⟨lv,hlv⟩:∃b,Qk c.rules y=b:=⟨_,rfl⟩;rw [hlv] at HE HL;obtain ⟨n,hn⟩:∃n,c.rules.length=n:=⟨_,rfl⟩;obtain ⟨mm,hmm⟩:∃n,c.aj.length=n:=⟨_,rfl⟩;obtain ⟨ep,rO⟩:∃n,c.aI=n:=⟨_,rfl⟩;obtain ⟨lp,hlp⟩:∃n,c.aY=n:=⟨_,rfl⟩;have e0:kJ c A a R r S= #[I ep, .slice A mm a,I lp, .slice R n r,S]:=by rw [←hn,←hmm,←rO,←hlp];rfl
 rw [hlp] at HE;rw [e0] at HL ⊢;rw [hmm] at hm h16;have hM:mm=(c.aj.map I).length:=by rw [List.length_map,hmm]
 obtain ⟨b,off,rfl,hb,hcl⟩:=h.aj.there (by omega);have f0:w.cell? ⟨b,off+m,none⟩=some (I x):=hcl m _ (by rw [List.getElem?_map,hx];rfl);have hne:¬b=w.heap.size:=by omega
 have HV:=ae (kT.start w #[I ep, .slice (some ⟨b,off,none⟩) mm a,I lp, .slice R n r,S] (198));have i0:(0:Int)≤(m:Int):=by omega
 have i1:(m:Int)<(mm:Int):=by omega
 have iw:IntKind.i64.wrap ((m:Int)+1 - 1)=(m:Int):=by rw [IntKind.wrap_i64];omega
 have iw2:(m:Int)+1 - 1=(m:Int):=by omega
 clear hc h hcl hn hmm rO hlp e0 hlv hx hM;obtain ⟨t,ht⟩:∃t,((m:Int)==lp)=t:=⟨_,rfl⟩;rw [ht] at HE;cases t with
 |true=>
  go_enter Tryz.func115,Tryz.ntmps115;go_wp2_with fail;refine (HL.out _ HV.out.up).mono ?_;rintro e w1 ⟨rfl,hb1⟩;have HW:=ae (HV.out.grow hb1);clear hb1;cases lv
  all_goals
   go_wp2_with fail;go_ret;exact ⟨by rw [HE.out];first|rfl|(rw [cond_true,cond_false,Int.add_zero];rfl),HW.out.up⟩
 |false=>
  go_enter Tryz.func115,Tryz.ntmps115;go_wp2_with fail;go_ret;exact ⟨by rw [HE.out,cond_false,Int.add_zero];rfl,HV.out.up⟩
theorem Zw (c:Cal) (A R:Option Addr) (a r:Nat) (S:Value) (y:Int) (w:World) (hc:kZ c) (h:oC w w.heap.size A R c):Calls Tryz.prog 102 #[.agg (kJ c A a R r S),I y] w (Gives (I (Bh c y)) w):=by
 have RF:=ae (fun (m:Nat) (hm:m<c.aj.length) (W:World) (hb:Below w.heap.size w W)=>Uy c A R a r S y m W hc (h.grow hb) hm);obtain ⟨n,hn⟩:∃n,c.rules.length=n:=⟨_,rfl⟩;obtain ⟨mm,hmm⟩:∃n,c.aj.length=n:=⟨_,rfl⟩;obtain ⟨ep,rO⟩:∃n,c.aI=n:=⟨_,rfl⟩;obtain ⟨lp,hlp⟩:∃n,c.aY=n:=⟨_,rfl⟩;have h16:=hc.ml;have PO:=ae (Bi c y hc);have Z4:=ae (G5 c y · hc);have HY:Hid (Bh c y=oh c y mm):=ae (by unfold Bh;rw [hmm]);have e0:kJ c A a R r S= #[I ep, .slice A mm a,I lp, .slice R n r,S]:=by rw [←hn,←hmm,←rO,←hlp];rfl
 rw [e0] at RF ⊢;rw [hmm] at RF PO h16;simp only [hmm] at Z4;have HV:=ae (kT.start w #[I ep, .slice A mm a,I lp, .slice R n r,S] (198));have ha:(Tryz.prog.info? (198)).map (·.size)=some 5:=by kernel_rfl
 clear hc h hn hmm rO hlp e0;go_enter Tryz.func102,Tryz.ntmps102;go_wp2_with fail
 go_loopw [5,11] (fun s i wr=>∃k:Nat,k≤mm∧s=I (oh c y k)∧i=I (k:Int)∧kT w #[I ep, .slice A mm a,I lp, .slice R n r,S] wr) (fun _ i _=>mm - (intOf i).toNat)
 case atStart=>exact ⟨0,Nat.zero_le _,rfl,rfl,HV.out⟩
 case round=>
  obtain ⟨k,hk,rfl,rfl,hv⟩:=hrel;have pM:=ae hv;clear hv HV;by_cases hlt:k<mm
  ·have v0:=pM.out.row.2 0;have v1:=pM.out.row.2 1;have v2:=pM.out.row.2 2;have v3:=pM.out.row.2 3;have v4:=pM.out.row.2 4;have i0:(0:Int)≤(k:Int):=by omega
   have i1:(k:Int)<(mm:Int):=by omega
   have b1:=PO.out k hk;have b2:=Z4.out k hlt;have HC:=ae (RF.out k hlt wr pM.out.up);have ET:Hid (oh c y (k+1)=oh c y k+zF c y k):=ae rfl;obtain ⟨s,hs⟩:∃s,oh c y k=s:=⟨_,rfl⟩;obtain ⟨q,hq⟩:∃s,zF c y k=s:=⟨_,rfl⟩;rw [hs,hq] at ET;rw [hq] at HC b2;rw [hs] at b1 ⊢;have sw:IntKind.i64.wrap (s+q)=s+q:=by rw [IntKind.wrap_i64];omega
   clear hs hq;go_wp2_with fail;refine HC.out.mono ?_;rintro e w1 ⟨rfl,hb1⟩;have ni:=ae (pM.out.grow hb1);clear hb1 pM v0 v1 v2 v3 v4 HC;go_wp2_with fail;go_roundw
   case rel=>exact ⟨k+1,by omega,by rw [ET.out],by go_num,ni.out⟩
   case measure=>simp [intOf];omega
  ·have hkn:k=mm:=by omega
   have hlt':¬(k:Int)<(mm:Int):=by omega
   have HF:Hid (Bh c y=oh c y k):=ae (by rw [HY.out,hkn]);clear hlt hkn;go_wp2_with fail;go_ret;exact ⟨by rw [HF.out];rfl,pM.out.up⟩
theorem Qo (c:Cal) (A R:Option Addr) (a r:Nat) (y:Int) (m:Nat) (w:World) (hc:kZ c) (h:oC w w.heap.size A R c) (hm:m<c.aj.length):Calls Tryz.prog 100 #[.agg (aG c A a R r),I y,I ((m:Int)+1)] w (Gives (I (zF c y m)) w):=by
 have RF:=ae (fun (W:World) (hb:Below w.heap.size w W)=>Uy c A R a r (.slice none 0 0) y m W hc (h.grow hb) hm);have jc:=ae (fun (W:World) (hb:Below w.heap.size w W)=>oG c A R a r W (h.grow hb));obtain ⟨n,hn⟩:∃n,c.rules.length=n:=⟨_,rfl⟩;obtain ⟨mm,hmm⟩:∃n,c.aj.length=n:=⟨_,rfl⟩;obtain ⟨ep,rO⟩:∃n,c.aI=n:=⟨_,rfl⟩;obtain ⟨lp,hlp⟩:∃n,c.aY=n:=⟨_,rfl⟩;have h16:=hc.ml;have e1:aG c A a R r= #[I ep, .slice A mm a,I lp, .slice R n r]:=by rw [←hn,←hmm,←rO,←hlp];rfl
 have e2:∀S,kJ c A a R r S= #[I ep, .slice A mm a,I lp, .slice R n r,S]:=fun S=>by rw [←hn,←hmm,←rO,←hlp];rfl
 have HV:=ae (kT.start w #[I ep, .slice A mm a,I lp, .slice R n r] 47);obtain ⟨q,hq⟩:∃q,zF c y m=q:=⟨_,rfl⟩;rw [hq,e2] at RF;rw [DK hc,e1] at jc;rw [e1];rw [hq];rw [hmm] at hm;have p1:¬(m:Int)+1<1:=by omega
 have p2:¬(mm:Int)<(m:Int)+1:=by omega
 clear hc h hn hmm rO hlp e1 e2 hq hm;go_enter Tryz.func100,Tryz.ntmps100;go_wp2_with fail;refine (jc.out _ HV.out.up).mono ?_;rintro e w1 ⟨rfl,hb1⟩;have pM:=ae (HV.out.grow hb1);have v0:=pM.out.row.2 0;have v1:=pM.out.row.2 1;have v2:=pM.out.row.2 2;have v3:=pM.out.row.2 3;clear hb1 jc HV;go_wp2_with fail;refine (RF.out _ pM.out.up).mono ?_;rintro e w2 ⟨rfl,hb2⟩;have ni:=ae (pM.out.grow hb2);clear hb2 RF pM v0 v1 v2 v3;go_wp2_with fail;go_ret;exact ⟨rfl,ni.out.up⟩
theorem Vl (c:Cal) (A R:Option Addr) (a r:Nat) (y:Int) (w:World) (hc:kZ c) (h:oC w w.heap.size A R c):Calls Tryz.prog 77 #[.agg (aG c A a R r),I y] w (Gives (I (Bh c y)) w):=by
 have RF:=ae (fun (W:World) (hb:Below w.heap.size w W)=>Zw c A R a r (.slice none 0 0) y W hc (h.grow hb));have jc:=ae (fun (W:World) (hb:Below w.heap.size w W)=>oG c A R a r W (h.grow hb));obtain ⟨n,hn⟩:∃n,c.rules.length=n:=⟨_,rfl⟩;obtain ⟨mm,hmm⟩:∃n,c.aj.length=n:=⟨_,rfl⟩;obtain ⟨ep,rO⟩:∃n,c.aI=n:=⟨_,rfl⟩;obtain ⟨lp,hlp⟩:∃n,c.aY=n:=⟨_,rfl⟩;have h16:=hc.ml;have e1:aG c A a R r= #[I ep, .slice A mm a,I lp, .slice R n r]:=by rw [←hn,←hmm,←rO,←hlp];rfl
 have e2:∀S,kJ c A a R r S= #[I ep, .slice A mm a,I lp, .slice R n r,S]:=fun S=>by rw [←hn,←hmm,←rO,←hlp];rfl
 have HV:=ae (kT.start w #[I ep, .slice A mm a,I lp, .slice R n r] 47);obtain ⟨q,hq⟩:∃q,Bh c y=q:=⟨_,rfl⟩;rw [hq,e2] at RF;rw [DK hc,e1] at jc;rw [e1];rw [hq];clear hc h hn hmm rO hlp e1 e2 hq h16;go_enter Tryz.func77,Tryz.ntmps77;go_wp2_with fail;refine (jc.out _ HV.out.up).mono ?_;rintro e w1 ⟨rfl,hb1⟩;have pM:=ae (HV.out.grow hb1);have v0:=pM.out.row.2 0;have v1:=pM.out.row.2 1;have v2:=pM.out.row.2 2;have v3:=pM.out.row.2 3;clear hb1 jc HV;go_wp2_with fail;refine (RF.out _ pM.out.up).mono ?_;rintro e w2 ⟨rfl,hb2⟩;have ni:=ae (pM.out.grow hb2);clear hb2 RF pM v0 v1 v2 v3;go_wp2_with fail;go_ret;exact ⟨rfl,ni.out.up⟩
end Go.Proofs.YtdibbemgpikgjaaGreat
