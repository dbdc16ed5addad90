/- The texts Jb, Jc, Jd, Dq, Qe, Qf, Qg, Ne, in this order. -/
import Derived.Test.YtbaehbbonkljpaaGreatDoorS00
import Derived.Test.YtbaehbbonkljpaaGreatDoorS01
import Derived.Test.YtbaehbbonkljpaaGreatDoorS03
import Derived.Test.YtbaehbbonkljpaaGreatDoorS05
import Derived.Test.YtbaehbbonkljpaaGreatDoorS07
set_option maxRecDepth 10000
set_option maxHeartbeats 8000000
namespace Go.Proofs.YtbaehbbonkljpaaGreatDoor
open Go Go.RowKit
def zk (rs : List Lr) (y : Int) : Bool := match rs.reverse.find? (fun r => y % r.every == r.rest) with
  | some r => r.yes
  | none => false
theorem uS : ∀ (rs : List Lr) (y : Nat), (jU rs y).isSome = true -> ∀ r ∈ rs, (1 <= r.every /\ r.every <= 400) /\ 0 <= r.rest /\ r.rest < r.every
  | [], _, _, _, h => nomatch h
  | x :: rs, y, h, r, hr => by
    unfold jU at h
    split at h
    · cases h
    · rename_i hb
      split at h
      · cases h
      · rcases List.mem_cons.1 hr with e | h1
        · rw [e]
          omega
        · exact uS rs _ h r h1
theorem Om (rs : List Lr) (k : Nat) (hk : k <= rs.length) : (IU rs k).map (·.1.2) = rs.reverse.take k := by
  induction k with
  | zero => rfl
  | succ k ih =>
    have h1 : rs.length - 1 - k < rs.length := by omega
    rw [IV rs k (rs.length - 1 - k) rs[rs.length - 1 - k] (bK h1) rfl, List.map_append, ih (by omega)]
    rw [jX rs.reverse k rs[rs.length - 1 - k] (by rw [List.getElem?_reverse (by omega), bK h1])]
    rfl
theorem lpG_no {rs : List Lr} {y : Int} (h : ∀ x ∈ IU rs rs.length, (y % x.1.2.every == x.1.2.rest) = false) : zk rs y = false := by
  have h1 : rs.reverse.find? (fun r => y % r.every == r.rest) = none := by
    rw [List.find?_eq_none]
    intro r hr
    have h2 : r ∈ (IU rs rs.length).map (·.1.2) := by
      rw [Om rs _ (Nat.le_refl _), List.take_of_length_le (by simp)]
      exact hr
    obtain ⟨x, hx, e⟩ := List.mem_map.1 h2
    rw [<- e, h x hx]
    simp
  unfold zk
  rw [h1]
theorem X9 {rs : List Lr} {y : Int} {k : Nat} {p : List (ElR rs)} {x : ElR rs} (hk : k <= rs.length) (e : p ++ [x] = IU rs k) (h : ∀ x ∈ p, (y % x.1.2.every == x.1.2.rest) = false) (hx : (y % x.1.2.every == x.1.2.rest) = true) : zk rs y = x.1.2.yes := by
  have h1 : rs.reverse.find? (fun r => y % r.every == r.rest) = some x.1.2 := by
    rw [<- List.take_append_drop k rs.reverse, List.find?_append, <- Om rs k hk, <- e, List.map_append, List.find?_append]
    have h2 : (p.map (·.1.2)).find? (fun r => y % r.every == r.rest) = none := by
      rw [List.find?_eq_none]
      intro r hr
      obtain ⟨z, hz, e⟩ := List.mem_map.1 hr
      rw [<- e, h z hz]
      simp
    rw [h2]
    simp only [List.map_cons, List.map_nil, List.find?_cons, hx, Option.none_or, Option.some_or]
  unfold zk
  rw [h1]
theorem Ya {w : World} {y : Int} {B : Nat} (hB : w.heap.size <= B) {rs : List Lr} (c : Code) : OwnFrom B (fun (pre : List (ElR rs)) W => c = .ret /\ ∃ p x, pre = p ++ [x] /\ (∀ z ∈ p, (y % z.1.2.every == z.1.2.rest) = false) /\ (y % x.1.2.every == x.1.2.rest) = true /\ FU w y x.1.2.yes W) := fun _ _ _ _ hs hg hr => by
  obtain ⟨h1, p, x, h2, h5, h3, h4⟩ := hs
  exact ⟨h1, p, x, h2, h5, h3, OH hB h4 hg hr⟩
theorem leapG (c : Cal) (A R : Option Addr) (a r : Nat) (S : Value) (y : Int) (w : World) (hru : c.rules.length <= 16) (hgd : ∀ r ∈ c.rules, 1 <= r.every /\ r.every <= 400) (h : qj w w.heap.size A R c) : Calls Tryz.prog 147 #[.agg (jR c A a R r S), I y] w (Gives (.bool (zk c.rules y)) w) := by
  refine (callsIn_wide (n := 3)).1 ?_
  have hro : Fence.wide.round = none := rfl
  have h1 : 1 <= 3 := by omega
  obtain ⟨ep, ms, lp, rs⟩ := c
  simp only at hru hgd
  obtain ⟨n, hn⟩ : ∃ n, rs.length = n := ⟨_, rfl⟩
  obtain ⟨mm, hmm⟩ : ∃ n, ms.length = n := ⟨_, rfl⟩
  have HGD := ae hgd
  have HH := ae h
  have HN := ae hn
  have HV := ae (ag w (.cells #[I ep, .slice A mm a, I lp, .slice R n r, S] (220)))
  have e0 : jR ⟨ep, ms, lp, rs⟩ A a R r S = #[I ep, .slice A mm a, I lp, .slice R n r, S] := by rw [<- hn, <- hmm]; rfl
  rw [e0]
  clear h hn hmm hgd e0
  refine callsIn_of_wp_marks Tryz.func147 rfl trivial ?_ hro
  simp only [Tryz.ntmps147, List.size_toArray, List.length_cons, List.length_nil, Nat.reduceAdd, Nat.reduceSub, Array.replicate_succ, Array.replicate_zero, List.push_toArray, List.append_toArray, List.nil_append, List.cons_append]
  gi_wp2_with (refine ⟨trivial, ?_⟩; gi_at_call 154; refine (S9 Fence.wide 2 trivial hro _ _ _ _).mono ?_; rintro e w' ⟨rfl, rfl⟩)
  obtain ⟨Wx, TQ⟩ : ∃ Wx, ((w.alloc (.cells #[I ep, .slice A mm a, I lp, .slice R n r, S] (220))).alloc (.cells #[I y] 3)).alloc (.cells #[.bool false] 4) = Wx := ⟨_, rfl⟩
  have hV3 : FU w y false Wx := by rw [<- TQ]; exact FU.start _ _ _ _
  have hsz0 : Wx.heap.size = w.heap.size + 3 := by rw [<- TQ]; simp
  rw [TQ]
  have bS := Boxed.new Wx 63 (.slice R n r)
  have hb4 := ag Wx (.cells #[.slice R n r] 63)
  obtain ⟨W0, hW0⟩ : ∃ W0, Wx.alloc (.cells #[.slice R n r] 63) = W0 := ⟨_, rfl⟩
  have hsz4 : W0.heap.size = w.heap.size + 4 := by rw [<- hW0, World.size_alloc, hsz0]
  rw [hW0] at bS hb4 ⊢
  rw [hsz0] at bS hb4
  have hV4 : FU w y false W0 := hV3.grow (by rw [hsz0]; exact hb4)
  have hrul : rs.length = 0 \/ ∃ b off, R = some ⟨b, off, none⟩ /\ b < w.heap.size /\ SH W0 b off rs := by
    rcases HH.out.rules with h0 | ⟨b, off, e, hb, hc⟩
    · refine .inl ?_
      rw [bZ (s := 3) Lr.cells rs (fun _ _ => rfl)] at h0
      omega
    · exact .inr ⟨b, off, e, hb, fun j x hx => ⟨aS (aA.elem (s := 3) (f := Lr.cells) (fun _ _ => rfl) hc j x hx) hV4.up hb, rfl⟩⟩
  have hst := IP Fence.wide (3 - 1) trivial hro (by omega) (w.heap.size + 3) w.heap.size R r rs (by omega) W0 (by omega) (by omega) (by rw [HN.out]; exact bS.cell) hrul
  rw [HN.out] at hst
  clear TQ hb4 hW0 hsz0 hrul hV3 bS
  refine wpIn_rangeFunc_ownH hro h1 (gf := 157) (lb := #[.pointer (some ⟨w.heap.size + 3, 0, none⟩)]) rfl trivial (enters_of Tryz.func157 (by kernel_rfl) rfl)
    hst (fun h k => h.trans k) (bk_b (by omega) (by omega)) (Below.refl _ _) (fun _ => rfl)
    (fun pre W => FU w y false W /\ w.heap.size + 3 < W.heap.size /\ ∀ x ∈ pre, (y % x.1.2.every == x.1.2.rest) = false)
    (fun c pre W => c = .ret /\ ∃ p x, pre = p ++ [x] /\ (∀ z ∈ p, (y % z.1.2.every == z.1.2.rest) = false) /\ (y % x.1.2.every == x.1.2.rest) = true /\ FU w y x.1.2.yes W)
    (lp_own (by omega) _)
    (fun c => Ya (by omega) c)
    ⟨hV4, by omega, fun _ h => nomatch h⟩
    (fun x a' W => ∃ B, w.heap.size + 3 < B /\ W.heap[B]? = some (.cells x.1.2.cells.toArray 118 (0, 0)) /\ a' = ({ tmps := #[.agg #[I ep, .slice A mm a, I lp, .slice R n r, S], I y, .pointer (some ⟨w.heap.size, 0, none⟩), .pointer (some ⟨w.heap.size + 1, 0, none⟩), .pointer (some ⟨w.heap.size + 1 + 1, 0, none⟩), undef, .pointer (some ⟨B, 0, none⟩), .pointer (some ⟨w.heap.size, 0, none⟩), .pointer (some ⟨w.heap.size, 3, none⟩), .slice R n r, .func (.func 157) #[] #[.pointer (some ⟨w.heap.size + 1 + 1 + 1, 0, none⟩)], I (x.1.1 : Int), .agg x.1.2.cells.toArray, undef, undef, undef, undef, undef, undef, undef, undef, undef], defers := [] } : Act))
    (fun x a' _ X Y row hs hg hr => by obtain ⟨B, h1, h2, h3⟩ := hs; exact ⟨B, h1, F7 B _ _ () X Y row h2 hg hr, h3⟩)
    ?assign ?body ?done ?stop
  case assign =>
    rintro l pre ⟨⟨i, ⟨ev, re, ye⟩⟩, hx⟩ W K hci hK
    have Ip := ae hci
    have hsz := hci.2.1
    clear hci
    rw [foldl2]
    simp only [Lr.cells, List.setIfInBounds_toArray, List.set_cons_succ, List.set_cons_zero]
    gi_wp2_with (first | ((with_reducible refine Jc 118 ?_); refine sJ rfl _ rfl #[I 0, I 0, .bool false] (by kernel_rfl) ?_) | ((with_reducible refine xq 118 ?_); go_must (refine jS rfl _ _ _ rfl #[I ev, I re, .bool ye] rfl rfl 118 #[I 0, I 0, .bool false] rfl (by kernel_rfl) rfl (by kernel_rfl) ?_); intro W5 hb5 hs5 hh5 xw hk5; have qU := ae hb5; have HH5 := ae hh5; have yX := ae hk5; clear hb5 hs5 hh5 xw hk5))
    exact hK _ _ (yX.out.from _) ⟨qU.out.mono (by omega), qU.out.cell (p := ⟨w.heap.size + 3, 0, none⟩) (by show w.heap.size + 3 < _; omega)⟩ ⟨Ip.out.1.grow qU.out, dP hsz qU.out.size, Ip.out.2.2⟩ ⟨W.heap.size, by omega, HH5.out, rfl⟩
  case body =>
    rintro l pre x a' W hl _ hci ⟨B, hB, hblk, rfl⟩ hlt2
    obtain ⟨⟨i, ⟨ev, re, ye⟩⟩, hx⟩ := x
    simp only [Lr.cells] at hblk ⊢
    have hev : 1 <= ev /\ ev <= 400 := HGD.out _ (gZ hx)
    have hc0 : W.cell? ⟨B, 0, none⟩ = some (I ev) := cell_of_row W B 0 _ _ _ hblk
    have hc1 : W.cell? ⟨B, 1, none⟩ = some (I re) := cell_of_row W B 1 _ _ _ hblk
    have hc2 : W.cell? ⟨B, 2, none⟩ = some (.bool ye) := cell_of_row W B 2 _ _ _ hblk
    have hcy : W.cell? ⟨w.heap.size + 1, 0, none⟩ = some (I y) := cell_of_row W _ 0 _ _ _ hci.1.yr
    have hcr : W.cell? ⟨w.heap.size + 1 + 1, 0, none⟩ = some (.bool false) := cell_of_row W (w.heap.size + 2) 0 _ _ _ hci.1.res
    have hfr : W.frozen? ⟨w.heap.size + 1 + 1, 0, none⟩ = false := frozen_of_row _ (w.heap.size + 2) 0 _ _ hci.1.res
    have Ip := ae hci
    have ZC := ae (fun W' => BJ y ev W' (by omega) (by omega))
    clear hci hblk
    gi_wp2_with fail
    refine rq (by kernel_rfl) (by kernel_rfl) (by kernel_rfl) ?_
    iterate 7 (
      refine wpQuietIn_step (by first | (go_simp; done) | exact fun _ _ _ _ => True.intro) (fun K hK => ?_)
      go_simp
      first
        | (refine hK _ ?_; clear hK K)
        | (apply Exists.intro
           refine ⟨fun _ => ?_, hK _ ?_⟩
           (gi_at_call 135; exact CallsIn.quiet_of_same (callsIn_wide.2 (ZC.out _)))
           clear hK K))
    refine wpQuietIn_nil ?_
    rintro _ ⟨k, rfl⟩
    obtain ⟨t, ht⟩ : ∃ t, (y % ev == re) = t := ⟨_, rfl⟩
    have HT := ae ht
    rw [ht]
    clear ht hc0 hc1 hcy
    have HCK := ae (Ip.out.1.grow (below_drewN' W k))
    cases t
    · gi_wp2
      exact ⟨(show KeepsOthers W (W.drewN k) from ⟨Nat.le_refl _, fun _ _ h _ => h⟩).from _, ⟨(below_drewN' W k).mono Ip.out.1.up.size, rfl⟩, HCK.out, Ip.out.2.1, fun x hx => by
        rcases List.mem_append.1 hx with h1 | h1
        · exact Ip.out.2.2 x h1
        · rw [List.mem_singleton.1 h1]
          exact HT.out⟩
    · gi_wp2
      iterate 4 (try (rw [Oper.semAt_eq _ _ _ (fun c h => by cases h)]; go_simp; gi_wp2))
      exact ⟨((show KeepsOthers W (W.drewN k) from ⟨Nat.le_refl _, fun _ _ h _ => h⟩).trans (KeepsOthers.setCell _ _ _)).from _, rfl, pre, _, rfl, Ip.out.2.2, HT.out, HCK.out.set ye⟩
  case done =>
    rintro D ys W hD rfl ⟨hlp, hsz, hall⟩ hK
    have hcr : W.cell? ⟨w.heap.size + 1 + 1, 0, none⟩ = some (.bool false) := cell_of_row W (w.heap.size + 2) 0 _ _ _ hlp.res
    have hfr : W.frozen? ⟨w.heap.size + 1 + 1, 0, none⟩ = false := frozen_of_row _ (w.heap.size + 2) 0 _ _ hlp.res
    have Ky := ae hlp
    have iq := ae hall
    clear hlp hall
    gi_wp2
    have hK2 : (W.setCell ⟨w.heap.size + 1 + 1, 0, none⟩ (.bool false)).heap[D]? = some (.deferred (some [])) := (heap_setCell_other W _ _ _ (by show D ≠ w.heap.size + 1 + 1; omega)).trans hK
    refine ⟨by simp, .inl ⟨_, _, rfl, run_takeDeferred hK2, ?_⟩⟩
    have HS := ae (Ky.out.set false)
    refine ⟨_, vX rfl _ _ (w.heap.size + 2) _ (.bool false) rfl ((World.putObj_heap_other (by omega)).trans HS.out.res) Tryz.underlying4, ?_⟩
    have hF : zk rs y = false := lpG_no (by rw [HN.out]; exact iq.out)
    rw [hF]
    exact ⟨rfl, HS.out.up.trans (belowK_b (w := W0) (n₀ := w.heap.size) (by omega) _ D _ (.deferred none) hD hK2 rfl rfl)⟩
  case stop =>
    rintro D c pre W hD hpre ⟨rfl, p, x, hpx, hfa, ht, hlp⟩ hK
    have Ky := ae hlp
    have HT := ae ht
    clear hlp ht
    gi_wp2
    refine ⟨by simp, .inl ⟨_, _, rfl, run_takeDeferred hK, ?_⟩⟩
    refine ⟨_, vX rfl _ _ (w.heap.size + 2) _ (.bool x.1.2.yes) rfl ((World.putObj_heap_other (by omega)).trans Ky.out.res) Tryz.underlying4, ?_⟩
    have hF : zk rs y = x.1.2.yes := by
      obtain ⟨k, hk, e⟩ := hpre
      exact X9 (by rw [HN.out]; exact hk) (hpx.symm.trans e) hfa HT.out
    rw [hF]
    exact ⟨rfl, Ky.out.up.trans (belowK_b (w := W0) (n₀ := w.heap.size) (by omega) _ D _ (.deferred none) hD hK rfl rfl)⟩
def vJ (c:Cal) (y:Int) (m:Nat):Int:=(c.au[m]?.getD 0)+(bif (m:Int)==c.dA then (bif zk c.rules y then 1 else 0) else 0)
def jZ (c:Cal) (y:Int):Nat->Int
 |0=>0
 |m+1=>jZ c y m+vJ c y m
def uY (c:Cal) (y:Int):Int:=jZ c y c.au.length
theorem wP (c:Cal) (y:Int) (m:Nat) (hc:fJ c) (hm:m<c.au.length):1<=vJ c y m/\vJ c y m<=41:=by
 have h1:=hc.mo (c.au[m]) (List.getElem_mem hm);unfold vJ;rw [bK hm,Option.getD_some];cases (m:Int)==c.dA<;>cases zk c.rules y<;>simp only [cond_true,cond_false]<;>omega
theorem rZ (c:Cal) (y:Int) (hc:fJ c) (k:Nat) (hk:k<=c.au.length):(k:Int)<=jZ c y k/\jZ c y k<=41*(k:Int):=by
 induction k with
 |zero=>exact ⟨by show (0:Int)<=0;omega,by show (0:Int)<=41*0;omega⟩
 |succ k ih=>
  have h1:=ih (by omega);have h2:=wP c y k hc (by omega);show _<=jZ c y k+vJ c y k/\jZ c y k+vJ c y k<=_;omega
theorem l7 (c:Cal) (y:Int) (hc:fJ c):1<=uY c y/\uY c y<=656:=by
 have h1:=rZ c y hc c.au.length (Nat.le_refl _);have h2:=hc.ml;unfold uY;omega
theorem fJ.dA {c:Cal} (hc:fJ c):∀r∈c.rules,1<=r.every/\r.every<=400:=fun r hr=>(uS c.rules 1 hc.per r hr).1
theorem Uy (c:Cal) (A R:Option Addr) (a r:Nat) (S:Value) (y:Int) (m:Nat) (w:World) (hc:fJ c) (h:qj w w.heap.size A R c) (hm:m<c.au.length):Calls Tryz.prog 134 #[.agg (jR c A a R r S),I y,I ((m:Int)+1)] w (Gives (I (vJ c y m)) w):=by
 have HL:=ae (fun (W:World) (hb:Below w.heap.size w W)=>leapG c A R a r S y W hc.rl hc.dA ⟨(h.au.keep hb).more hb.size,(h.rules.keep hb).more hb.size⟩);obtain ⟨x,hx⟩:∃x,c.au[m]? =some x:=⟨_,bK hm⟩;have hxb:=hc.mo x (gZ hx);have h16:=hc.ml;have HE:Hid (vJ c y m=x+(bif (m:Int)==c.dA then (bif zk c.rules y then 1 else 0) else 0)):=ae (by unfold vJ;rw [hx,Option.getD_some]);obtain ⟨lv,hlv⟩:∃b,zk c.rules y=b:=⟨_,rfl⟩;rw [hlv] at HE HL;obtain ⟨n,hn⟩:∃n,c.rules.length=n:=⟨_,rfl⟩;obtain ⟨mm,hmm⟩:∃n,c.au.length=n:=⟨_,rfl⟩;obtain ⟨ep,mJ⟩:∃n,c.bn=n:=⟨_,rfl⟩;obtain ⟨lp,hlp⟩:∃n,c.dA=n:=⟨_,rfl⟩;have e0:jR c A a R r S= #[I ep, .slice A mm a,I lp, .slice R n r,S]:=by rw [<-hn,<-hmm,<-mJ,<-hlp];rfl
 rw [hlp] at HE;rw [e0] at HL ⊢;rw [hmm] at hm h16;have hM:mm=(c.au.map I).length:=by rw [List.length_map,hmm]
 obtain ⟨b,off,rfl,hb,hcl⟩:=h.au.there (by omega);have f0:w.cell? ⟨b,off+m,none⟩=some (I x):=hcl m _ (by rw [List.getElem?_map,hx];rfl);have hne:¬b=w.heap.size:=by omega
 have HV:=ae (jD.start w #[I ep, .slice (some ⟨b,off,none⟩) mm a,I lp, .slice R n r,S] (220));have i0:(0:Int)<=(m:Int):=by omega
 have i1:(m:Int)<(mm:Int):=by omega
 have iw:IntKind.i64.wrap ((m:Int)+1 - 1)=(m:Int):=by rw [IntKind.wrap_i64];omega
 have iw2:(m:Int)+1 - 1=(m:Int):=by omega
 clear hc h hcl hn hmm mJ hlp e0 hlv hx hM;obtain ⟨t,ht⟩:∃t,((m:Int)==lp)=t:=⟨_,rfl⟩;rw [ht] at HE;cases t with
 |true=>
  go_enter Tryz.func134,Tryz.ntmps134;go_wp2_with fail;refine (HL.out _ HV.out.up).mono ?_;rintro e w1 ⟨rfl,hb1⟩;have HW:=ae (HV.out.grow hb1);clear hb1;cases lv
  all_goals
   go_wp2_with fail;go_ret;exact ⟨by rw [HE.out];first|rfl|(rw [cond_true,cond_false,Int.add_zero];rfl),HW.out.up⟩
 |false=>
  go_enter Tryz.func134,Tryz.ntmps134;go_wp2_with fail;go_ret;exact ⟨by rw [HE.out,cond_false,Int.add_zero];rfl,HV.out.up⟩
theorem yearG (c:Cal) (A R:Option Addr) (a r:Nat) (S:Value) (y:Int) (w:World) (hc:fJ c) (h:qj w w.heap.size A R c):Calls Tryz.prog 128 #[.agg (jR c A a R r S),I y] w (Gives (I (uY c y)) w):=by
 have PN:=ae (fun (m:Nat) (hm:m<c.au.length) (W:World) (hb:Below w.heap.size w W)=>Uy c A R a r S y m W hc (h.grow hb) hm);obtain ⟨n,hn⟩:∃n,c.rules.length=n:=⟨_,rfl⟩;obtain ⟨mm,hmm⟩:∃n,c.au.length=n:=⟨_,rfl⟩;obtain ⟨ep,mJ⟩:∃n,c.bn=n:=⟨_,rfl⟩;obtain ⟨lp,hlp⟩:∃n,c.dA=n:=⟨_,rfl⟩;have h16:=hc.ml;have oO:=ae (rZ c y hc);have VX:=ae (wP c y · hc);have HY:Hid (uY c y=jZ c y mm):=ae (by unfold uY;rw [hmm]);have e0:jR c A a R r S= #[I ep, .slice A mm a,I lp, .slice R n r,S]:=by rw [<-hn,<-hmm,<-mJ,<-hlp];rfl
 rw [e0] at PN ⊢;rw [hmm] at PN oO h16;simp only [hmm] at VX;have HV:=ae (jD.start w #[I ep, .slice A mm a,I lp, .slice R n r,S] (220));have ha:(Tryz.prog.info? (220)).map (·.size)=some 5:=by kernel_rfl
 clear hc h hn hmm mJ hlp e0;go_enter Tryz.func128,Tryz.ntmps128;go_wp2_with fail
 go_loopw [5,11] (fun s i wr=>∃k:Nat,k<=mm/\s=I (jZ c y k)/\i=I (k:Int)/\jD w #[I ep, .slice A mm a,I lp, .slice R n r,S] wr) (fun _ i _=>mm - (intOf i).toNat)
 case atStart=>exact ⟨0,Nat.zero_le _,rfl,rfl,HV.out⟩
 case round=>
  obtain ⟨k,hk,rfl,rfl,hv⟩:=hrel;have oP:=ae hv;clear hv HV;by_cases hlt:k<mm
  ·have v0:=oP.out.row.2 0;have v1:=oP.out.row.2 1;have v2:=oP.out.row.2 2;have v3:=oP.out.row.2 3;have v4:=oP.out.row.2 4;have i0:(0:Int)<=(k:Int):=by omega
   have i1:(k:Int)<(mm:Int):=by omega
   have b1:=oO.out k hk;have b2:=VX.out k hlt;have HC:=ae (PN.out k hlt wr oP.out.up);have AL:Hid (jZ c y (k+1)=jZ c y k+vJ c y k):=ae rfl;obtain ⟨s,hs⟩:∃s,jZ c y k=s:=⟨_,rfl⟩;obtain ⟨q,hq⟩:∃s,vJ c y k=s:=⟨_,rfl⟩;rw [hs,hq] at AL;rw [hq] at HC b2;rw [hs] at b1 ⊢;have sw:IntKind.i64.wrap (s+q)=s+q:=by rw [IntKind.wrap_i64];omega
   clear hs hq;go_wp2_with fail;refine HC.out.mono ?_;rintro e w1 ⟨rfl,hb1⟩;have nD:=ae (oP.out.grow hb1);clear hb1 oP v0 v1 v2 v3 v4 HC;go_wp2_with fail;go_roundw
   case rel=>exact ⟨k+1,by omega,by rw [AL.out],by go_num,nD.out⟩
   case measure=>simp [intOf];omega
  ·have hkn:k=mm:=by omega
   have hlt':¬(k:Int)<(mm:Int):=by omega
   have HF:Hid (uY c y=jZ c y k):=ae (by rw [HY.out,hkn]);clear hlt hkn;go_wp2_with fail;go_ret;exact ⟨by rw [HF.out];rfl,oP.out.up⟩
theorem Qx (c:Cal) (A R:Option Addr) (a r:Nat) (y:Int) (m:Nat) (w:World) (hc:fJ c) (h:qj w w.heap.size A R c) (hm:m<c.au.length):Calls Tryz.prog 126 #[.agg (aI c A a R r),I y,I ((m:Int)+1)] w (Gives (I (vJ c y m)) w):=by
 have PN:=ae (fun (W:World) (hb:Below w.heap.size w W)=>Uy c A R a r (.slice none 0 0) y m W hc (h.grow hb) hm);have jQ:=ae (fun (W:World) (hb:Below w.heap.size w W)=>oH c A R a r W (h.grow hb));obtain ⟨n,hn⟩:∃n,c.rules.length=n:=⟨_,rfl⟩;obtain ⟨mm,hmm⟩:∃n,c.au.length=n:=⟨_,rfl⟩;obtain ⟨ep,mJ⟩:∃n,c.bn=n:=⟨_,rfl⟩;obtain ⟨lp,hlp⟩:∃n,c.dA=n:=⟨_,rfl⟩;have h16:=hc.ml;have e1:aI c A a R r= #[I ep, .slice A mm a,I lp, .slice R n r]:=by rw [<-hn,<-hmm,<-mJ,<-hlp];rfl
 have e2:∀S,jR c A a R r S= #[I ep, .slice A mm a,I lp, .slice R n r,S]:=fun S=>by rw [<-hn,<-hmm,<-mJ,<-hlp];rfl
 have HV:=ae (jD.start w #[I ep, .slice A mm a,I lp, .slice R n r] 65);obtain ⟨q,hq⟩:∃q,vJ c y m=q:=⟨_,rfl⟩;rw [hq,e2] at PN;rw [pY hc,e1] at jQ;rw [e1];rw [hq];rw [hmm] at hm;have p1:¬(m:Int)+1<1:=by omega
 have p2:¬(mm:Int)<(m:Int)+1:=by omega
 clear hc h hn hmm mJ hlp e1 e2 hq hm;go_enter Tryz.func126,Tryz.ntmps126;go_wp2_with fail;refine (jQ.out _ HV.out.up).mono ?_;rintro e w1 ⟨rfl,hb1⟩;have oP:=ae (HV.out.grow hb1);have v0:=oP.out.row.2 0;have v1:=oP.out.row.2 1;have v2:=oP.out.row.2 2;have v3:=oP.out.row.2 3;clear hb1 jQ HV;go_wp2_with fail;refine (PN.out _ oP.out.up).mono ?_;rintro e w2 ⟨rfl,hb2⟩;have nD:=ae (oP.out.grow hb2);clear hb2 PN oP v0 v1 v2 v3;go_wp2_with fail;go_ret;exact ⟨rfl,nD.out.up⟩
theorem Vx (c:Cal) (A R:Option Addr) (a r:Nat) (y:Int) (w:World) (hc:fJ c) (h:qj w w.heap.size A R c):Calls Tryz.prog 110 #[.agg (aI c A a R r),I y] w (Gives (I (uY c y)) w):=by
 have PN:=ae (fun (W:World) (hb:Below w.heap.size w W)=>yearG c A R a r (.slice none 0 0) y W hc (h.grow hb));have jQ:=ae (fun (W:World) (hb:Below w.heap.size w W)=>oH c A R a r W (h.grow hb));obtain ⟨n,hn⟩:∃n,c.rules.length=n:=⟨_,rfl⟩;obtain ⟨mm,hmm⟩:∃n,c.au.length=n:=⟨_,rfl⟩;obtain ⟨ep,mJ⟩:∃n,c.bn=n:=⟨_,rfl⟩;obtain ⟨lp,hlp⟩:∃n,c.dA=n:=⟨_,rfl⟩;have h16:=hc.ml;have e1:aI c A a R r= #[I ep, .slice A mm a,I lp, .slice R n r]:=by rw [<-hn,<-hmm,<-mJ,<-hlp];rfl
 have e2:∀S,jR c A a R r S= #[I ep, .slice A mm a,I lp, .slice R n r,S]:=fun S=>by rw [<-hn,<-hmm,<-mJ,<-hlp];rfl
 have HV:=ae (jD.start w #[I ep, .slice A mm a,I lp, .slice R n r] 65);obtain ⟨q,hq⟩:∃q,uY c y=q:=⟨_,rfl⟩;rw [hq,e2] at PN;rw [pY hc,e1] at jQ;rw [e1];rw [hq];clear hc h hn hmm mJ hlp e1 e2 hq h16;go_enter Tryz.func110,Tryz.ntmps110;go_wp2_with fail;refine (jQ.out _ HV.out.up).mono ?_;rintro e w1 ⟨rfl,hb1⟩;have oP:=ae (HV.out.grow hb1);have v0:=oP.out.row.2 0;have v1:=oP.out.row.2 1;have v2:=oP.out.row.2 2;have v3:=oP.out.row.2 3;clear hb1 jQ HV;go_wp2_with fail;refine (PN.out _ oP.out.up).mono ?_;rintro e w2 ⟨rfl,hb2⟩;have nD:=ae (oP.out.grow hb2);clear hb2 PN oP v0 v1 v2 v3;go_wp2_with fail;go_ret;exact ⟨rfl,nD.out.up⟩
def kX (x s:Int):Int:=bits BinOp.or IntKind.u32 (x*2 ^ s.toNat%4294967296) (x / 2 ^ (32 - s).toNat)
def aj (zs:List Int):Array Value:=(zs.map fun z=>Value.int .u32 z).toArray
theorem aW (zs:List Int):(aj zs).size=zs.length:=by simp [aj]
theorem bU (zs:List Int) (i:Nat) (h:i<zs.length):(aj zs)[i]? =some (.int .u32 (zs[i]?.getD 0)):=by
 simp [aj,h]
theorem rH (zs:List Int) (i:Nat) (z:Int):(aj zs).setIfInBounds i (.int .u32 z)=aj (zs.set i z):=by
 simp [aj,List.map_set]
theorem bQ (zs:List Int):(aj zs).all (·.oneCell')=true:=by
 rw [Array.all_eq_true_iff_forall_mem];intro v hv;simp [aj] at hv;obtain ⟨z,_,rfl⟩:=hv;rfl
section
variable {P:Program} {ops:Array Oper} {Q:Exit->Act->World->Prop} {a:Act} {w:World} {rest:List Oper} {o:Oper}
theorem aG (hg:o.guard=none) (t:TypeId) (ho:o.op= .alloc t) (cells:Array Value) (hz:(P.info? t).map (fun i=>(i.zero,i.size))=some (some (.agg cells),cells.size))
  (h:wpList P ops Q rest (a.put o.dst (.pointer (some ⟨w.heap.size,0,none⟩))) (w.alloc (.cells cells t))):wpList P ops Q (o::rest) a w:=by
 refine wpList_plain hg fun K hK=>?_;unfold Oper.wp execOp;simp only [ho,Sem.run_bind,iJ w t (.agg cells) _ hz,Result.andThen_ok];exact hK _ _ h
end
def gK (w:World) (b:Nat) (cs:Array Value):Prop:=b<w.heap.size/\∀i,w.cell? ⟨b,i,none⟩=cs[i]?
section
variable {P:Program} {ops:Array Oper} {Q:Exit->Act->World->Prop} {a:Act} {w:World} {rest:List Oper} {o:Oper}
theorem aP (hw:Region.wanted o (yielded ops a.tmps)=true) (ty:TypeId) (x:Operand) (ho:o.op= .load ty x) (g:Nat) (hx:a.eval x= .pointer (some ⟨g,0,none⟩)) (cs:Array Value) (hr:gK w g cs)
  (d:TypeDesc) (hu:P.underlying ty=some d) (hd:d.isRow=true) (hi:(P.info? ty).map (·.size)=some cs.size)
  (h:wpList P ops Q rest (a.put o.dst (.agg cs)) w):wpList P ops Q (o::rest) a w:=by
 unfold wpList;rw [if_pos hw];have hc:w.rangeAt g 0 cs.toList:=fun j v hv=>by rw [Nat.zero_add,hr.2 j];simpa using hv
 refine .inl (wp_load_mid ty x ho g 0 hx cs.toList d hc hu hd (by rw [hi];simp) ?_);simpa using h
end
theorem aB {B g:Nat} {w0 w:World} (hb:Below B w0 w) (hBg:B<=g) (cs:Array Value):Below B w0 (w.setRow g cs):=
 hb.trans ⟨rfl,rfl,rfl,by simp [World.setRow],fun k hk=>setRow_other w g k cs (by omega)⟩
structure AV (b:Nat) (t:TypeId) (cs:Array Value) (W:World):Prop where
 var:W.heap[b]? =some (.cells cs t (0,0))
section
variable {b g:Nat} {t:TypeId} {cs:Array Value} {W W':World}
theorem AV.lt (h:AV b t cs W):b<W.heap.size:=(bV.1 h.var).1
theorem AV.cell (h:AV b t cs W):∀i,W.cell? ⟨b,i,none⟩=cs[i]? :=fun i=>cell_of_row W _ i _ _ _ h.var
theorem AV.fZ (h:AV b t cs W):∀i,W.frozen? ⟨b,i,none⟩=false:=fun i=>frozen_of_row W _ i _ _ h.var
theorem AV.below (h:AV b t cs W) (hb:Below W.heap.size W W'):AV b t cs W':=⟨(hb.block _ h.lt).trans h.var⟩
theorem AV.put (h:AV b t cs W) (o:Nat) (v:Value):AV b t (cs.setIfInBounds o v) (W.setCell ⟨b,o,none⟩ v):=⟨heap_setCell_same W _ o _ _ _ h.var⟩
theorem AV.far (h:AV b t cs W) (hn:b≠g) (o:Nat) (v:Value):AV b t cs (W.setCell ⟨g,o,none⟩ v):=⟨(heap_setCell_other W _ b v hn).trans h.var⟩
theorem AV.drew (h:AV b t cs W):AV b t cs W.drew:=⟨h.var⟩
theorem AV.new (W:World) (cs:Array Value) (t:TypeId):AV W.heap.size t cs (W.alloc (.cells cs t)):=⟨heap_alloc_last W _⟩
end
theorem iV:(Tryz.prog.info? 190).map (fun i=>(i.zero,i.size))=some (some (.agg (aj (List.replicate 64 0))),(aj (List.replicate 64 0)).size):=by kernel_rfl
section
variable {P:Program} {ops:Array Oper} {o:Oper} {a:Act} {w:World} {K:Act->World->Prop} {Q:Exit->Act->World->Prop} {E:Prop}
theorem jh (hgd:o.guard=none) (t:TypeId) (ho:o.op= .alloc t) (cells:Array Value) (hz:(P.info? t).map (fun i=>(i.zero,i.size))=some (some (.agg cells),cells.size))
  (h:K (a.put o.dst (.pointer (some ⟨w.heap.size,0,none⟩))) (w.alloc (.cells cells t))):if Region.wanted o (yielded ops a.tmps)=true then Oper.wp P o a w K Q else E:=by
 have hw:Region.wanted o (yielded ops a.tmps)=true:=by simp [Region.wanted,hgd]
 rw [if_pos hw];unfold Oper.wp execOp;simp only [ho,Sem.run_bind,iJ w t (.agg cells) _ hz,Result.andThen_ok];exact h
theorem ji (hgd:o.guard=none) (ty:TypeId) (x y:Operand) (ho:o.op= .store ty x y) (g:Nat) (cells:Array Value) (hx:a.eval x= .pointer (some ⟨g,0,none⟩)) (hy:a.eval y= .agg cells)
  (t:TypeId) (old:Array Value) (hg:w.heap[g]? =some (.cells old t (0,0))) (hi:(P.info? ty).map (·.size)=some cells.size) (hold:old.size=cells.size) (h1:cells.all (·.oneCell')=true)
  (h:K (a.put o.dst undef) (w.setRow g cells)):if Region.wanted o (yielded ops a.tmps)=true then Oper.wp P o a w K Q else E:=by
 have hw:Region.wanted o (yielded ops a.tmps)=true:=by simp [Region.wanted,hgd]
 rw [if_pos hw];exact wp_store_row ty x y ho g cells hx hy t old hg hi hold h1 h
end
theorem dB (w:World) (t:TypeId) (cs:Array Value) (l:List Value) (h:cs.toList=l):∀j u,l[j]? =some u->(w.alloc (.cells cs t)).cell? ((⟨w.heap.size,0,none⟩:Addr).add j)=some u:=by
 intro j u hu;rw [addr_add,cell_of_row _ _ j _ _ _ (heap_alloc_last w _),<-Array.getElem?_toList,h];exact hu
theorem own_below {w w':World} {base e size n:Nat} {v:Value} {xs:List Value} (h:w.ownsRow base e size v n xs) (hb:Below w.heap.size w w'):w'.ownsRow base e size v n xs:=
 World.ownsRow.kept (row:=none) h ⟨hb.os,hb.tape,hb.output,hb.size,fun k hk _=>hb.block k hk⟩ (by cases v.ownBlock<;>simp)
theorem Vr {P:Program} {ops:Array Oper} {Q:Exit->Act->World->Prop} {md:Region.Mode} {S:World->Prop} {i:Nat} {oi:Oper} {v:Value} {d:Tmp} {fuel:Nat} {listed:Array Bool} {a:Act} {w:World} (hi:ops[i]? =some oi) (hd:oi.dst=some d)
  (hs:Region.noSelect ops=true) (hf:Region.free md ops listed i=true) (hr:(Region.ready md ops listed).contains i=true)
  (hQ:∀c a w,Q (.panic c) (a.put oi.dst v) w->Q (.panic c) a w) (hy:YieldsIf P ops S oi v a) (hS:S w)
  (h:wpAnyH P md ops Q S fuel (listed.setIfInBounds i true) (a.put (some d) v) w):wpAnyH P md ops Q S (fuel+1) listed a w:=
 wpAnyH_take hi hs hf hr hQ hy hS (by rw [hd];exact h)
theorem bJ {P:Program} {ops:Array Oper} {S:World->Prop} {op:Oper} {a:Act} (hw:Region.wanted op (yielded ops a.tmps)=true) (t:TypeId) (parts:Array (Nat×Operand)) (ho:op.op= .build t parts) (cells:Array Value)
  (hb:P.built t (parts.map fun (i,x)=>(i,a.eval x)).toList=some cells):YieldsIf P ops S op (.agg cells) a:=
 .inl ⟨hw,fun w _=>by
  unfold execOp;simp only [ho,Sem.run_bind,run_build w t _ cells hb,Result.andThen_ok];rfl⟩
theorem oU (W:World) (o:Obj):(W.alloc o).heap.size=W.heap.size+1:=by simp
theorem AV.qy {b:Nat} {t:TypeId} {cs:Array Value} {W:World} (h:AV b t cs W) (ds:Array Value):AV b t ds (W.setRow b ds):=⟨setRow_heap _ _ _ _ _ _ h.var⟩
theorem AV.rW {b c:Nat} {t:TypeId} {cs:Array Value} {W:World} (h:AV b t cs W) (hn:b≠c) (ds:Array Value):AV b t cs (W.setRow c ds):=⟨(setRow_other _ _ b _ hn).trans h.var⟩
theorem AV.jw {b:Nat} {t:TypeId} {cs:Array Value} {W:World} (h:AV b t cs W):gK W b cs:=⟨h.lt,h.cell⟩
structure sO (w:World) (cc:List Value) (vb k c:Nat) (A:Option Addr) (ss:List Int) (W:World):Prop where
 lo:Below w.heap.size w W
 it:AV w.heap.size 65 cc.toArray W
 r:AV (w.heap.size+1) 220 #[I 0, .slice none 0 0,I 0, .slice none 0 0, .slice none 0 0] W
 ge:w.heap.size+2<=vb
 var:AV vb 220 (cc++ [Value.slice A k c]).toArray W
 own:W.ownsRow (w.heap.size+2) 3 1 (.slice A k c) k (ss.map I)
 ne:some vb≠(Value.slice A k c).ownBlock
section
variable {w W W':World} {cc:List Value} {vb k c:Nat} {A:Option Addr} {ss:List Int}
theorem sO.grow (h:sO w cc vb k c A ss W) (hb:Below W.heap.size W W'):sO w cc vb k c A ss W':=⟨ah h.lo hb,h.it.below hb,h.r.below hb,h.ge,h.var.below hb,own_below h.own hb,h.ne⟩
theorem sO.drew (h:sO w cc vb k c A ss W):sO w cc vb k c A ss W.drew:=h.grow ((Below.refl _ W).drew)
theorem sO.there (h:sO w cc vb (k+1) c A ss W):∃g,A=some ⟨g,0,none⟩/\w.heap.size+2<=g/\g<W.heap.size/\k+1<=c/\∀(j:Nat) (s:Int),ss[j]? =some s->W.cell? ⟨g,j,none⟩=some (I s):=by
 rcases h.own.2 with ⟨_,hn⟩|⟨g,cap,cur,hv,hg,hh,hc,_,_,ht⟩
 ·omega
 ·injection hv with h1 h2 h3;refine ⟨g,h1,hg,(bV.1 hh).1,by omega,fun j s hs=>?_⟩;rw [cell_of_row W g j _ _ _ hh,<-Array.getElem?_toList];have h4:(ss.map I)[j]? =some (I s):=by rw [List.getElem?_map,hs];rfl
  rw [<-ht] at h4;rw [List.getElem?_take] at h4;split at h4
  ·exact h4
  ·cases h4
theorem sO.add {Wb w6:World} {gg cap:Nat} {s:Int} (h:sO w cc vb k c A ss W) (h4:cc.length=4) (Ai:Wb=W.alloc (.cells #[I s] 3))
  (hown:w6.ownsRow (w.heap.size+2) 3 1 (.slice (Option.some ⟨gg,0,none⟩) (k+1) cap) (k+1) (ss.map I++ [I s])) (hg:Wb.grownBy w6 (Value.slice A k c).ownBlock) (hat:(Value.slice A k c).ownBlock=Option.some gg\/gg=Wb.heap.size):
  sO w cc vb (k+1) cap (Option.some ⟨gg,0,none⟩) (ss++ [s]) (w6.setCell ⟨vb,4,none⟩ (.slice (Option.some ⟨gg,0,none⟩) (k+1) cap)):=by
 have hsb:Wb.heap.size=W.heap.size+1:=by rw [Ai];simp
 have hlt:=h.var.lt;have hle:=h.lo.size;have hrl:=h.r.lt;have hbl:∀b,b<W.heap.size->Option.some b≠(Value.slice A k c).ownBlock->w6.heap[b]? =W.heap[b]? :=fun b hb hn=>
  (hg.block b (by omega) hn).trans (by rw [Ai];exact Below.heap_alloc W _ b hb)
 have hlow:∀b,b<w.heap.size+2->Option.some b≠(Value.slice A k c).ownBlock:=eG h.own;have hset:∀b,b≠vb->(w6.setCell ⟨vb,4,none⟩ (.slice (Option.some ⟨gg,0,none⟩) (k+1) cap)).heap[b]? =w6.heap[b]? :=fun b hb=>heap_setCell_other w6 ⟨vb,4,none⟩ b _ hb;have hge:=h.ge;have hne:vb≠gg:=fun e=>by
  rcases hat with e3|e3
  ·exact h.ne (by rw [e];exact e3.symm)
  ·omega
 have h1:Below w.heap.size w Wb:=by rw [Ai];exact ah h.lo (ag W _)
 have hob:Wb.ownsRow (w.heap.size+2) 3 1 (.slice A k c) k (ss.map I):=by rw [Ai];exact own_below h.own (ag W _)
 have hv6:AV vb (220) (cc++ [Value.slice A k c]).toArray w6:=⟨(hbl _ hlt h.ne).trans h.var.var⟩;have hup:Below w.heap.size w w6:=di h1 (aX hob (by omega)) h1.size hg;refine ⟨hup.setCell (p:=⟨vb,4,none⟩) (by show w.heap.size<=vb;omega) _,⟨(hset _ (by omega)).trans ((hbl _ (by omega) (hlow _ (by omega))).trans h.it.var)⟩,⟨(hset _ (by omega)).trans ((hbl _ (by omega) (hlow _ (by omega))).trans h.r.var)⟩,hge,?_,?_,fun e=>?_⟩
 ·have h2:=hv6.put 4 (.slice (Option.some ⟨gg,0,none⟩) (k+1) cap);have e:(cc++ [Value.slice A k c]).toArray.setIfInBounds 4 (.slice (Option.some ⟨gg,0,none⟩) (k+1) cap)=(cc++ [Value.slice (Option.some ⟨gg,0,none⟩) (k+1) cap]).toArray:=by
   match cc,h4 with
   | [a,b,c,d],_=>rfl
  rw [e] at h2;exact h2
 ·rw [List.map_append];exact eP (p:=⟨vb,4,none⟩) hown (fun e=>hne (by simpa [Value.ownBlock] using e))
 ·have:vb=gg:=by simpa [Value.ownBlock] using e
  exact hne this
end
section
variable {P:Program} {ops:Array Oper} {o:Oper} {a:Act} {w:World} {K:Act->World->Prop} {Q:Exit->Act->World->Prop} {E:Prop}
theorem ik (hgd:o.guard=none) (ty:TypeId) (x:Operand) (ho:o.op= .load ty x) (b off:Nat) (hx:a.eval x= .pointer (some ⟨b,off,none⟩)) (cs:List Value) (d:TypeDesc) (hr:w.rangeAt b off cs)
  (hu:P.underlying ty=some d) (hd:d.isRow=true) (hi:(P.info? ty).map (·.size)=some cs.length) (h:K (a.put o.dst (.agg cs.toArray)) w):if Region.wanted o (yielded ops a.tmps)=true then Oper.wp P o a w K Q else E:=by
 have hw:Region.wanted o (yielded ops a.tmps)=true:=by simp [Region.wanted,hgd]
 rw [if_pos hw];exact wp_load_mid ty x ho b off hx cs d hr hu hd hi h
end
theorem memo {G:Prop} {T:World->Prop} {C:World->Prop} (f:(∀W,C W->T W)->G) (h:∀W,C W->T W):G:=f h
theorem Qw (n:Nat) (hn:n<=1000) (W:World):(Instr.makeSlice 62 (.int .i64 1) (.int .i64 ((n:Int)+1))).run Tryz.prog W= .ok (.slice (some ⟨W.heap.size,0,none⟩) 1 (n+1)) (W.alloc (.cells (Array.replicate (n+1) (I 0)) 3)):=by
 obtain ⟨i0,hi,hz0,hz1,hz2⟩:=info_parts xx;have h:=run_makeSlice (P:=Tryz.prog) (w:=W) 62 3 i0 (.int .i64 0) Tryz.underlying62 hi hz0 .i64 .i64 1 ((n:Int)+1) (by omega) (by omega) (by rw [hz1];omega) (by rw [hz2];omega) (by omega);rw [hz1] at h;have e:madeCells (Value.int .i64 0).cells ((((n:Int)+1).toNat)*1)=Array.replicate (n+1) (I 0):=by
  apply Array.ext';simp [madeCells,Value.cells,Nat.mod_one];apply List.ext_getElem
  ·simp
  ·intro j h1 h2;simp
 rw [e] at h;rw [h];congr 2
end Go.Proofs.YtbaehbbonkljpaaGreatDoor
