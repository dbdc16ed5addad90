/- The texts Jb, Jc, Jd, Dq, Qe, Qf, Qg, Ne, in this order. -/
import Derived.Test.YtbaehbbonkljpaaGreatDoorT06
set_option maxRecDepth 10000
set_option maxHeartbeats 8000000
namespace Go.Proofs.YtbaehbbonkljpaaGreatDoor
open Go Go.RowKit
def Yb (rs:ag Lr)(y:Int):Bool:=match rs.reverse.find? (fun r=>y%r.every==r.rest) with
 |some r=>r.yes
 |none=>false
theorem Vy:∀(rs:ag Lr) (y:Nat),(PK rs y).isSome=true->∀r∈rs,(1<=r.every/\r.every<=400)/\0<=r.rest/\r.rest<r.every
 | [],_,_,_,h=>nomatch h
 |x::rs,y,h,r,hr=>by
  unfold PK at h;split at h
  ·cases h
  ·rename_i hb;split at h
   ·cases h
   ·rcases dQ.1 hr with e|h1
    ·rw[e];omega
    ·exact Vy rs _ h r h1
theorem agY (rs:ag Lr)(k:Nat)(hk:k<=rs.length):(bkR rs k).map (·.1.2)=rs.reverse.take k:=by
 induction k with
 |zero=>rfl
 |succ k ih=>
  have h1:rs.length - 1 - k<rs.length:=by omega
  rw[adI rs k (rs.length - 1 - k) rs[rs.length - 1 - k] (KL h1) rfl,bY,ih (by omega)];rw[Oq rs.reverse k rs[rs.length - 1 - k] (by rw[List.getElem?_reverse (by omega),KL h1])];rfl
theorem ast {rs:ag Lr}{y:Int}(h:∀x∈bkR rs rs.length,(y%x.1.2.every==x.1.2.rest)=false):Yb rs y=false:=by
 have h1:rs.reverse.find? (fun r=>y%r.every==r.rest)=none:=by
  rw[oJ];intro r hr;have h2:r∈(bkR rs rs.length).map (·.1.2):=by
   rw[agY rs _ (ay _),aU (by simp)];exact hr
  obtain⟨x,hx,e⟩:=fJ.1 h2;rw[<-e,h x hx];simp
 unfold Yb;rw[h1]
theorem an9 {rs:ag Lr}{y:Int}{k:Nat}{p:ag (ElR rs)}{x:ElR rs}(hk:k<=rs.length)(e:p++ [x]=bkR rs k)(h:∀x∈p,(y%x.1.2.every==x.1.2.rest)=false)(hx:(y%x.1.2.every==x.1.2.rest)=true):Yb rs y=x.1.2.yes:=by
 have h1:rs.reverse.find? (fun r=>y%r.every==r.rest)=some x.1.2:=by
  rw[<-dR k rs.reverse,List.find?_append,<-agY rs k hk,<-e,bY,List.find?_append];have h2:(p.map (·.1.2)).find? (fun r=>y%r.every==r.rest)=none:=by
   rw[oJ];intro r hr;obtain⟨z,hz,e⟩:=fJ.1 hr;rw[<-e,h z hz];simp
  rw[h2];simp only[fF,iR,jO,hx,Option.none_or,Option.some_or]
 unfold Yb;rw[h1]
theorem aoa {w:ae}{y:Int}{B:Nat}(hB:w.heap.size<=B){rs:ag Lr}(c:Code):OwnFrom B (fun (pre:ag (ElR rs)) W=>c=.ret/\∃p x,pre=p++ [x]/\(∀z∈p,(y%z.1.2.every==z.1.2.rest)=false)/\(y%x.1.2.every==x.1.2.rest)=true/\LpV w y x.1.2.yes W):=fun _ _ _ _ hs hg hr=>by
 obtain⟨h1,p,x,h2,h5,h3,h4⟩:=hs;exact⟨h1,p,x,h2,h5,h3,ahd hB h4 hg hr⟩
theorem axc (c:Cal)(A R:aj Addr)(a r:Nat)(S:ah)(y:Int)(w:ae)(hru:c.rules.length<=16)(hgd:∀r∈c.rules,1<=r.every/\r.every<=400)(h:Rw w w.heap.size A R c):Calls Tryz.prog 147 #[.agg (PE c A a R r S),I y] w (Gives (.bool (Yb c.rules y)) w):=by
 refine(gX (n:=3)).1 ?_;have hro:Fence.wide.round=none:=rfl;have h1:1<=3:=by omega
 obtain⟨ep,ms,lp,rs⟩:=c;simp only at hru hgd;obtain⟨n,hn⟩:∃n,rs.length=n:=⟨_,rfl⟩;obtain⟨mm,hmm⟩:∃n,ms.length=n:=⟨_,rfl⟩;have HGD:=JJ hgd;have HH:=JJ h;have HN:=JJ hn;have HV:=JJ (JM w (.cells #[I ep,.slice A mm a,I lp,.slice R n r,S] (220)));have e0:PE ⟨ep,ms,lp,rs⟩ A a R r S= #[I ep,.slice A mm a,I lp,.slice R n r,S]:=by rw[<-hn,<-hmm];rfl
 rw[e0];clear h hn hmm hgd e0;refine iK Tryz.func147 rfl trivial ?_ hro;simp only[Tryz.ntmps147,bZ,bG,dE,Nat.reduceAdd,Nat.reduceSub,df,dh,dL,dw,bU,dn]
 gi_wp2_with (refine⟨trivial,?_⟩;gi_at_call 154;refine(akh Fence.wide 2 trivial hro _ _ _ _).mono ?_;rintro e w' ⟨rfl,rfl⟩)
 obtain⟨Wx,hWx⟩:∃Wx,((w.alloc (.cells #[I ep,.slice A mm a,I lp,.slice R n r,S] (220))).alloc (.cells #[I y] 3)).alloc (.cells #[.bool false] 4)=Wx:=⟨_,rfl⟩;have hV3:LpV w y false Wx:=by rw[<-hWx];exact LpV.start _ _ _ _
 have hsz0:Wx.heap.size=w.heap.size+3:=by rw[<-hWx];simp
 rw[hWx];have bS:=qw Wx 63 (.slice R n r);have hb4:=JM Wx (.cells #[.slice R n r] 63);obtain⟨W0,hW0⟩:∃W0,Wx.alloc (.cells #[.slice R n r] 63)=W0:=⟨_,rfl⟩;have aAz:W0.heap.size=w.heap.size+4:=by rw[<-hW0,dO,hsz0]
 rw[hW0] at bS hb4⊢;rw[hsz0] at bS hb4;have hV4:LpV w y false W0:=hV3.grow (by rw[hsz0];exact hb4);have awU:rs.length=0\/∃b off,R=some ⟨b,off,none⟩/\b<w.heap.size/\aj6 W0 b off rs:=by
  rcases HH.out.rules with h0|⟨b,off,e,hb,hc⟩
  ·refine .inl ?_;rw[KW (s:=3) Lr.cells rs (fun _ _=>rfl)] at h0;omega
  ·exact .inr ⟨b,off,e,hb,fun j x hx=>⟨JY (JS.elem (s:=3) (f:=Lr.cells) (fun _ _=>rfl) hc j x hx) hV4.up hb,rfl⟩⟩
 have hst:=adD Fence.wide (3 - 1) trivial hro (by omega) (w.heap.size+3) w.heap.size R r rs (by omega) W0 (by omega) (by omega) (by rw[HN.out];exact bS.cell) awU;rw[HN.out] at hst;clear hWx hb4 hW0 hsz0 awU hV3 bS;refine wpIn_rangeFunc_ownH hro h1 (gf:=157) (lb:= #[.pointer (some ⟨w.heap.size+3,0,none⟩)]) rfl trivial (lK Tryz.func157 (by kernel_rfl) rfl)
  hst (fun h k=>h.trans k) (ary (by omega) (by omega)) (aW _ _) (fun _=>rfl)
  (fun pre W=>LpV w y false W/\w.heap.size+3<W.heap.size/\∀x∈pre,(y%x.1.2.every==x.1.2.rest)=false)
  (fun c pre W=>c=.ret/\∃p x,pre=p++ [x]/\(∀z∈p,(y%z.1.2.every==z.1.2.rest)=false)/\(y%x.1.2.every==x.1.2.rest)=true/\LpV w y x.1.2.yes W)
  (asu (by omega) _)
  (fun c=>aoa (by omega) c)
  ⟨hV4,by omega,fun _ h=>nomatch h⟩
  (fun x a' W=>∃B,w.heap.size+3<B/\W.heap[B]? =some (.cells x.1.2.cells.toArray 118 (0,0))/\a'=({tmps:= #[.agg #[I ep,.slice A mm a,I lp,.slice R n r,S],I y,.pointer (some ⟨w.heap.size,0,none⟩),.pointer (some ⟨w.heap.size+1,0,none⟩),.pointer (some ⟨w.heap.size+1+1,0,none⟩),undef,.pointer (some ⟨B,0,none⟩),.pointer (some ⟨w.heap.size,0,none⟩),.pointer (some ⟨w.heap.size,3,none⟩),.slice R n r,.func (.func 157) #[] #[.pointer (some ⟨w.heap.size+1+1+1,0,none⟩)],I (x.1.1:Int),.agg x.1.2.cells.toArray,undef,undef,undef,undef,undef,undef,undef,undef,undef],defers:= []}:Act))
  (fun x a' _ X Y row hs hg hr=>by obtain⟨B,h1,h2,h3⟩:=hs;exact⟨B,h1,aca B _ _ () X Y row h2 hg hr,h3⟩)
  ?assign ?body ?done ?stop
 case assign=>
  rintro l pre ⟨⟨i,⟨ev,re,ye⟩⟩,hx⟩ W K hci hK;have HCI:=JJ hci;have hsz:=hci.2.1;clear hci;rw[arJ];simp only[Lr.cells,dB,iQ,iy]
  gi_wp2_with (first|((with_reducible refine adT 118 ?_);refine UI rfl _ rfl #[I 0,I 0,.bool false] (by kernel_rfl) ?_)|((with_reducible refine Xf 118 ?_);refine PH rfl _ _ _ rfl #[I ev,I re,.bool ye] rfl rfl 118 #[I 0,I 0,.bool false] rfl (by kernel_rfl) rfl (by kernel_rfl) ?_;intro W5 hb5 hs5 hh5 VX hk5;have VI:=JJ hb5;have HH5:=JJ hh5;have HK5:=JJ hk5;clear hb5 hs5 hh5 VX hk5))
  exact hK _ _ (HK5.out.from _) ⟨VI.out.mono (by omega),VI.out.cell (p:=⟨w.heap.size+3,0,none⟩) (by show w.heap.size+3<_;omega)⟩ ⟨HCI.out.1.grow VI.out,LK hsz VI.out.size,HCI.out.2.2⟩ ⟨W.heap.size,by omega,HH5.out,rfl⟩
 case body=>
  rintro l pre x a' W hl _ hci ⟨B,hB,hblk,rfl⟩ hlt2;obtain⟨⟨i,⟨ev,re,ye⟩⟩,hx⟩:=x;simp only[Lr.cells] at hblk⊢;have hev:1<=ev/\ev<=400:=HGD.out _ (LQ hx);have hc0:W.cell? ⟨B,0,none⟩=some (I ev):=aC W B 0 _ _ _ hblk;have hc1:W.cell? ⟨B,1,none⟩=some (I re):=aC W B 1 _ _ _ hblk;have hc2:W.cell? ⟨B,2,none⟩=some (.bool ye):=aC W B 2 _ _ _ hblk;have hcy:W.cell? ⟨w.heap.size+1,0,none⟩=some (I y):=aC W _ 0 _ _ _ hci.1.yr;have hcr:W.cell? ⟨w.heap.size+1+1,0,none⟩=some (.bool false):=aC W (w.heap.size+2) 0 _ _ _ hci.1.res;have hfr:W.frozen? ⟨w.heap.size+1+1,0,none⟩=false:=aP _ (w.heap.size+2) 0 _ _ hci.1.res;have HCI:=JJ hci;have HMD:=JJ (fun W'=>ZB y ev W' (by omega) (by omega));clear hci hblk
  gi_wp2_with fail
  refine TZ (by kernel_rfl) (by kernel_rfl) (by kernel_rfl) ?_
  iterate 7 (
   refine wpQuietIn_step (by first|(go_simp;done)|exact fun _ _ _ _=>True.intro) (fun K hK=>?_);go_simp
   first
    |(refine hK _ ?_;clear hK K)
    |(
      apply Exists.intro;refine⟨fun _=>?_,hK _ ?_⟩
      (gi_at_call 135;exact CallsIn.quiet_of_same (gX.2 (HMD.out _)))
      clear hK K))
  refine wpQuietIn_nil ?_;rintro _ ⟨k,rfl⟩;obtain⟨t,ht⟩:∃t,(y%ev==re)=t:=⟨_,rfl⟩;have HT:=JJ ht;rw[ht];clear ht hc0 hc1 hcy;have HCK:=JJ (HCI.out.1.grow (below_drewN' W k));cases t
  ·gi_wp2
   exact⟨(show KeepsOthers W (W.drewN k) from⟨ay _,fun _ _ h _=>h⟩).from _,⟨(below_drewN' W k).mono HCI.out.1.up.size,rfl⟩,HCK.out,HCI.out.2.1,fun x hx=>by
    rcases dm.1 hx with h1|h1
    ·exact HCI.out.2.2 x h1
    ·rw[aY.1 h1];exact HT.out⟩
  ·gi_wp2
   iterate 4 (try (rw[Oper.semAt_eq _ _ _ (fun c h=>by cases h)];go_simp;gi_wp2))
   exact⟨((show KeepsOthers W (W.drewN k) from⟨ay _,fun _ _ h _=>h⟩).trans (gu _ _ _)).from _,rfl,pre,_,rfl,HCI.out.2.2,HT.out,HCK.out.set ye⟩
 case done=>
  rintro D ys W hD rfl ⟨hlp,hsz,hall⟩ hK;have hcr:W.cell? ⟨w.heap.size+1+1,0,none⟩=some (.bool false):=aC W (w.heap.size+2) 0 _ _ _ hlp.res;have hfr:W.frozen? ⟨w.heap.size+1+1,0,none⟩=false:=aP _ (w.heap.size+2) 0 _ _ hlp.res;have HLP:=JJ hlp;have Ox:=JJ hall;clear hlp hall
  gi_wp2
  have hK2:(W.setCell ⟨w.heap.size+1+1,0,none⟩ (.bool false)).heap[D]? =some (.deferred (some [])):=(aN W _ _ _ (by show D≠w.heap.size+1+1;omega)).trans hK;refine⟨by simp,.inl ⟨_,_,rfl,jd hK2,?_⟩⟩;have HS:=JJ (HLP.out.set false);refine⟨_,V4 rfl _ _ (w.heap.size+2) _ (.bool false) rfl ((bQ (by omega)).trans HS.out.res) je,?_⟩;have hF:Yb rs y=false:=ast (by rw[HN.out];exact Ox.out);rw[hF];exact⟨rfl,HS.out.up.trans (l9 (w:=W0) (n₀:=w.heap.size) (by omega) _ D _ (.deferred none) hD hK2 rfl rfl)⟩
 case stop=>
  rintro D c pre W hD hpre ⟨rfl,p,x,hpx,hfa,ht,hlp⟩ hK;have HLP:=JJ hlp;have HT:=JJ ht;clear hlp ht
  gi_wp2
  refine⟨by simp,.inl ⟨_,_,rfl,jd hK,?_⟩⟩;refine⟨_,V4 rfl _ _ (w.heap.size+2) _ (.bool x.1.2.yes) rfl ((bQ (by omega)).trans HLP.out.res) je,?_⟩;have hF:Yb rs y=x.1.2.yes:=by
   obtain⟨k,hk,e⟩:=hpre;exact an9 (by rw[HN.out];exact hk) (hpx.symm.trans e) hfa HT.out
  rw[hF];exact⟨rfl,HLP.out.up.trans (l9 (w:=W0) (n₀:=w.heap.size) (by omega) _ D _ (.deferred none) hD hK rfl rfl)⟩
def VM (c:Cal)(y:Int)(m:Nat):Int:=(c.JQ[m]?.getD 0)+(bif (m:Int)==c.Lm then (bif Yb c.rules y then 1 else 0) else 0)
def PQ (c:Cal)(y:Int):Nat->Int
 |0=>0
 |m+1=>PQ c y m+VM c y m
def VE (c:Cal)(y:Int):Int:=PQ c y c.JQ.length
theorem Wu (c:Cal)(y:Int)(m:Nat)(hc:MR c)(hm:m<c.JQ.length):1<=VM c y m/\VM c y m<=41:=by
 have h1:=hc.mo (c.JQ[m]) (jV hm);unfold VM;rw[KL hm,jc];cases (m:Int)==c.Lm<;>cases Yb c.rules y<;>simp only[cond_true,oK]<;>omega
theorem UD (c:Cal)(y:Int)(hc:MR c)(k:Nat)(hk:k<=c.JQ.length):(k:Int)<=PQ c y k/\PQ c y k<=41*(k:Int):=by
 induction k with
 |zero=>exact⟨by show(0:Int)<=0;omega,by show(0:Int)<=41*0;omega⟩
 |succ k ih=>
  have h1:=ih (by omega);have h2:=Wu c y k hc (by omega);show _<=PQ c y k+VM c y k/\PQ c y k+VM c y k<=_;omega
theorem QE (c:Cal)(y:Int)(hc:MR c):1<=VE c y/\VE c y<=656:=by
 have h1:=UD c y hc c.JQ.length (ay _);have h2:=hc.ml;unfold VE;omega
theorem MR.Lm {c:Cal}(hc:MR c):∀r∈c.rules,1<=r.every/\r.every<=400:=fun r hr=>(Vy c.rules 1 hc.per r hr).1
theorem alf (c:Cal)(A R:aj Addr)(a r:Nat)(S:ah)(y:Int)(m:Nat)(w:ae)(hc:MR c)(h:Rw w w.heap.size A R c)(hm:m<c.JQ.length):Calls Tryz.prog 134 #[.agg (PE c A a R r S),I y,I ((m:Int)+1)] w (Gives (I (VM c y m)) w):=by
 have HL:=JJ (fun (W:ae) (hb:ai w.heap.size w W)=>axc c A R a r S y W hc.rl hc.Lm ⟨(h.JQ.keep hb).more hb.size,(h.rules.keep hb).more hb.size⟩);obtain⟨x,hx⟩:∃x,c.JQ[m]? =some x:=⟨_,KL hm⟩;have hxb:=hc.mo x (LQ hx);have h16:=hc.ml;have HE:Hid (VM c y m=x+(bif (m:Int)==c.Lm then (bif Yb c.rules y then 1 else 0) else 0)):=JJ (by unfold VM;rw[hx,jc]);obtain⟨lv,hlv⟩:∃b,Yb c.rules y=b:=⟨_,rfl⟩;rw[hlv] at HE HL;obtain⟨n,hn⟩:∃n,c.rules.length=n:=⟨_,rfl⟩;obtain⟨mm,hmm⟩:∃n,c.JQ.length=n:=⟨_,rfl⟩;obtain⟨ep,QL⟩:∃n,c.KI=n:=⟨_,rfl⟩;obtain⟨lp,hlp⟩:∃n,c.Lm=n:=⟨_,rfl⟩;have e0:PE c A a R r S= #[I ep,.slice A mm a,I lp,.slice R n r,S]:=by rw[<-hn,<-hmm,<-QL,<-hlp];rfl
 rw[hlp] at HE;rw[e0] at HL⊢;rw[hmm] at hm h16;have hM:mm=(c.JQ.map I).length:=by rw[aI,hmm]
 obtain⟨b,off,rfl,hb,hcl⟩:=h.JQ.there (by omega);have f0:w.cell? ⟨b,off+m,none⟩=some (I x):=hcl m _ (by rw[aJ,hx];rfl);have hne:¬b=w.heap.size:=by omega
 have HV:=JJ (OY.start w #[I ep,.slice (some ⟨b,off,none⟩) mm a,I lp,.slice R n r,S] (220));have i0:(0:Int)<=(m:Int):=by omega
 have i1:(m:Int)<(mm:Int):=by omega
 have iw:IntKind.i64.wrap ((m:Int)+1 - 1)=(m:Int):=by rw[aA];omega
 have iw2:(m:Int)+1 - 1=(m:Int):=by omega
 clear hc h hcl hn hmm QL hlp e0 hlv hx hM;obtain⟨t,ht⟩:∃t,((m:Int)==lp)=t:=⟨_,rfl⟩;rw[ht] at HE;cases t with
 |true=>
  go_enter Tryz.func134,Tryz.ntmps134;go_wp2_with fail;refine(HL.out _ HV.out.up).mono ?_;rintro e w1 ⟨rfl,hb1⟩;have HW:=JJ (HV.out.grow hb1);clear hb1;cases lv
  all_goals
   go_wp2_with fail;go_ret;exact⟨by rw[HE.out];first|rfl|(rw[cond_true,oK,kM];rfl),HW.out.up⟩
 |false=>
  go_enter Tryz.func134,Tryz.ntmps134;go_wp2_with fail;go_ret;exact⟨by rw[HE.out,oK,kM];rfl,HV.out.up⟩
theorem aqs (c:Cal)(A R:aj Addr)(a r:Nat)(S:ah)(y:Int)(w:ae)(hc:MR c)(h:Rw w w.heap.size A R c):Calls Tryz.prog 128 #[.agg (PE c A a R r S),I y] w (Gives (I (VE c y)) w):=by
 have HMO:=JJ (fun (m:Nat) (hm:m<c.JQ.length) (W:ae) (hb:ai w.heap.size w W)=>alf c A R a r S y m W hc (h.grow hb) hm);obtain⟨n,hn⟩:∃n,c.rules.length=n:=⟨_,rfl⟩;obtain⟨mm,hmm⟩:∃n,c.JQ.length=n:=⟨_,rfl⟩;obtain⟨ep,QL⟩:∃n,c.KI=n:=⟨_,rfl⟩;obtain⟨lp,hlp⟩:∃n,c.Lm=n:=⟨_,rfl⟩;have h16:=hc.ml;have SK:=JJ (UD c y hc);have HMB:=JJ (Wu c y · hc);have HY:Hid (VE c y=PQ c y mm):=JJ (by unfold VE;rw[hmm]);have e0:PE c A a R r S= #[I ep,.slice A mm a,I lp,.slice R n r,S]:=by rw[<-hn,<-hmm,<-QL,<-hlp];rfl
 rw[e0] at HMO⊢;rw[hmm] at HMO SK h16;simp only[hmm] at HMB;have HV:=JJ (OY.start w #[I ep,.slice A mm a,I lp,.slice R n r,S] (220));have ha:(Tryz.prog.info? (220)).map (·.size)=some 5:=by kernel_rfl
 clear hc h hn hmm QL hlp e0;go_enter Tryz.func128,Tryz.ntmps128;go_wp2_with fail
 go_loopw [5,11] (fun s i wr=>∃k:Nat,k<=mm/\s=I (PQ c y k)/\i=I (k:Int)/\OY w #[I ep,.slice A mm a,I lp,.slice R n r,S] wr) (fun _ i _=>mm - (intOf i).toNat)
 case atStart=>exact⟨0,aG _,rfl,rfl,HV.out⟩
 case round=>
  obtain⟨k,hk,rfl,rfl,hv⟩:=hrel;have Qq:=JJ hv;clear hv HV;by_cases hlt:k<mm
  ·have v0:=Qq.out.row.2 0;have v1:=Qq.out.row.2 1;have v2:=Qq.out.row.2 2;have v3:=Qq.out.row.2 3;have v4:=Qq.out.row.2 4;have i0:(0:Int)<=(k:Int):=by omega
   have i1:(k:Int)<(mm:Int):=by omega
   have b1:=SK.out k hk;have b2:=HMB.out k hlt;have HC:=JJ (HMO.out k hlt wr Qq.out.up);have YL:Hid (PQ c y (k+1)=PQ c y k+VM c y k):=JJ rfl;obtain⟨s,hs⟩:∃s,PQ c y k=s:=⟨_,rfl⟩;obtain⟨q,hq⟩:∃s,VM c y k=s:=⟨_,rfl⟩;rw[hs,hq] at YL;rw[hq] at HC b2;rw[hs] at b1⊢;have sw:IntKind.i64.wrap (s+q)=s+q:=by rw[aA];omega
   clear hs hq;go_wp2_with fail;refine HC.out.mono ?_;rintro e w1 ⟨rfl,hb1⟩;have Qd:=JJ (Qq.out.grow hb1);clear hb1 Qq v0 v1 v2 v3 v4 HC;go_wp2_with fail;go_roundw
   case rel=>exact⟨k+1,by omega,by rw[YL.out],by go_num,Qd.out⟩
   case measure=>simp[intOf];omega
  ·have hkn:k=mm:=by omega
   have hlt':¬(k:Int)<(mm:Int):=by omega
   have HF:Hid (VE c y=PQ c y k):=JJ (by rw[HY.out,hkn]);clear hlt hkn;go_wp2_with fail;go_ret;exact⟨by rw[HF.out];rfl,Qq.out.up⟩
theorem aiD (c:Cal)(A R:aj Addr)(a r:Nat)(y:Int)(m:Nat)(w:ae)(hc:MR c)(h:Rw w w.heap.size A R c)(hm:m<c.JQ.length):Calls Tryz.prog 126 #[.agg (J7 c A a R r),I y,I ((m:Int)+1)] w (Gives (I (VM c y m)) w):=by
 have HMO:=JJ (fun (W:ae) (hb:ai w.heap.size w W)=>alf c A R a r (.slice none 0 0) y m W hc (h.grow hb) hm);have PD:=JJ (fun (W:ae) (hb:ai w.heap.size w W)=>RF c A R a r W (h.grow hb));obtain⟨n,hn⟩:∃n,c.rules.length=n:=⟨_,rfl⟩;obtain⟨mm,hmm⟩:∃n,c.JQ.length=n:=⟨_,rfl⟩;obtain⟨ep,QL⟩:∃n,c.KI=n:=⟨_,rfl⟩;obtain⟨lp,hlp⟩:∃n,c.Lm=n:=⟨_,rfl⟩;have h16:=hc.ml;have e1:J7 c A a R r= #[I ep,.slice A mm a,I lp,.slice R n r]:=by rw[<-hn,<-hmm,<-QL,<-hlp];rfl
 have e2:∀S,PE c A a R r S= #[I ep,.slice A mm a,I lp,.slice R n r,S]:=fun S=>by rw[<-hn,<-hmm,<-QL,<-hlp];rfl
 have HV:=JJ (OY.start w #[I ep,.slice A mm a,I lp,.slice R n r] 65);obtain⟨q,hq⟩:∃q,VM c y m=q:=⟨_,rfl⟩;rw[hq,e2] at HMO;rw[SB hc,e1] at PD;rw[e1];rw[hq];rw[hmm] at hm;have p1:¬(m:Int)+1<1:=by omega
 have p2:¬(mm:Int)<(m:Int)+1:=by omega
 clear hc h hn hmm QL hlp e1 e2 hq hm;go_enter Tryz.func126,Tryz.ntmps126;go_wp2_with fail;refine(PD.out _ HV.out.up).mono ?_;rintro e w1 ⟨rfl,hb1⟩;have Qq:=JJ (HV.out.grow hb1);have v0:=Qq.out.row.2 0;have v1:=Qq.out.row.2 1;have v2:=Qq.out.row.2 2;have v3:=Qq.out.row.2 3;clear hb1 PD HV;go_wp2_with fail;refine(HMO.out _ Qq.out.up).mono ?_;rintro e w2 ⟨rfl,hb2⟩;have Qd:=JJ (Qq.out.grow hb2);clear hb2 HMO Qq v0 v1 v2 v3;go_wp2_with fail;go_ret;exact⟨rfl,Qd.out.up⟩
theorem ama (c:Cal)(A R:aj Addr)(a r:Nat)(y:Int)(w:ae)(hc:MR c)(h:Rw w w.heap.size A R c):Calls Tryz.prog 110 #[.agg (J7 c A a R r),I y] w (Gives (I (VE c y)) w):=by
 have HMO:=JJ (fun (W:ae) (hb:ai w.heap.size w W)=>aqs c A R a r (.slice none 0 0) y W hc (h.grow hb));have PD:=JJ (fun (W:ae) (hb:ai w.heap.size w W)=>RF c A R a r W (h.grow hb));obtain⟨n,hn⟩:∃n,c.rules.length=n:=⟨_,rfl⟩;obtain⟨mm,hmm⟩:∃n,c.JQ.length=n:=⟨_,rfl⟩;obtain⟨ep,QL⟩:∃n,c.KI=n:=⟨_,rfl⟩;obtain⟨lp,hlp⟩:∃n,c.Lm=n:=⟨_,rfl⟩;have h16:=hc.ml;have e1:J7 c A a R r= #[I ep,.slice A mm a,I lp,.slice R n r]:=by rw[<-hn,<-hmm,<-QL,<-hlp];rfl
 have e2:∀S,PE c A a R r S= #[I ep,.slice A mm a,I lp,.slice R n r,S]:=fun S=>by rw[<-hn,<-hmm,<-QL,<-hlp];rfl
 have HV:=JJ (OY.start w #[I ep,.slice A mm a,I lp,.slice R n r] 65);obtain⟨q,hq⟩:∃q,VE c y=q:=⟨_,rfl⟩;rw[hq,e2] at HMO;rw[SB hc,e1] at PD;rw[e1];rw[hq];clear hc h hn hmm QL hlp e1 e2 hq h16;go_enter Tryz.func110,Tryz.ntmps110;go_wp2_with fail;refine(PD.out _ HV.out.up).mono ?_;rintro e w1 ⟨rfl,hb1⟩;have Qq:=JJ (HV.out.grow hb1);have v0:=Qq.out.row.2 0;have v1:=Qq.out.row.2 1;have v2:=Qq.out.row.2 2;have v3:=Qq.out.row.2 3;clear hb1 PD HV;go_wp2_with fail;refine(HMO.out _ Qq.out.up).mono ?_;rintro e w2 ⟨rfl,hb2⟩;have Qd:=JJ (Qq.out.grow hb2);clear hb2 HMO Qq v0 v1 v2 v3;go_wp2_with fail;go_ret;exact⟨rfl,Qd.out.up⟩
def Qg (x s:Int):Int:=bits BinOp.or IntKind.u32 (x*2 ^ s.toNat%4294967296) (x / 2 ^ (32 - s).toNat)
def JP (zs:ag Int):ax ah:=(zs.map fun z=>Value.int .u32 z).toArray
theorem KH (zs:ag Int):(JP zs).size=zs.length:=by simp[JP]
theorem KT (zs:ag Int)(i:Nat)(h:i<zs.length):(JP zs)[i]? =some (.int .u32 (zs[i]?.getD 0)):=by
 simp[JP,h]
theorem Us (zs:ag Int)(i:Nat)(z:Int):(JP zs).setIfInBounds i (.int .u32 z)=JP (zs.set i z):=by
 simp[JP,List.map_set]
theorem KP (zs:ag Int):(JP zs).all (·.oneCell')=true:=by
 rw[dS];intro v hv;simp[JP] at hv;obtain⟨z,_,rfl⟩:=hv;rfl
section
variable {P:Program}{ops:ax Oper}{Q:Exit->Act->ae->Prop}{a:Act}{w:ae}{rest:ag Oper}{o:Oper}
theorem JW (hg:o.guard=none)(t:TypeId)(ho:o.op=.alloc t)(cells:ax ah)(hz:(P.info? t).map (fun i=>(i.zero,i.size))=some (some (.agg cells),cells.size))
  (h:wpList P ops Q rest (a.put o.dst (.pointer (some ⟨w.heap.size,0,none⟩))) (w.alloc (.cells cells t))):wpList P ops Q (o::rest) a w:=by
 refine kH hg fun K hK=>?_;unfold Oper.wp execOp;simp only[ho,fH,Oi w t (.agg cells) _ hz,dX];exact hK _ _ h
end
def MS (w:ae)(b:Nat)(cs:ax ah):Prop:=b<w.heap.size/\∀i,w.cell? ⟨b,i,none⟩=cs[i]?
section
variable {P:Program}{ops:ax Oper}{Q:Exit->Act->ae->Prop}{a:Act}{w:ae}{rest:ag Oper}{o:Oper}
theorem J3 (hw:Region.wanted o (yielded ops a.tmps)=true)(ty:TypeId)(x:Operand)(ho:o.op=.load ty x)(g:Nat)(hx:a.eval x=.pointer (some ⟨g,0,none⟩))(cs:ax ah)(hr:MS w g cs)
  (d:TypeDesc)(hu:P.underlying ty=some d)(hd:d.isRow=true)(hi:(P.info? ty).map (·.size)=some cs.size)
  (h:wpList P ops Q rest (a.put o.dst (.agg cs)) w):wpList P ops Q (o::rest) a w:=by
 unfold wpList;rw[bD hw];have hc:w.rangeAt g 0 cs.toList:=fun j v hv=>by rw[aT,hr.2 j];simpa using hv
 refine .inl (nG ty x ho g 0 hx cs.toList d hc hu hd (by rw[hi];simp) ?_);simpa using h
end
theorem JR {B g:Nat}{w0 w:ae}(hb:ai B w0 w)(hBg:B<=g)(cs:ax ah):ai B w0 (w.setRow g cs):=
 hb.trans ⟨rfl,rfl,rfl,by simp[World.setRow],fun k hk=>cZ w g k cs (by omega)⟩
structure AV (b:Nat)(t:TypeId)(cs:ax ah)(W:ae):Prop where
 var:W.heap[b]? =some (.cells cs t (0,0))
section
variable {b g:Nat}{t:TypeId}{cs:ax ah}{W W':ae}
theorem AV.lt (h:AV b t cs W):b<W.heap.size:=(KY.1 h.var).1
theorem AV.cell (h:AV b t cs W):∀i,W.cell? ⟨b,i,none⟩=cs[i]? :=fun i=>aC W _ i _ _ _ h.var
theorem AV.Oo (h:AV b t cs W):∀i,W.frozen? ⟨b,i,none⟩=false:=fun i=>aP W _ i _ _ h.var
theorem AV.below (h:AV b t cs W)(hb:ai W.heap.size W W'):AV b t cs W':=⟨(hb.block _ h.lt).trans h.var⟩
theorem AV.put (h:AV b t cs W)(o:Nat)(v:ah):AV b t (cs.setIfInBounds o v) (W.setCell ⟨b,o,none⟩ v):=⟨bJ W _ o _ _ _ h.var⟩
theorem AV.far (h:AV b t cs W)(hn:b≠g)(o:Nat)(v:ah):AV b t cs (W.setCell ⟨g,o,none⟩ v):=⟨(aN W _ b v hn).trans h.var⟩
theorem AV.drew (h:AV b t cs W):AV b t cs W.drew:=⟨h.var⟩
theorem AV.new (W:ae)(cs:ax ah)(t:TypeId):AV W.heap.size t cs (W.alloc (.cells cs t)):=⟨aF W _⟩
end
theorem OA:(Tryz.prog.info? 190).map (fun i=>(i.zero,i.size))=some (some (.agg (JP (List.replicate 64 0))),(JP (List.replicate 64 0)).size):=by kernel_rfl
section
variable {P:Program}{ops:ax Oper}{o:Oper}{a:Act}{w:ae}{K:Act->ae->Prop}{Q:Exit->Act->ae->Prop}{E:Prop}
theorem MP (hgd:o.guard=none)(t:TypeId)(ho:o.op=.alloc t)(cells:ax ah)(hz:(P.info? t).map (fun i=>(i.zero,i.size))=some (some (.agg cells),cells.size))
  (h:K (a.put o.dst (.pointer (some ⟨w.heap.size,0,none⟩))) (w.alloc (.cells cells t))):if Region.wanted o (yielded ops a.tmps)=true then Oper.wp P o a w K Q else E:=by
 have hw:Region.wanted o (yielded ops a.tmps)=true:=by simp[Region.wanted,hgd]
 rw[bD hw];unfold Oper.wp execOp;simp only[ho,fH,Oi w t (.agg cells) _ hz,dX];exact h
theorem MQ (hgd:o.guard=none)(ty:TypeId)(x y:Operand)(ho:o.op=.store ty x y)(g:Nat)(cells:ax ah)(hx:a.eval x=.pointer (some ⟨g,0,none⟩))(hy:a.eval y=.agg cells)
  (t:TypeId)(old:ax ah)(hg:w.heap[g]? =some (.cells old t (0,0)))(hi:(P.info? ty).map (·.size)=some cells.size)(hold:old.size=cells.size)(h1:cells.all (·.oneCell')=true)
  (h:K (a.put o.dst undef) (w.setRow g cells)):if Region.wanted o (yielded ops a.tmps)=true then Oper.wp P o a w K Q else E:=by
 have hw:Region.wanted o (yielded ops a.tmps)=true:=by simp[Region.wanted,hgd]
 rw[bD hw];exact pg ty x y ho g cells hx hy t old hg hi hold h1 h
end
theorem NM (w:ae)(t:TypeId)(cs:ax ah)(l:ag ah)(h:cs.toList=l):∀j u,l[j]? =some u->(w.alloc (.cells cs t)).cell? ((⟨w.heap.size,0,none⟩:Addr).add j)=some u:=by
 intro j u hu;rw[addr_add,aC _ _ j _ _ _ (aF w _),<-eQ,h];exact hu
theorem own_below {w w':ae}{base e size n:Nat}{v:ah}{xs:ag ah}(h:w.ownsRow base e size v n xs)(hb:ai w.heap.size w w'):w'.ownsRow base e size v n xs:=
 lM (row:=none) h ⟨hb.os,hb.tape,hb.output,hb.size,fun k hk _=>hb.block k hk⟩ (by cases v.ownBlock<;>simp)
theorem al5 {P:Program}{ops:ax Oper}{Q:Exit->Act->ae->Prop}{md:Region.Mode}{S:ae->Prop}{i:Nat}{oi:Oper}{v:ah}{d:Tmp}{fuel:Nat}{listed:ax Bool}{a:Act}{w:ae}(hi:ops[i]? =some oi)(hd:oi.dst=some d)
  (hs:Region.noSelect ops=true)(hf:Region.free md ops listed i=true)(hr:(Region.ready md ops listed).contains i=true)
  (hQ:∀c a w,Q (.panic c) (a.put oi.dst v) w->Q (.panic c) a w)(hy:YieldsIf P ops S oi v a)(hS:S w)
  (h:wpAnyH P md ops Q S fuel (listed.setIfInBounds i true) (a.put (some d) v) w):wpAnyH P md ops Q S (fuel+1) listed a w:=
 wpAnyH_take hi hs hf hr hQ hy hS (by rw[hd];exact h)
theorem Nq {P:Program}{ops:ax Oper}{S:ae->Prop}{op:Oper}{a:Act}(hw:Region.wanted op (yielded ops a.tmps)=true)(t:TypeId)(parts:ax (Nat×Operand))(ho:op.op=.build t parts)(cells:ax ah)
  (hb:P.built t (parts.map fun (i,x)=>(i,a.eval x)).toList=some cells):YieldsIf P ops S op (.agg cells) a:=
 .inl ⟨hw,fun w _=>by
  unfold execOp;simp only[ho,fH,run_build w t _ cells hb,dX];rfl⟩
theorem RZ (W:ae)(o:Obj):(W.alloc o).heap.size=W.heap.size+1:=by simp
theorem AV.SA {b:Nat}{t:TypeId}{cs:ax ah}{W:ae}(h:AV b t cs W)(ds:ax ah):AV b t ds (W.setRow b ds):=⟨aQ _ _ _ _ _ _ h.var⟩
theorem AV.UA {b c:Nat}{t:TypeId}{cs:ax ah}{W:ae}(h:AV b t cs W)(hn:b≠c)(ds:ax ah):AV b t cs (W.setRow c ds):=⟨(cZ _ _ b _ hn).trans h.var⟩
theorem AV.Nc {b:Nat}{t:TypeId}{cs:ax ah}{W:ae}(h:AV b t cs W):MS W b cs:=⟨h.lt,h.cell⟩
structure UM (w:ae)(cc:ag ah)(vb k c:Nat)(A:aj Addr)(ss:ag Int)(W:ae):Prop where
 lo:ai w.heap.size w W
 it:AV w.heap.size 65 cc.toArray W
 r:AV (w.heap.size+1) 220 #[I 0,.slice none 0 0,I 0,.slice none 0 0,.slice none 0 0] W
 ge:w.heap.size+2<=vb
 var:AV vb 220 (cc++ [Value.slice A k c]).toArray W
 own:W.ownsRow (w.heap.size+2) 3 1 (.slice A k c) k (ss.map I)
 ne:some vb≠(Value.slice A k c).ownBlock
section
variable {w W W':ae}{cc:ag ah}{vb k c:Nat}{A:aj Addr}{ss:ag Int}
theorem UM.grow (h:UM w cc vb k c A ss W)(hb:ai W.heap.size W W'):UM w cc vb k c A ss W':=⟨JL h.lo hb,h.it.below hb,h.r.below hb,h.ge,h.var.below hb,own_below h.own hb,h.ne⟩
theorem UM.drew (h:UM w cc vb k c A ss W):UM w cc vb k c A ss W.drew:=h.grow ((aW _ W).drew)
theorem UM.there (h:UM w cc vb (k+1) c A ss W):∃g,A=some ⟨g,0,none⟩/\w.heap.size+2<=g/\g<W.heap.size/\k+1<=c/\∀(j:Nat) (s:Int),ss[j]? =some s->W.cell? ⟨g,j,none⟩=some (I s):=by
 rcases h.own.2 with ⟨_,hn⟩|⟨g,cap,cur,hv,hg,hh,hc,_,_,ht⟩
 ·omega
 ·injection hv with h1 h2 h3;refine⟨g,h1,hg,(KY.1 hh).1,by omega,fun j s hs=>?_⟩;rw[aC W g j _ _ _ hh,<-eQ];have h4:(ss.map I)[j]? =some (I s):=by rw[aJ,hs];rfl
  rw[<-ht] at h4;rw[lL] at h4;split at h4
  ·exact h4
  ·cases h4
theorem UM.add {Wb w6:ae}{gg cap:Nat}{s:Int}(h:UM w cc vb k c A ss W)(h4:cc.length=4)(Xg:Wb=W.alloc (.cells #[I s] 3))
  (hown:w6.ownsRow (w.heap.size+2) 3 1 (.slice (Option.some ⟨gg,0,none⟩) (k+1) cap) (k+1) (ss.map I++ [I s]))(hg:Wb.grownBy w6 (Value.slice A k c).ownBlock)(hat:(Value.slice A k c).ownBlock=Option.some gg\/gg=Wb.heap.size):
  UM w cc vb (k+1) cap (Option.some ⟨gg,0,none⟩) (ss++ [s]) (w6.setCell ⟨vb,4,none⟩ (.slice (Option.some ⟨gg,0,none⟩) (k+1) cap)):=by
 have hsb:Wb.heap.size=W.heap.size+1:=by rw[Xg];simp
 have hlt:=h.var.lt;have hle:=h.lo.size;have hrl:=h.r.lt;have hbl:∀b,b<W.heap.size->Option.some b≠(Value.slice A k c).ownBlock->w6.heap[b]? =W.heap[b]? :=fun b hb hn=>
  (hg.block b (by omega) hn).trans (by rw[Xg];exact aV W _ b hb)
 have hlow:∀b,b<w.heap.size+2->Option.some b≠(Value.slice A k c).ownBlock:=MV h.own;have hset:∀b,b≠vb->(w6.setCell ⟨vb,4,none⟩ (.slice (Option.some ⟨gg,0,none⟩) (k+1) cap)).heap[b]? =w6.heap[b]? :=fun b hb=>aN w6 ⟨vb,4,none⟩ b _ hb;have hge:=h.ge;have hne:vb≠gg:=fun e=>by
  rcases hat with e3|e3
  ·exact h.ne (by rw[e];exact e3.symm)
  ·omega
 have h1:ai w.heap.size w Wb:=by rw[Xg];exact JL h.lo (JM W _)
 have hob:Wb.ownsRow (w.heap.size+2) 3 1 (.slice A k c) k (ss.map I):=by rw[Xg];exact own_below h.own (JM W _)
 have hv6:AV vb (220) (cc++ [Value.slice A k c]).toArray w6:=⟨(hbl _ hlt h.ne).trans h.var.var⟩;have hup:ai w.heap.size w w6:=KJ h1 (KD hob (by omega)) h1.size hg;refine⟨hup.setCell (p:=⟨vb,4,none⟩) (by show w.heap.size<=vb;omega) _,⟨(hset _ (by omega)).trans ((hbl _ (by omega) (hlow _ (by omega))).trans h.it.var)⟩,⟨(hset _ (by omega)).trans ((hbl _ (by omega) (hlow _ (by omega))).trans h.r.var)⟩,hge,?_,?_,fun e=>?_⟩
 ·have h2:=hv6.put 4 (.slice (Option.some ⟨gg,0,none⟩) (k+1) cap);have e:(cc++ [Value.slice A k c]).toArray.setIfInBounds 4 (.slice (Option.some ⟨gg,0,none⟩) (k+1) cap)=(cc++ [Value.slice (Option.some ⟨gg,0,none⟩) (k+1) cap]).toArray:=by
   match cc,h4 with
   | [a,b,c,d],_=>rfl
  rw[e] at h2;exact h2
 ·rw[bY];exact Nl (p:=⟨vb,4,none⟩) hown (fun e=>hne (by simpa[Value.ownBlock] using e))
 ·have:vb=gg:=by simpa[Value.ownBlock] using e
  exact hne this
end
section
variable {P:Program}{ops:ax Oper}{o:Oper}{a:Act}{w:ae}{K:Act->ae->Prop}{Q:Exit->Act->ae->Prop}{E:Prop}
theorem NK (hgd:o.guard=none)(ty:TypeId)(x:Operand)(ho:o.op=.load ty x)(b off:Nat)(hx:a.eval x=.pointer (some ⟨b,off,none⟩))(cs:ag ah)(d:TypeDesc)(hr:w.rangeAt b off cs)
  (hu:P.underlying ty=some d)(hd:d.isRow=true)(hi:(P.info? ty).map (·.size)=some cs.length)(h:K (a.put o.dst (.agg cs.toArray)) w):if Region.wanted o (yielded ops a.tmps)=true then Oper.wp P o a w K Q else E:=by
 have hw:Region.wanted o (yielded ops a.tmps)=true:=by simp[Region.wanted,hgd]
 rw[bD hw];exact nG ty x ho b off hx cs d hr hu hd hi h
end
theorem memo {G:Prop}{T:ae->Prop}{C:ae->Prop}(f:(∀W,C W->T W)->G)(h:∀W,C W->T W):G:=f h
theorem aiC (n:Nat)(hn:n<=1000)(W:ae):(Instr.makeSlice 62 (.int .i64 1) (.int .i64 ((n:Int)+1))).run Tryz.prog W=.ok (.slice (some ⟨W.heap.size,0,none⟩) 1 (n+1)) (W.alloc (.cells (Array.replicate (n+1) (I 0)) 3)):=by
 obtain⟨i0,hi,hz0,hz1,hz2⟩:=dN Xh;have h:=run_makeSlice (P:=Tryz.prog) (w:=W) 62 3 i0 (.int .i64 0) iW hi hz0 .i64 .i64 1 ((n:Int)+1) (by omega) (by omega) (by rw[hz1];omega) (by rw[hz2];omega) (by omega);rw[hz1] at h;have e:madeCells (Value.int .i64 0).cells ((((n:Int)+1).toNat)*1)=Array.replicate (n+1) (I 0):=by
  apply Array.ext';simp[madeCells,Value.cells,Nat.mod_one];apply List.ext_getElem
  ·simp
  ·intro j h1 h2;simp
 rw[e] at h;rw[h];congr 2
end Go.Proofs.YtbaehbbonkljpaaGreatDoor
