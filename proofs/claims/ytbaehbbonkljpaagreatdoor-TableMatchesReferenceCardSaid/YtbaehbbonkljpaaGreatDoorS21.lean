/- The texts Vc, Vd, in this order. -/
import Derived.Test.YtbaehbbonkljpaaGreatDoorS00
import Derived.Test.YtbaehbbonkljpaaGreatDoorS06
import Derived.Test.YtbaehbbonkljpaaGreatDoorS07
import Derived.Test.YtbaehbbonkljpaaGreatDoorS10
import Derived.Test.YtbaehbbonkljpaaGreatDoorS13
import Derived.Test.YtbaehbbonkljpaaGreatDoorS20
set_option maxRecDepth 10000
set_option maxHeartbeats 8000000
namespace Go.Proofs.YtbaehbbonkljpaaGreatDoor
open Go Go.RowKit
theorem CG (wd wk:Int) (h5:wk<5):∀(n:Nat) (d cn la:Int),cn<wk->
  (gI wd wk n d cn la).2=decide ((wd - d)%7+7*(wk - cn - 1)<(n:Int))/\((gI wd wk n d cn la).2=true->(gI wd wk n d cn la).1=d+(wd - d)%7+7*(wk - cn - 1))\/¬(0<=wd/\wd<=6)
 |0,d,cn,la,h=>by
  left;have e:(wk==5)=false:=by simp;omega
  show (wk==5&&_)=_/\((wk==5&&_)=true->_);rw [e,Bool.false_and];exact ⟨(decide_eq_false (by omega)).symm,fun h=>by cases h⟩
 |n+1,d,cn,la,h=>by
  by_cases hw:0<=wd/\wd<=6
  ·left;by_cases hd:d%7=wd
   ·have e:gI wd wk (n+1) d cn la=if cn+1=wk/\wk<5 then (d,true) else gI wd wk n (d+1) (cn+1) d:=by
     show (if d%7=wd then _ else _)=_;rw [if_pos hd]
    rw [e];by_cases hk:cn+1=wk/\wk<5
    ·rw [if_pos hk];exact ⟨(decide_eq_true (by omega)).symm,fun _=>by show d=_;omega⟩
    ·rw [if_neg hk];rcases CG wd wk h5 n (d+1) (cn+1) d (by omega) with ⟨h1,h2⟩|h1
     ·rw [h1] at h2 ⊢;refine ⟨?_,fun h3=>?_⟩
      ·by_cases q:(wd - d)%7+7*(wk - cn - 1)<((n+1:Nat):Int)
       ·rw [decide_eq_true q];exact decide_eq_true (by omega)
       ·rw [decide_eq_false q];exact decide_eq_false (by omega)
      ·rw [h2 h3];omega
     ·exact absurd hw h1
   ·have e:gI wd wk (n+1) d cn la=gI wd wk n (d+1) cn la:=by
     show (if d%7=wd then _ else _)=_;rw [if_neg hd]
    rw [e];rcases CG wd wk h5 n (d+1) cn la h with ⟨h1,h2⟩|h1
    ·rw [h1] at h2 ⊢;refine ⟨?_,fun h3=>?_⟩
     ·by_cases q:(wd - d)%7+7*(wk - cn - 1)<((n+1:Nat):Int)
      ·rw [decide_eq_true q];exact decide_eq_true (by omega)
      ·rw [decide_eq_false q];exact decide_eq_false (by omega)
     ·rw [h2 h3];omega
    ·exact absurd hw h1
  ·exact .inr hw
theorem yL (wd:Int) (hw:0<=wd/\wd<=6):∀(n:Nat) (d cn la:Int),
  gI wd 5 n d cn la=if (wd - d)%7<(n:Int) then (d+n - 1 - (d+n - 1 - wd)%7,decide (0<=d+n - 1 - (d+n - 1 - wd)%7)) else (la,decide (0<=la))
 |0,d,cn,la=>by
  rw [if_neg (by omega)];rfl
 |n+1,d,cn,la=>by
  by_cases hd:d%7=wd
  ·have e:gI wd 5 (n+1) d cn la=gI wd 5 n (d+1) (cn+1) d:=by
    show (if d%7=wd then _ else _)=_;rw [if_pos hd,if_neg (by omega)]
   rw [e,yL wd hw n (d+1) (cn+1) d];by_cases q:(wd - (d+1))%7<(n:Int)
   ·rw [if_pos q,if_pos (by omega),show d+1+(n:Int) - 1=d+((n+1:Nat):Int) - 1 by omega]
   ·rw [if_neg q,if_pos (by omega),show d+((n+1:Nat):Int) - 1 - (d+((n+1:Nat):Int) - 1 - wd)%7=d by omega]
  ·have e:gI wd 5 (n+1) d cn la=gI wd 5 n (d+1) cn la:=by
    show (if d%7=wd then _ else _)=_;rw [if_neg hd]
   rw [e,yL wd hw n (d+1) cn la];by_cases q:(wd - (d+1))%7<(n:Int)
   ·rw [if_pos q,if_pos (by omega),show d+1+(n:Int) - 1=d+((n+1:Nat):Int) - 1 by omega]
   ·rw [if_neg q,if_neg (by omega)]
theorem Qg (wd wk d:Int) (m:Nat) (h1:0<=wd/\wd<=6) (h2:1<=wk/\wk<=5) (hd:0<=d):
  (Qe wd wk d m).2=(gI wd wk m d 0 (-1)).2/\((gI wd wk m d 0 (-1)).2=true->(Qe wd wk d m).1=(gI wd wk m d 0 (-1)).1):=by
 unfold Qe;by_cases h5:wk=5
 ·subst h5;rw [if_pos rfl,yL wd h1];by_cases q:(wd - d)%7<(m:Int)
  ·rw [if_pos q];exact ⟨by rw [decide_eq_true (show d<=d+(m:Int) - 1 - (d+m - 1 - wd)%7 by omega)];exact (decide_eq_true (by omega)).symm,fun _=>rfl⟩
  ·rw [if_neg q];have e:decide ((0:Int)<= -1)=false:=by decide
   rw [e];exact ⟨decide_eq_false (by omega),fun h=>by cases h⟩
 ·rw [if_neg h5];rcases CG wd wk (by omega) m d 0 (-1) (by omega) with ⟨e1,e2⟩|e
  ·rw [e1] at e2 ⊢;refine ⟨?_,fun h=>?_⟩
   ·by_cases q:(wd - d)%7+7*(wk - 0 - 1)<(m:Int)
    ·rw [decide_eq_true q];exact decide_eq_true (by omega)
    ·rw [decide_eq_false q];exact decide_eq_false (by omega)
   ·rw [e2 h];show d+(wd - d)%7+7*(wk - 1)=_;omega
  ·exact absurd h1 e
def Ie (c:Cal) (bg y:Int) (r:Yr):Int×Bool:=gI r.dh r.cZ (vJ c y (r.month - 1).toNat).toNat (bg+jZ c y (r.month - 1).toNat) 0 (-1)
theorem fd_yd {c:Cal} {bg y:Int} {r:Yr} (hc:fJ c) (hr:ui c.au.length r) (hb:0<=bg):(Q8 c bg y r).2=(Ie c bg y r).2/\((Ie c bg y r).2=true->(Q8 c bg y r).1=(Ie c bg y r).1):=by
 have h1:=hr.mo;have h2:=rZ c y hc (r.month - 1).toNat (by omega);have h3:=wP c y (r.month - 1).toNat hc (by omega);have h:=Qg r.dh r.cZ (bg+jZ c y (r.month - 1).toNat) (vJ c y (r.month - 1).toNat).toNat hr.wd hr.wk (by omega);rw [show (((vJ c y (r.month - 1).toNat).toNat:Nat):Int)=vJ c y (r.month - 1).toNat by omega] at h;exact h
theorem Yv (c:Cal) (A R:Option Addr) (a r:Nat) (bg y:Int) (x:Yr) (w:World) (hc:fJ c) (h:qj w w.heap.size A R c) (hb:0<=bg) (hb2:bg<=100000000) (hy:0<=y) (hr:ui c.au.length x):
  Calls Tryz.prog 96 #[.agg (aI c A a R r),I bg,I y, .agg #[I x.month,I x.cZ,I x.dh,I x.minute,I x.off]] w (Gives (.tuple #[I (Ie c bg y x).1, .bool (Ie c bg y x).2]) w):=by
 have hmo:=hr.mo;obtain ⟨m,hm⟩:∃m:Nat,x.month=(m:Int)+1:=⟨(x.month - 1).toNat,by omega⟩;obtain ⟨mo,wk,wd,mi,of⟩:=x;simp only at hm hmo ⊢;subst hm;obtain ⟨N,hN⟩:∃N,c.au.length=N:=⟨_,rfl⟩;have hmN:m<N:=by omega
 have hN16:N<=16:=by rw [<-hN];exact hc.ml.2
 have KP:Hid (∀W,Below w.heap.size w W->∀k,k<N->Calls Tryz.prog 120 #[.agg (aI c A a R r),I y,I ((k:Int)+1)] W (Gives (I (vJ c y k)) W)):=ae fun W hb k hk=>UQ _ A R a r y k W hc (h.grow hb) hy (by omega);have qV:=ae (fun W hb=>KP.out W hb m hmN);have V9:=ae (fun k (hk:k<=N)=>rZ c y hc k (by omega));have VX:=ae (fun k (hk:k<N)=>wP c y k hc (by omega));obtain ⟨res,hres⟩:∃res,Ie c bg y ⟨(m:Int)+1,wk,wd,mi,of⟩=res:=⟨_,rfl⟩;rw [hres];unfold Ie at hres;simp only at hres;rw [show ((m:Int)+1 - 1).toNat=m by omega] at hres;have h2:=VX.out m hmN;obtain ⟨n,hn⟩:∃n:Nat,vJ c y m=n:=⟨(vJ c y m).toNat,by omega⟩;rw [hn] at qV h2 hres;rw [Int.toNat_natCast] at hres;obtain ⟨ep,lp,A',R',n0,n1,hcs⟩:∃ep lp,∃A' R':Option Addr,∃n m:Nat,aI c A a R r= #[I ep, .slice A' n a,I lp, .slice R' m r]:=⟨_,_,_,_,_,_,rfl⟩;rw [hcs] at KP qV ⊢;have rF:=ae hres;clear hcs hn hc h hy hr hres hN hmo;have hn9:n<=41:=by omega
 clear h2;have HV:=ae (qp.NF w 0 65 110 #[I ep, .slice A' n0 a,I lp, .slice R' n1 r] #[I ((m:Int)+1),I wk,I wd,I mi,I of]);go_enter Tryz.func96,Tryz.ntmps96;go_wp2_with fail
 go_loopw [10,11] (fun f i wr=>∃k:Nat,k<=m/\f=I (bg+jZ c y k)/\i=I ((k:Int)+1)/\qp w 0 #[I ep, .slice A' n0 a,I lp, .slice R' n1 r] #[I ((m:Int)+1),I wk,I wd,I mi,I of] wr) (fun _ i _=>m+1 - (intOf i).toNat)
 case atStart=>exact ⟨0,Nat.zero_le _,by show I bg=I (bg+0);rw [Int.add_zero],rfl,HV.out⟩
 case round=>
  clear HV;obtain ⟨k,hk,rfl,rfl,hv⟩:=hrel;have HV:=ae hv;clear hv;have hyb:=V9.out k (by omega);have k16:(k:Int)<=16:=by omega
  by_cases hlt:k<m
  ·have j1:(k:Int)+1<(m:Int)+1:=by omega
   have hmb:=VX.out k (by omega);have HST:Hid (jZ c y (k+1)=jZ c y k+vJ c y k):=ae rfl;have HC:=ae (KP.out wr HV.out.up k (by omega));obtain ⟨u,hu⟩:∃u,jZ c y k=u:=⟨_,rfl⟩;obtain ⟨q,hq⟩:∃q,vJ c y k=q:=⟨_,rfl⟩;rw [hu] at hyb HST ⊢;rw [hq] at hmb HST HC;clear hu hq;have hs:bg+(u+q)=bg+u+q:=by omega
   have v0:wr.cell? ⟨w.heap.size,0,none⟩=some (I ep):=HV.out.a.2 0;have v1:wr.cell? ⟨w.heap.size,1,none⟩=some (.slice A' n0 a):=HV.out.a.2 1;have v2:wr.cell? ⟨w.heap.size,2,none⟩=some (I lp):=HV.out.a.2 2;have v3:wr.cell? ⟨w.heap.size,3,none⟩=some (.slice R' n1 r):=HV.out.a.2 3;have u0:wr.cell? ⟨w.heap.size+1,0,none⟩=some (I ((m:Int)+1)):=HV.out.b.2 0;go_wp2_with fail;refine HC.out.mono ?_;rintro e w2 ⟨rfl,hb1⟩;have nD:=ae (HV.out.below hb1);clear hb1 HV v0 v1 v2 v3 u0;go_wp2_with fail;go_roundw
   case rel=>exact ⟨k+1,by omega,by rw [HST.out,hs],by go_num,nD.out⟩
   case measure=>simp [intOf];omega
  ·have hke:k=m:=by omega
   subst hke;have j1:¬(k:Int)+1<(k:Int)+1:=by omega
   obtain ⟨u,hu⟩:∃u,jZ c y k=u:=⟨_,rfl⟩;rw [hu] at hyb rF ⊢;clear hu;have v0:wr.cell? ⟨w.heap.size,0,none⟩=some (I ep):=HV.out.a.2 0;have v1:wr.cell? ⟨w.heap.size,1,none⟩=some (.slice A' n0 a):=HV.out.a.2 1;have v2:wr.cell? ⟨w.heap.size,2,none⟩=some (I lp):=HV.out.a.2 2;have v3:wr.cell? ⟨w.heap.size,3,none⟩=some (.slice R' n1 r):=HV.out.a.2 3;have u0:wr.cell? ⟨w.heap.size+1,0,none⟩=some (I ((k:Int)+1)):=HV.out.b.2 0;go_wp2_with fail;clear v0 v1 v2 v3 u0;have hf0:0<=bg+u:=by omega
   have hf1:bg+u<=100000700:=by omega
   clear hb hb2 hyb KP;generalize bg+u=fs at hf0 hf1 rF ⊢
   go_loopw [12,13,14] (fun c l d wr=>FRel w #[I ep, .slice A' n0 a,I lp, .slice R' n1 r] #[I ((k:Int)+1),I wk,I wd,I mi,I of] wd wk fs n res c l d wr) (fun _ _ d _=>((fs+n) - intOf d).toNat)
   case atStart=>exact ⟨0,0, -1,Nat.zero_le _,rfl,rfl,by go_num,by omega,by omega,by omega,by omega,by simpa using rF.out,HV.out⟩
   case round=>
    obtain ⟨j,cn,la,hj,rfl,rfl,rfl,hc0,hc1,hl0,hl1,hsc,hv⟩:=hrel;have HS:=ae hsc;have HW:=ae hv;clear hsc hv HV;have v0:wr.cell? ⟨w.heap.size,0,none⟩=some (I ep):=HW.out.a.2 0;have v1:wr.cell? ⟨w.heap.size,1,none⟩=some (.slice A' n0 a):=HW.out.a.2 1;have v2:wr.cell? ⟨w.heap.size,2,none⟩=some (I lp):=HW.out.a.2 2;have v3:wr.cell? ⟨w.heap.size,3,none⟩=some (.slice R' n1 r):=HW.out.a.2 3;have u0:wr.cell? ⟨w.heap.size+1,0,none⟩=some (I ((k:Int)+1)):=HW.out.b.2 0;have u1:wr.cell? ⟨w.heap.size+1,1,none⟩=some (I wk):=HW.out.b.2 1;have u2:wr.cell? ⟨w.heap.size+1,2,none⟩=some (I wd):=HW.out.b.2 2;go_wp2_with fail;refine (qV.out _ HW.out.up).mono ?_;rintro e w3 ⟨rfl,hb3⟩;have HX:=ae (HW.out.below hb3);clear v0 v1 v2 v3 u0 u1 u2 hb3;have u1:w3.cell? ⟨w.heap.size+1,1,none⟩=some (I wk):=HX.out.b.2 1;have u2:w3.cell? ⟨w.heap.size+1,2,none⟩=some (I wd):=HX.out.b.2 2;by_cases hlt:j<n
    ·have hlt':fs+(j:Int)<fs+(n:Int):=by omega
     have OE:Int.tmod (fs+(j:Int)) 7=(fs+(j:Int))%7:=Int.tmod_eq_emod_of_nonneg (by omega);obtain ⟨p,hp⟩:∃p,(fs+(j:Int))%7=p:=⟨_,rfl⟩;rw [hp] at OE;have HP:=ae hp;clear hp;have ht:(p==wd)=true\/(p==wd)=false:=by cases (p==wd)<;>simp
     rcases ht with ht|ht
     ·have hu:(cn+1==wk)=true\/(cn+1==wk)=false:=by cases (cn+1==wk)<;>simp
      have HT:=ae ht;rcases hu with hu|hu
      ·by_cases h5:wk<5
       ·have HU:=ae hu;have H5:=ae h5;have HE:=ae (UU HS.out hlt (by rw [HP.out];exact HT.out) ⟨by simpa using HU.out,H5.out⟩);go_wp2_with fail;go_ret2;exact ⟨by rw [HE.out];rfl,HX.out.up⟩
       ·have HU:=ae hu;have H5:=ae h5;have HE:=ae (Fg HS.out hlt (by rw [HP.out];exact HT.out) (fun h=>H5.out h.2));go_wp2_with fail;go_roundw
        case rel=>exact ⟨j+1,cn+1,fs+j,by omega,by go_num,by go_num,by go_num,by omega,by omega,by omega,by omega,HE.out,HX.out⟩
        case measure=>simp [intOf];omega
      ·have HU:=ae hu;have HE:=ae (Fg HS.out hlt (by rw [HP.out];exact HT.out) (fun h=>by have h1:=HU.out;simp [h.1] at h1));go_wp2_with fail;go_roundw
       case rel=>exact ⟨j+1,cn+1,fs+j,by omega,by go_num,by go_num,by go_num,by omega,by omega,by omega,by omega,HE.out,HX.out⟩
       case measure=>simp [intOf];omega
     ·have HT:=ae ht;have HE:=ae (QE HS.out hlt (by rw [HP.out];exact HT.out));go_wp2_with fail;go_roundw
      case rel=>exact ⟨j+1,cn,la,by omega,by go_num,by go_num,by go_num,by omega,by omega,by omega,by omega,HE.out,HX.out⟩
      case measure=>simp [intOf];omega
    ·have hke:j=n:=by omega
     have hnl:¬fs+(j:Int)<fs+(n:Int):=by omega
     have HE:=ae (QF HS.out (by omega));clear hke hlt;have hk5:(wk==5)=true\/(wk==5)=false:=by cases (wk==5)<;>simp
     rcases hk5 with hk5|hk5
     ·have HK:=ae hk5;go_wp2_with fail;go_ret2;exact ⟨by rw [show res=(la,decide (0<=la)) by rw [HE.out,HK.out];rfl];rfl,HX.out.up⟩
     ·have HK:=ae hk5;go_wp2_with fail;go_ret2;exact ⟨by rw [show res=(la,false) by rw [HE.out,HK.out];rfl];rfl,HX.out.up⟩
def Hq (c:Cal) (bg y:Int) (r r':Yr) (out:List Tr):List Tr:=if (Ie c bg y r).2=true then rP out ⟨(Ie c bg y r).1*1440+r.minute - r'.off,r.off⟩ else out
def ni (c:Cal) (r0 r1:Yr) (stop:Int):Nat->Int->Int->List Tr->List Tr
 |0,_,_,out=>out
 |n+1,bg,y,out=>if bg<stop then ni c r0 r1 stop n (bg+uY c y) (y+1) (Hq c bg y r1 r0 (Hq c bg y r0 r1 out)) else out
def uZ (z:Zn):List Tr:=match z.aH with
 | [r0,r1]=>ni z.cal r0 r1 (z.cal.bn+gy z) (gy z).toNat z.cal.bn 1 []
 |_=> []
theorem Ov (c:Cal) (bg y:Int) (r:Yr) (hc:fJ c) (hr:ui c.au.length r) (hb:0<=bg): -1<=(Ie c bg y r).1/\(Ie c bg y r).1<=bg+800:=by
 have h1:=hr.mo;have h2:=rZ c y hc (r.month - 1).toNat (by omega);have h3:=wP c y (r.month - 1).toNat hc (by omega);have h4:=hc.ml;unfold Ie;rcases YB r.dh r.cZ (vJ c y (r.month - 1).toNat).toNat (bg+jZ c y (r.month - 1).toNat) 0 (-1) (by omega) (by omega) with h|h
 ·omega
 ·omega
theorem GX {c:Cal} {bg y:Int} {r r':Yr} {ts:List Tr} (h:oG ts) (hc:fJ c) (hr:ui c.au.length r) (hr':ui c.au.length r') (hb:0<=bg) (hb2:bg<=4000000):oG (Hq c bg y r r' ts):=by
 have h1:=Ov c bg y r hc hr hb;have h2:=hr.mi;have h3:=hr'.of;unfold Hq;split
 ·intro x hx;rcases Uh hx with rfl|hx
  ·constructor<;>(simp only;omega)
  ·exact h x hx
 ·exact h
theorem uX {c:Cal} {r0 r1:Yr} {stop bg y:Int} {f:Nat} {ts res:List Tr} (h:ni c r0 r1 stop f bg y ts=res) (hb:bg<stop) (hf:(stop - bg).toNat<=f) (hy:1<=uY c y):
  ∃f',(stop - (bg+uY c y)).toNat<=f'/\ni c r0 r1 stop f' (bg+uY c y) (y+1) (Hq c bg y r1 r0 (Hq c bg y r0 r1 ts))=res:=by
 cases f with
 |zero=>omega
 |succ f=>exact ⟨f,by omega,by rw [ni,if_pos hb] at h;exact h⟩
theorem NT {c:Cal} {r0 r1:Yr} {stop bg y:Int} {f:Nat} {ts res:List Tr} (h:ni c r0 r1 stop f bg y ts=res) (hb:¬bg<stop):ts=res:=by
 cases f with
 |zero=>exact h
 |succ f=>rw [ni,if_neg hb] at h;exact h
def Xq (ts:List Tr):Prop:=ts.Pairwise (fun a b=>a.at_<=b.at_)
theorem E8 (ts:List Tr) (t:Tr):∀k:Nat,k<=ts.length->(∀(j:Nat) (x:Tr),vK ts t k<=j->j<k->ts[j]? =some x->t.at_<x.at_)/\(∀x:Tr,ts[vK ts t k - 1]? =some x->vK ts t k≠0->x.at_<=t.at_)
 |0,_=>⟨fun j x _ h=>absurd h (Nat.not_lt_zero _),fun x _ h=>absurd rfl h⟩
 |k+1,hk=>by
  obtain ⟨h1,h2⟩:=E8 ts t k (by omega);have hx:ts[k]? =some ts[k]:=bK (by omega);by_cases h:t.at_<(ts[k]).at_
  ·rw [OU hx h];refine ⟨fun j x hj hk2 Ql=>?_,h2⟩;rcases Nat.lt_succ_iff_lt_or_eq.1 hk2 with h3|rfl
   ·exact h1 j x hj h3 Ql
   ·rw [hx] at Ql;injection Ql with Ql;rw [<-Ql];exact h
  ·rw [Fa hx h];refine ⟨fun j x hj hk2 _=>by omega,fun x Ql _=>?_⟩;rw [Nat.add_sub_cancel,hx] at Ql;injection Ql with Ql;rw [<-Ql];omega
theorem Ui {ts:List Tr} (t:Tr) (h:Xq ts):Xq (rP ts t):=by
 unfold rP;obtain ⟨h1,h2⟩:=E8 ts t ts.length (Nat.le_refl _);have hp:=OV ts t ts.length;generalize vK ts t ts.length=p at h1 h2 hp ⊢;have hts:Xq (ts.take p++ts.drop p):=by rw [List.take_append_drop];exact h
 have hi:=h;unfold Xq at hts hi ⊢;rw [List.pairwise_append] at hts ⊢;obtain ⟨q1,q2,q3⟩:=hts;have hlow:∀a∈ts.take p,a.at_<=t.at_:=fun a ha=>by
  obtain ⟨i,hi2,rfl⟩:=List.mem_iff_getElem.1 ha;rw [List.length_take] at hi2;have hpl:p - 1<ts.length:=by omega
  have h4:=h2 _ (bK hpl) (by omega);rw [List.getElem_take];rcases Nat.lt_or_ge i (p - 1) with h5|h5
  ·have h6:=(List.pairwise_iff_getElem.1 hi) i (p - 1) (by omega) hpl h5;omega
  ·have h7:i=p - 1:=by omega
   subst h7;exact h4
 have hup:∀b∈ts.drop p,t.at_<=b.at_:=fun b hb=>by
  obtain ⟨i,hi2,rfl⟩:=List.mem_iff_getElem.1 hb;rw [List.length_drop] at hi2;rw [List.getElem_drop];have:=h1 (p+i) _ (by omega) (by omega) (bK (by omega));omega
 refine ⟨q1,List.pairwise_cons.2 ⟨hup,q2⟩,fun a ha b hb=>?_⟩;rcases List.mem_cons.1 hb with rfl|hb
 ·exact hlow a ha
 ·exact q3 a ha b hb
theorem Pn {c:Cal} {bg y:Int} {r r':Yr} {ts:List Tr} (h:Xq ts):Xq (Hq c bg y r r' ts):=by
 unfold Hq;split
 ·exact Ui _ h
 ·exact h
theorem Dl {c:Cal} {r0 r1:Yr} {stop:Int}:∀(f:Nat) (bg y:Int) (ts:List Tr),Xq ts->Xq (ni c r0 r1 stop f bg y ts)
 |0,_,_,_,h=>h
 |f+1,bg,y,ts,h=>by
  unfold ni;split
  ·exact Dl f _ _ _ (Pn (Pn h))
  ·exact h
theorem Ko {c:Cal} {bg y:Int} {r r':Yr} {ts us:List Tr} (hc:fJ c) (hr:ui c.au.length r) (hb:0<=bg) (h:ts.Perm us):(Hq c bg y r r' ts).Perm (pM c bg y r r' us):=by
 obtain ⟨h1,h2⟩:=fd_yd (y:=y) hc hr hb;unfold Hq pM;rw [h1];by_cases hf:(Ie c bg y r).2=true
 ·rw [if_pos hf,if_pos hf,h2 hf];exact MR _ h
 ·rw [if_neg hf,if_neg hf];exact h
theorem zN {c:Cal} {r0 r1:Yr} {stop:Int} (hc:fJ c) (hr0:ui c.au.length r0) (hr1:ui c.au.length r1):∀(f:Nat) (bg y:Int) (ts us:List Tr),0<=bg->ts.Perm us->(ni c r0 r1 stop f bg y ts).Perm (pR c r0 r1 stop f bg y us)
 |0,_,_,_,_,_,h=>h
 |f+1,bg,y,ts,us,hb,h=>by
  unfold ni pR;split
  ·have:=l7 c y hc;exact zN hc hr0 hr1 f _ _ _ _ (by omega) (Ko hc hr1 hb (Ko hc hr0 hb h))
  ·exact h
theorem Pm (z:Zn):Xq (uZ z):=by
 unfold uZ;split
 ·exact Dl _ _ _ _ List.Pairwise.nil
 ·exact List.Pairwise.nil
theorem xR (z:Zn) (hc:fJ z.cal) (hy:qw z):(uZ z).Perm (tJ z):=by
 refine List.Perm.trans ?_ (uK z).symm;unfold uZ uy;rcases hy with e|⟨r0,r1,e,h0,h1⟩
 ·rw [e]
 ·rw [e];exact zN hc h0 h1 _ _ _ _ _ hc.ep.1 (List.Perm.refl _)
theorem VC (z:Zn) (hc:fJ z.cal) (hy:qw z) (sz:Int):eH (uZ z) sz=eH (tJ z) sz:=ES (xR z hc hy) (Pm z) (Dn z)
theorem ysR_eq (z:Zn) (hc:fJ z.cal) (hy:qw z) {sz:Int} (h:eH (tJ z) sz=true):uZ z=tJ z:=uT h (xR z hc hy) (Pm z)
theorem ysR_B (z:Zn) (hc:fJ z.cal) (hy:qw z):oG (uZ z)/\(uZ z).length<=10000000:=
 ⟨(VB z hc hy).1.perm (xR z hc hy),by rw [(xR z hc hy).length_eq];exact (VB z hc hy).2⟩
theorem O5 (z:Zn) (s:Zs) (w:World) (hc:fJ z.cal) (h:iP w w.heap.size s z):Calls Tryz.prog 78 #[.agg (ay z s)] w (Gives (I (gy z)) w):=by
 have qX:Hid (∀W,Below w.heap.size w W->Calls Tryz.prog 99 #[.agg (aI z.cal s.A s.a s.B s.b)] W (Gives (.tuple #[I (I8 z.cal:Int),I (Ic z.cal), .int .i64 0]) W)):=ae fun W hb=>UO z.cal s.A s.B s.a s.b W hc ⟨h.au.grow hb,h.rules.grow hb⟩;have hbd:=Md hc;obtain ⟨⟨ep,mo,lp,ru⟩,st,tr,ho,yr⟩:=z;obtain ⟨A,a,R,r,C,c,D,d⟩:=s;unfold aI at qX;unfold ay gy;simp only at qX hbd ⊢;obtain ⟨q,hq⟩:∃q,Ic ⟨ep,mo,lp,ru⟩=q:=⟨_,rfl⟩;rw [hq] at qX hbd ⊢;obtain ⟨y,hy⟩:∃y:Int,(I8 ⟨ep,mo,lp,ru⟩:Int)=y:=⟨_,rfl⟩;rw [hy] at qX;obtain ⟨n0,hn0⟩:∃n,mo.length=n:=⟨_,rfl⟩;obtain ⟨n1,hn1⟩:∃n,ru.length=n:=⟨_,rfl⟩;obtain ⟨n2,hn2⟩:∃n,tr.length=n:=⟨_,rfl⟩;rw [hn0,hn1] at qX ⊢;rw [hn2];clear hc h hq hy hn0 hn1 hn2;cases yr with
 |nil=>
  go_enter Tryz.func78,Tryz.ntmps78;go_wp2_with fail;go_ret;exact ⟨rfl,ag w _⟩
 |cons y1 ys=>
  obtain ⟨m,hm⟩:∃m,(y1::ys).length=m:=⟨_,rfl⟩;have hm0:((m:Int)==0)=false:=by rw [<-hm];simp;omega
  rw [hm];clear hm;have OE:q.tmod 7=q%7:=Int.tmod_eq_emod_of_nonneg (by omega);have HV:=ae (jD.start w #[I ep, .slice A n0 a,I lp, .slice R n1 r,I st, .slice C n2 c,I ho, .slice D m d] 69);obtain ⟨V,hV⟩:∃V,I9 q=V:=⟨_,rfl⟩;rw [hV];have HVQ:=ae hV;clear hV;obtain ⟨p,hp⟩:∃p,q%7=p:=⟨_,rfl⟩;rw [hp] at OE;have HP:=ae hp;clear hp;have ht:(p !=0)=true\/(p !=0)=false:=by cases (p !=0)<;>simp
  rcases ht with ht|ht
  all_goals
   have HT:=ae ht;go_enter Tryz.func78,Tryz.ntmps78;go_wp2_with fail;refine (qX.out _ HV.out.up).mono ?_;rintro e w1 ⟨rfl,hb1⟩;have HW:=ae (HV.out.grow hb1);clear hb1;go_wp2_with fail;go_ret;exact ⟨by rw [<-HVQ.out];have h1:=HT.out;have h2:=HP.out;simp at h1;simp [I9,h1,h2],HW.out.up⟩
theorem BX (lo n c:Nat) (A:Option Addr) (ts:List Tr) (t:Tr) (w:World) (hn:ts.length=n) (hn1:n<=10000000) (hlo:lo<=w.heap.size) (hO:iO lo w A n c ts):
  Calls Tryz.prog 97 #[.slice A n c, .agg #[I t.at_,I t.off]] w (InsP lo (n+1) w (rP ts t)):=by
 obtain ⟨Ap,DL⟩:=t;simp only;have HN:=ae hn;have HO:=ae (World.ownsRow.alloc (World.ownsRow.alloc hO (.cells #[I Ap,I DL] 108)) (.cells #[I Ap,I DL] 108));have HB:=ae (ah (ag w (.cells #[I Ap,I DL] 108)) (ag _ (.cells #[I Ap,I DL] 108)));have HBA:=ae (JX hO);obtain ⟨i0,hi,hz0,hz1,hz2⟩:=info_parts xy;have HI:=ae hi;have HZ0:=ae hz0;have HZ1:=ae hz1;have HZ2:=ae hz2;clear hn hO hi hz0 hz1 hz2;go_enter Tryz.func97,Tryz.ntmps97;go_wp2_with (at_builtin;go_must (refine wpList_append_own_at _ rfl _ _ 66 rfl lo 108 i0 (.agg #[I 0,I 0]) 2 16 Tryz.underlying66 HI.out HZ0.out HZ1.out HZ2.out rfl (by decide) _ n (ts.flatMap Tr.cells) rfl HO.out _ 1 1 [I Ap,I DL] rfl rfl (Vf _ _ _ _ _) (wS ⟨Ap,DL⟩) (by unfold maxLen;omega) (by omega) (by simp;omega) ?_));intro v' w1 hown hg _ _;obtain ⟨g,cp,rfl⟩:=ownsRow_succ hown;have HR:Hid (InR lo w g cp n ts ⟨Ap,DL⟩ n w1):=ae ⟨by rw [<-HN.out,Ug,HN.out];exact hown,(HB.out.mono hlo).trans (Tf hg HBA.out (by simp;omega))⟩;clear hown hg HB HO HBA;go_wp2_with fail
 go_loopw [6] (fun i wr=>InRel lo w g cp n ts ⟨Ap,DL⟩ i wr) (fun i _=>(intOf i).toNat)
 case atStart=>exact ⟨n,Nat.le_refl _,by go_num,rfl,HR.out⟩
 case round=>
  obtain ⟨k,hk,rfl,hp,hr⟩:=hrel;have HP:=ae hp;have HQ:=ae hr;clear hp hr HR;cases k with
  |zero=>
   go_wp2_with fail;go_quiet (fail);go_wp2_with fail;go_ret;refine ⟨_,_,rfl,?_,HQ.out.up.trans ((below_drewN' wr nq).mono (Nat.le_trans hlo HQ.out.up.size))⟩;have h1:=HP.out;have h2:=HQ.out.own;show (wr.drewN nq).ownsRow _ _ _ _ _ _;have h3:(rP ts ⟨Ap,DL⟩).flatMap Tr.cells=BU ts ⟨Ap,DL⟩ 0:=by
    unfold rP BU;rw [HN.out,<-h1];rfl
   rw [h3];exact h2
  |succ q=>
   have hq:q<n:=by omega
   obtain ⟨x,hx, -, -⟩:=take_at ts q (by rw [HN.out];exact hq);obtain ⟨s1,s2,s3⟩:=EW ts ⟨Ap,DL⟩ x q (by rw [HN.out];exact hq) hx;have HX:=ae hx;have HS:=ae (And.intro s1 (And.intro s2 s3));have hcl:=fun j hj=>(HQ.out.own.cellAt j hj).trans (by rw [s1]);have c0:wr.cell? ⟨g,q*2,none⟩=some (I x.at_):=(hcl _ (by omega)).trans (by rw [List.getElem?_append_right (by omega),s3,Nat.sub_self];rfl);have c1:wr.cell? ⟨g,q*2+1,none⟩=some (I x.off):=(hcl _ (by omega)).trans (by rw [List.getElem?_append_right (by omega),s3,show q*2+1 - q*2=1 by omega];rfl);have c2:wr.cell? ⟨g,(q+1)*2,none⟩=some (I Ap):=(hcl _ (by omega)).trans (by rw [List.getElem?_append_right (by omega),s3,show (q+1)*2 - q*2=2 by omega];rfl);have c3:wr.cell? ⟨g,(q+1)*2+1,none⟩=some (I DL):=(hcl _ (by omega)).trans (by rw [List.getElem?_append_right (by omega),s3,show (q+1)*2+1 - q*2=3 by omega];rfl);have f0:∀j,wr.frozen? ⟨g,j,none⟩=false:=fun j=>HQ.out.own.frozenAt j;clear hx s1 s2 s3 hcl;obtain ⟨Fq,YX⟩:=x;simp only at c0 c1;have i0:(0:Int)<((q+1:Nat):Int):=by omega
   have i1:((q+1:Nat):Int) - 1=(q:Int):=by omega
   have i2:(q:Int)<(n:Int)+1:=by omega
   have i3:((q+1:Nat):Int)<(n:Int)+1:=by omega
   by_cases hlt:Ap<Fq
   ·go_wp2_with fail;go_quiet (fail);have jr:Hid (InR lo w g cp n ts ⟨Ap,DL⟩ (q+1) (wr.drewN nq)):=ae ⟨HQ.out.own,HQ.out.up.trans ((below_drewN' wr nq).mono (Nat.le_trans hlo HQ.out.up.size))⟩;have d0:(wr.drewN nq).cell? ⟨g,q*2,none⟩=some (I Fq):=c0;have d1:(wr.drewN nq).cell? ⟨g,q*2+1,none⟩=some (I YX):=c1;have d2:(wr.drewN nq).cell? ⟨g,(q+1)*2,none⟩=some (I Ap):=c2;have d3:(wr.drewN nq).cell? ⟨g,(q+1)*2+1,none⟩=some (I DL):=c3;have g0:∀j,(wr.drewN nq).frozen? ⟨g,j,none⟩=false:=f0;have hgl:g<(wr.drewN nq).heap.size:=(World.ownsRow.lt HQ.out.own g rfl).2;clear c0 c1 c2 c3 f0;generalize wr.drewN nq=W2 at jr d0 d1 d2 d3 g0 hgl ⊢;clear HQ;go_wp2_with fail;go_roundw
    case rel=>exact ⟨q,by omega,by go_num,(OU HX.out hlt).symm.trans HP.out,jr.out.swap hlo (by rw [HN.out];exact hq) HX.out _⟩
    case measure=>simp [intOf]
   ·go_wp2_with fail;go_quiet (fail);go_wp2_with fail;go_ret;refine ⟨_,_,rfl,?_,HQ.out.up.trans ((below_drewN' wr nq).mono (Nat.le_trans hlo HQ.out.up.size))⟩;have h1:=HP.out;rw [Fa HX.out (by show¬Ap<Fq;omega)] at h1;have h2:=HQ.out.own;show (wr.drewN nq).ownsRow _ _ _ _ _ _;have h3:(rP ts ⟨Ap,DL⟩).flatMap Tr.cells=BU ts ⟨Ap,DL⟩ (q+1):=by
     unfold rP BU;rw [HN.out,<-h1]
    rw [h3];exact h2
end Go.Proofs.YtbaehbbonkljpaaGreatDoor
