/- The texts Vc, Vd, in this order. -/
import Derived.Test.YtbaehbbonkljpaaGreatDoorT12
import Derived.Test.YtbaehbbonkljpaaGreatDoorT18
set_option maxRecDepth 10000
set_option maxHeartbeats 8000000
namespace Go.Proofs.YtbaehbbonkljpaaGreatDoor
open Go Go.RowKit
theorem aad (wd wk:Int)(h5:wk<5):∀(n:Nat) (d cn la:Int),cn<wk->
  (Nv wd wk n d cn la).2=decide ((wd - d)%7+7*(wk - cn - 1)<(n:Int))/\((Nv wd wk n d cn la).2=true->(Nv wd wk n d cn la).1=d+(wd - d)%7+7*(wk - cn - 1))\/¬(0<=wd/\wd<=6)
 |0,d,cn,la,h=>by
  left;have e:(wk==5)=false:=by simp;omega
  show(wk==5&&_)=_/\((wk==5&&_)=true->_);rw[e,Bool.false_and];exact⟨(bT (by omega)).symm,fun h=>by cases h⟩
 |n+1,d,cn,la,h=>by
  by_cases hw:0<=wd/\wd<=6
  ·left;by_cases hd:d%7=wd
   ·have e:Nv wd wk (n+1) d cn la=if cn+1=wk/\wk<5 then (d,true) else Nv wd wk n (d+1) (cn+1) d:=by
     show(if d%7=wd then _ else _)=_;rw[bD hd]
    rw[e];by_cases hk:cn+1=wk/\wk<5
    ·rw[bD hk];exact⟨(aZ (by omega)).symm,fun _=>by show d=_;omega⟩
    ·rw[bP hk];rcases aad wd wk h5 n (d+1) (cn+1) d (by omega) with ⟨h1,h2⟩|h1
     ·rw[h1] at h2⊢;refine⟨?_,fun h3=>?_⟩
      ·by_cases q:(wd - d)%7+7*(wk - cn - 1)<((n+1:Nat):Int)
       ·rw[aZ q];exact aZ (by omega)
       ·rw[bT q];exact bT (by omega)
      ·rw[h2 h3];omega
     ·exact absurd hw h1
   ·have e:Nv wd wk (n+1) d cn la=Nv wd wk n (d+1) cn la:=by
     show(if d%7=wd then _ else _)=_;rw[bP hd]
    rw[e];rcases aad wd wk h5 n (d+1) cn la h with ⟨h1,h2⟩|h1
    ·rw[h1] at h2⊢;refine⟨?_,fun h3=>?_⟩
     ·by_cases q:(wd - d)%7+7*(wk - cn - 1)<((n+1:Nat):Int)
      ·rw[aZ q];exact aZ (by omega)
      ·rw[bT q];exact bT (by omega)
     ·rw[h2 h3];omega
    ·exact absurd hw h1
  ·exact .inr hw
theorem XT (wd:Int)(hw:0<=wd/\wd<=6):∀(n:Nat) (d cn la:Int),
  Nv wd 5 n d cn la=if (wd - d)%7<(n:Int) then (d+n - 1 - (d+n - 1 - wd)%7,decide (0<=d+n - 1 - (d+n - 1 - wd)%7)) else (la,decide (0<=la))
 |0,d,cn,la=>by
  rw[bP (by omega)];rfl
 |n+1,d,cn,la=>by
  by_cases hd:d%7=wd
  ·have e:Nv wd 5 (n+1) d cn la=Nv wd 5 n (d+1) (cn+1) d:=by
    show(if d%7=wd then _ else _)=_;rw[bD hd,bP (by omega)]
   rw[e,XT wd hw n (d+1) (cn+1) d];by_cases q:(wd - (d+1))%7<(n:Int)
   ·rw[bD q,bD (by omega),show d+1+(n:Int) - 1=d+((n+1:Nat):Int) - 1 by omega]
   ·rw[bP q,bD (by omega),show d+((n+1:Nat):Int) - 1 - (d+((n+1:Nat):Int) - 1 - wd)%7=d by omega]
  ·have e:Nv wd 5 (n+1) d cn la=Nv wd 5 n (d+1) cn la:=by
    show(if d%7=wd then _ else _)=_;rw[bP hd]
   rw[e,XT wd hw n (d+1) cn la];by_cases q:(wd - (d+1))%7<(n:Int)
   ·rw[bD q,bD (by omega),show d+1+(n:Int) - 1=d+((n+1:Nat):Int) - 1 by omega]
   ·rw[bP q,bP (by omega)]
theorem ail (wd wk d:Int)(m:Nat)(h1:0<=wd/\wd<=6)(h2:1<=wk/\wk<=5)(hd:0<=d):
  (aik wd wk d m).2=(Nv wd wk m d 0 (-1)).2/\((Nv wd wk m d 0 (-1)).2=true->(aik wd wk d m).1=(Nv wd wk m d 0 (-1)).1):=by
 unfold aik;by_cases h5:wk=5
 ·subst h5;rw[bD rfl,XT wd h1];by_cases q:(wd - d)%7<(m:Int)
  ·rw[bD q];exact⟨by rw[aZ (show d<=d+(m:Int) - 1 - (d+m - 1 - wd)%7 by omega)];exact(aZ (by omega)).symm,fun _=>rfl⟩
  ·rw[bP q];have e:decide ((0:Int)<= -1)=false:=by decide
   rw[e];exact⟨bT (by omega),fun h=>by cases h⟩
 ·rw[bP h5];rcases aad wd wk (by omega) m d 0 (-1) (by omega) with ⟨e1,e2⟩|e
  ·rw[e1] at e2⊢;refine⟨?_,fun h=>?_⟩
   ·by_cases q:(wd - d)%7+7*(wk - 0 - 1)<(m:Int)
    ·rw[aZ q];exact aZ (by omega)
    ·rw[bT q];exact bT (by omega)
   ·rw[e2 h];show d+(wd - d)%7+7*(wk - 1)=_;omega
  ·exact absurd h1 e
def fdG (c:Cal)(bg y:Int)(r:Yr):Int×Bool:=Nv r.Lh r.La (VM c y (r.month - 1).toNat).toNat (bg+PQ c y (r.month - 1).toNat) 0 (-1)
theorem awi {c:Cal}{bg y:Int}{r:Yr}(hc:MR c)(hr:U5 c.JQ.length r)(hb:0<=bg):(ydG c bg y r).2=(fdG c bg y r).2/\((fdG c bg y r).2=true->(ydG c bg y r).1=(fdG c bg y r).1):=by
 have h1:=hr.mo;have h2:=UD c y hc (r.month - 1).toNat (by omega);have h3:=Wu c y (r.month - 1).toNat hc (by omega);have h:=ail r.Lh r.La (bg+PQ c y (r.month - 1).toNat) (VM c y (r.month - 1).toNat).toNat hr.wd hr.wk (by omega);rw[show(((VM c y (r.month - 1).toNat).toNat:Nat):Int)=VM c y (r.month - 1).toNat by omega] at h;exact h
theorem aoo (c:Cal)(A R:aj Addr)(a r:Nat)(bg y:Int)(x:Yr)(w:ae)(hc:MR c)(h:Rw w w.heap.size A R c)(hb:0<=bg)(hb2:bg<=100000000)(hy:0<=y)(hr:U5 c.JQ.length x):
  Calls Tryz.prog 96 #[.agg (J7 c A a R r),I bg,I y,.agg #[I x.month,I x.La,I x.Lh,I x.minute,I x.off]] w (Gives (.tuple #[I (fdG c bg y x).1,.bool (fdG c bg y x).2]) w):=by
 have hmo:=hr.mo;obtain⟨m,hm⟩:∃m:Nat,x.month=(m:Int)+1:=⟨(x.month - 1).toNat,by omega⟩;obtain⟨mo,wk,wd,mi,of⟩:=x;simp only at hm hmo⊢;subst hm;obtain⟨N,hN⟩:∃N,c.JQ.length=N:=⟨_,rfl⟩;have hmN:m<N:=by omega
 have hN16:N<=16:=by rw[<-hN];exact hc.ml.2
 have Xx:Hid (∀W,ai w.heap.size w W->∀k,k<N->Calls Tryz.prog 120 #[.agg (J7 c A a R r),I y,I ((k:Int)+1)] W (Gives (I (VM c y k)) W)):=JJ fun W hb k hk=>aly _ A R a r y k W hc (h.grow hb) hy (by omega);have Qc:=JJ (fun W hb=>Xx.out W hb m hmN);have HYB:=JJ (fun k (hk:k<=N)=>UD c y hc k (by omega));have HMB:=JJ (fun k (hk:k<N)=>Wu c y k hc (by omega));obtain⟨res,hres⟩:∃res,fdG c bg y ⟨(m:Int)+1,wk,wd,mi,of⟩=res:=⟨_,rfl⟩;rw[hres];unfold fdG at hres;simp only at hres;rw[show((m:Int)+1 - 1).toNat=m by omega] at hres;have h2:=HMB.out m hmN;obtain⟨n,hn⟩:∃n:Nat,VM c y m=n:=⟨(VM c y m).toNat,by omega⟩;rw[hn] at Qc h2 hres;rw[jo] at hres;obtain⟨ep,lp,A',R',n0,n1,hcs⟩:∃ep lp,∃A' R':aj Addr,∃n m:Nat,J7 c A a R r= #[I ep,.slice A' n a,I lp,.slice R' m r]:=⟨_,_,_,_,_,_,rfl⟩;rw[hcs] at Xx Qc⊢;have Uh:=JJ hres;clear hcs hn hc h hy hr hres hN hmo;have hn9:n<=41:=by omega
 clear h2;have HV:=JJ (SS.agi w 0 65 110 #[I ep,.slice A' n0 a,I lp,.slice R' n1 r] #[I ((m:Int)+1),I wk,I wd,I mi,I of]);go_enter Tryz.func96,Tryz.ntmps96;go_wp2_with fail
 go_loopw [10,11] (fun f i wr=>∃k:Nat,k<=m/\f=I (bg+PQ c y k)/\i=I ((k:Int)+1)/\SS w 0 #[I ep,.slice A' n0 a,I lp,.slice R' n1 r] #[I ((m:Int)+1),I wk,I wd,I mi,I of] wr) (fun _ i _=>m+1 - (intOf i).toNat)
 case atStart=>exact⟨0,aG _,by show I bg=I (bg+0);rw[kM],rfl,HV.out⟩
 case round=>
  clear HV;obtain⟨k,hk,rfl,rfl,hv⟩:=hrel;have HV:=JJ hv;clear hv;have hyb:=HYB.out k (by omega);have k16:(k:Int)<=16:=by omega
  by_cases hlt:k<m
  ·have j1:(k:Int)+1<(m:Int)+1:=by omega
   have hmb:=HMB.out k (by omega);have HST:Hid (PQ c y (k+1)=PQ c y k+VM c y k):=JJ rfl;have HC:=JJ (Xx.out wr HV.out.up k (by omega));obtain⟨u,hu⟩:∃u,PQ c y k=u:=⟨_,rfl⟩;obtain⟨q,hq⟩:∃q,VM c y k=q:=⟨_,rfl⟩;rw[hu] at hyb HST⊢;rw[hq] at hmb HST HC;clear hu hq;have hs:bg+(u+q)=bg+u+q:=by omega
   have v0:wr.cell? ⟨w.heap.size,0,none⟩=some (I ep):=HV.out.a.2 0;have v1:wr.cell? ⟨w.heap.size,1,none⟩=some (.slice A' n0 a):=HV.out.a.2 1;have v2:wr.cell? ⟨w.heap.size,2,none⟩=some (I lp):=HV.out.a.2 2;have v3:wr.cell? ⟨w.heap.size,3,none⟩=some (.slice R' n1 r):=HV.out.a.2 3;have u0:wr.cell? ⟨w.heap.size+1,0,none⟩=some (I ((m:Int)+1)):=HV.out.b.2 0;go_wp2_with fail;refine HC.out.mono ?_;rintro e w2 ⟨rfl,hb1⟩;have Qd:=JJ (HV.out.below hb1);clear hb1 HV v0 v1 v2 v3 u0;go_wp2_with fail;go_roundw
   case rel=>exact⟨k+1,by omega,by rw[HST.out,hs],by go_num,Qd.out⟩
   case measure=>simp[intOf];omega
  ·have hke:k=m:=by omega
   subst hke;have j1:¬(k:Int)+1<(k:Int)+1:=by omega
   obtain⟨u,hu⟩:∃u,PQ c y k=u:=⟨_,rfl⟩;rw[hu] at hyb Uh⊢;clear hu;have v0:wr.cell? ⟨w.heap.size,0,none⟩=some (I ep):=HV.out.a.2 0;have v1:wr.cell? ⟨w.heap.size,1,none⟩=some (.slice A' n0 a):=HV.out.a.2 1;have v2:wr.cell? ⟨w.heap.size,2,none⟩=some (I lp):=HV.out.a.2 2;have v3:wr.cell? ⟨w.heap.size,3,none⟩=some (.slice R' n1 r):=HV.out.a.2 3;have u0:wr.cell? ⟨w.heap.size+1,0,none⟩=some (I ((k:Int)+1)):=HV.out.b.2 0;go_wp2_with fail;clear v0 v1 v2 v3 u0;have hf0:0<=bg+u:=by omega
   have hf1:bg+u<=100000700:=by omega
   clear hb hb2 hyb Xx;generalize bg+u=fs at hf0 hf1 Uh⊢
   go_loopw [12,13,14] (fun c l d wr=>ayH w #[I ep,.slice A' n0 a,I lp,.slice R' n1 r] #[I ((k:Int)+1),I wk,I wd,I mi,I of] wd wk fs n res c l d wr) (fun _ _ d _=>((fs+n) - intOf d).toNat)
   case atStart=>exact⟨0,0, -1,aG _,rfl,rfl,by go_num,by omega,by omega,by omega,by omega,by simpa using Uh.out,HV.out⟩
   case round=>
    obtain⟨j,cn,la,hj,rfl,rfl,rfl,hc0,hc1,hl0,hl1,hsc,hv⟩:=hrel;have HS:=JJ hsc;have HW:=JJ hv;clear hsc hv HV;have v0:wr.cell? ⟨w.heap.size,0,none⟩=some (I ep):=HW.out.a.2 0;have v1:wr.cell? ⟨w.heap.size,1,none⟩=some (.slice A' n0 a):=HW.out.a.2 1;have v2:wr.cell? ⟨w.heap.size,2,none⟩=some (I lp):=HW.out.a.2 2;have v3:wr.cell? ⟨w.heap.size,3,none⟩=some (.slice R' n1 r):=HW.out.a.2 3;have u0:wr.cell? ⟨w.heap.size+1,0,none⟩=some (I ((k:Int)+1)):=HW.out.b.2 0;have u1:wr.cell? ⟨w.heap.size+1,1,none⟩=some (I wk):=HW.out.b.2 1;have u2:wr.cell? ⟨w.heap.size+1,2,none⟩=some (I wd):=HW.out.b.2 2;go_wp2_with fail;refine(Qc.out _ HW.out.up).mono ?_;rintro e w3 ⟨rfl,hb3⟩;have HX:=JJ (HW.out.below hb3);clear v0 v1 v2 v3 u0 u1 u2 hb3;have u1:w3.cell? ⟨w.heap.size+1,1,none⟩=some (I wk):=HX.out.b.2 1;have u2:w3.cell? ⟨w.heap.size+1,2,none⟩=some (I wd):=HX.out.b.2 2;by_cases hlt:j<n
    ·have hlt':fs+(j:Int)<fs+(n:Int):=by omega
     have htm:Int.tmod (fs+(j:Int)) 7=(fs+(j:Int))%7:=aS (by omega);obtain⟨p,hp⟩:∃p,(fs+(j:Int))%7=p:=⟨_,rfl⟩;rw[hp] at htm;have HP:=JJ hp;clear hp;have ht:(p==wd)=true\/(p==wd)=false:=by cases (p==wd)<;>simp
     rcases ht with ht|ht
     ·have hu:(cn+1==wk)=true\/(cn+1==wk)=false:=by cases (cn+1==wk)<;>simp
      have HT:=JJ ht;rcases hu with hu|hu
      ·by_cases h5:wk<5
       ·have HU:=JJ hu;have H5:=JJ h5;have HE:=JJ (alE HS.out hlt (by rw[HP.out];exact HT.out) ⟨by simpa using HU.out,H5.out⟩);go_wp2_with fail;go_ret2;exact⟨by rw[HE.out];rfl,HX.out.up⟩
       ·have HU:=JJ hu;have H5:=JJ h5;have HE:=JJ (abL HS.out hlt (by rw[HP.out];exact HT.out) (fun h=>H5.out h.2));go_wp2_with fail;go_roundw
        case rel=>exact⟨j+1,cn+1,fs+j,by omega,by go_num,by go_num,by go_num,by omega,by omega,by omega,by omega,HE.out,HX.out⟩
        case measure=>simp[intOf];omega
      ·have HU:=JJ hu;have HE:=JJ (abL HS.out hlt (by rw[HP.out];exact HT.out) (fun h=>by have h1:=HU.out;simp[h.1] at h1));go_wp2_with fail;go_roundw
       case rel=>exact⟨j+1,cn+1,fs+j,by omega,by go_num,by go_num,by go_num,by omega,by omega,by omega,by omega,HE.out,HX.out⟩
       case measure=>simp[intOf];omega
     ·have HT:=JJ ht;have HE:=JJ (aiO HS.out hlt (by rw[HP.out];exact HT.out));go_wp2_with fail;go_roundw
      case rel=>exact⟨j+1,cn,la,by omega,by go_num,by go_num,by go_num,by omega,by omega,by omega,by omega,HE.out,HX.out⟩
      case measure=>simp[intOf];omega
    ·have hke:j=n:=by omega
     have hnl:¬fs+(j:Int)<fs+(n:Int):=by omega
     have HE:=JJ (aiP HS.out (by omega));clear hke hlt;have hk5:(wk==5)=true\/(wk==5)=false:=by cases (wk==5)<;>simp
     rcases hk5 with hk5|hk5
     ·have HK:=JJ hk5;go_wp2_with fail;go_ret2;exact⟨by rw[show res=(la,decide (0<=la)) by rw[HE.out,HK.out];rfl];rfl,HX.out.up⟩
     ·have HK:=JJ hk5;go_wp2_with fail;go_ret2;exact⟨by rw[show res=(la,false) by rw[HE.out,HK.out];rfl];rfl,HX.out.up⟩
def ytG (c:Cal)(bg y:Int)(r r':Yr)(out:ag Tr):ag Tr:=if (fdG c bg y r).2=true then Ux out ⟨(fdG c bg y r).1*1440+r.minute - r'.off,r.off⟩ else out
def QS (c:Cal)(r0 r1:Yr)(stop:Int):Nat->Int->Int->ag Tr->ag Tr
 |0,_,_,out=>out
 |n+1,bg,y,out=>if bg<stop then QS c r0 r1 stop n (bg+VE c y) (y+1) (ytG c bg y r1 r0 (ytG c bg y r0 r1 out)) else out
def VF (z:Zn):ag Tr:=match z.J6 with
 | [r0,r1]=>QS z.cal r0 r1 (z.cal.KI+Nr z) (Nr z).toNat z.cal.KI 1 []
 |_=> []
theorem ag3 (c:Cal)(bg y:Int)(r:Yr)(hc:MR c)(hr:U5 c.JQ.length r)(hb:0<=bg): -1<=(fdG c bg y r).1/\(fdG c bg y r).1<=bg+800:=by
 have h1:=hr.mo;have h2:=UD c y hc (r.month - 1).toNat (by omega);have h3:=Wu c y (r.month - 1).toNat hc (by omega);have h4:=hc.ml;unfold fdG;rcases aov r.Lh r.La (VM c y (r.month - 1).toNat).toNat (bg+PQ c y (r.month - 1).toNat) 0 (-1) (by omega) (by omega) with h|h
 ·omega
 ·omega
theorem acK {c:Cal}{bg y:Int}{r r':Yr}{ts:ag Tr}(h:Rz ts)(hc:MR c)(hr:U5 c.JQ.length r)(hr':U5 c.JQ.length r')(hb:0<=bg)(hb2:bg<=4000000):Rz (ytG c bg y r r' ts):=by
 have h1:=ag3 c bg y r hc hr hb;have h2:=hr.mi;have h3:=hr'.of;unfold ytG;split
 ·intro x hx;rcases akY hx with rfl|hx
  ·constructor<;>(simp only;omega)
  ·exact h x hx
 ·exact h
theorem VD {c:Cal}{r0 r1:Yr}{stop bg y:Int}{f:Nat}{ts res:ag Tr}(h:QS c r0 r1 stop f bg y ts=res)(hb:bg<stop)(hf:(stop - bg).toNat<=f)(hy:1<=VE c y):
  ∃f',(stop - (bg+VE c y)).toNat<=f'/\QS c r0 r1 stop f' (bg+VE c y) (y+1) (ytG c bg y r1 r0 (ytG c bg y r0 r1 ts))=res:=by
 cases f with
 |zero=>omega
 |succ f=>exact⟨f,by omega,by rw[QS,bD hb] at h;exact h⟩
theorem agw {c:Cal}{r0 r1:Yr}{stop bg y:Int}{f:Nat}{ts res:ag Tr}(h:QS c r0 r1 stop f bg y ts=res)(hb:¬bg<stop):ts=res:=by
 cases f with
 |zero=>exact h
 |succ f=>rw[QS,bP hb] at h;exact h
def Srt (ts:ag Tr):Prop:=ts.Pairwise (fun a b=>a.at_<=b.at_)
theorem abG (ts:ag Tr)(t:Tr):∀k:Nat,k<=ts.length->(∀(j:Nat) (x:Tr),VO ts t k<=j->j<k->ts[j]? =some x->t.at_<x.at_)/\(∀x:Tr,ts[VO ts t k - 1]? =some x->VO ts t k≠0->x.at_<=t.at_)
 |0,_=>⟨fun j x _ h=>absurd h (fD _),fun x _ h=>absurd rfl h⟩
 |k+1,hk=>by
  obtain⟨h1,h2⟩:=abG ts t k (by omega);have hx:ts[k]? =some ts[k]:=KL (by omega);by_cases h:t.at_<(ts[k]).at_
  ·rw[ahn hx h];refine⟨fun j x hj hk2 hjx=>?_,h2⟩;rcases fG.1 hk2 with h3|rfl
   ·exact h1 j x hj h3 hjx
   ·rw[hx] at hjx;injection hjx with hjx;rw[<-hjx];exact h
  ·rw[abH hx h];refine⟨fun j x hj hk2 _=>by omega,fun x hjx _=>?_⟩;rw[iC,hx] at hjx;injection hjx with hjx;rw[<-hjx];omega
theorem akZ {ts:ag Tr}(t:Tr)(h:Srt ts):Srt (Ux ts t):=by
 unfold Ux;obtain⟨h1,h2⟩:=abG ts t ts.length (ay _);have hp:=aho ts t ts.length;generalize VO ts t ts.length=p at h1 h2 hp⊢;have hts:Srt (ts.take p++ts.drop p):=by rw[dR];exact h
 have hi:=h;unfold Srt at hts hi⊢;rw[List.pairwise_append] at hts⊢;obtain⟨q1,q2,q3⟩:=hts;have hlow:∀a∈ts.take p,a.at_<=t.at_:=fun a ha=>by
  obtain⟨i,hi2,rfl⟩:=jT.1 ha;rw[bn] at hi2;have hpl:p - 1<ts.length:=by omega
  have h4:=h2 _ (KL hpl) (by omega);rw[List.getElem_take];rcases lJ i (p - 1) with h5|h5
  ·have h6:=(jh.1 hi) i (p - 1) (by omega) hpl h5;omega
  ·have h7:i=p - 1:=by omega
   subst h7;exact h4
 have hup:∀b∈ts.drop p,t.at_<=b.at_:=fun b hb=>by
  obtain⟨i,hi2,rfl⟩:=jT.1 hb;rw[iH] at hi2;rw[List.getElem_drop];have:=h1 (p+i) _ (by omega) (by omega) (KL (by omega));omega
 refine⟨q1,List.pairwise_cons.2 ⟨hup,q2⟩,fun a ha b hb=>?_⟩;rcases dQ.1 hb with rfl|hb
 ·exact hlow a ha
 ·exact q3 a ha b hb
theorem ahI {c:Cal}{bg y:Int}{r r':Yr}{ts:ag Tr}(h:Srt ts):Srt (ytG c bg y r r' ts):=by
 unfold ytG;split
 ·exact akZ _ h
 ·exact h
theorem aaw {c:Cal}{r0 r1:Yr}{stop:Int}:∀(f:Nat) (bg y:Int) (ts:ag Tr),Srt ts->Srt (QS c r0 r1 stop f bg y ts)
 |0,_,_,_,h=>h
 |f+1,bg,y,ts,h=>by
  unfold QS;split
  ·exact aaw f _ _ _ (ahI (ahI h))
  ·exact h
theorem aeK {c:Cal}{bg y:Int}{r r':Yr}{ts us:ag Tr}(hc:MR c)(hr:U5 c.JQ.length r)(hb:0<=bg)(h:ts.Perm us):(ytG c bg y r r' ts).Perm (Su c bg y r r' us):=by
 obtain⟨h1,h2⟩:=awi (y:=y) hc hr hb;unfold ytG Su;rw[h1];by_cases hf:(fdG c bg y r).2=true
 ·rw[bD hf,bD hf,h2 hf];exact afS _ h
 ·rw[bP hf,bP hf];exact h
theorem Yt {c:Cal}{r0 r1:Yr}{stop:Int}(hc:MR c)(hr0:U5 c.JQ.length r0)(hr1:U5 c.JQ.length r1):∀(f:Nat) (bg y:Int) (ts us:ag Tr),0<=bg->ts.Perm us->(QS c r0 r1 stop f bg y ts).Perm (Sv c r0 r1 stop f bg y us)
 |0,_,_,_,_,_,h=>h
 |f+1,bg,y,ts,us,hb,h=>by
  unfold QS Sv;split
  ·have:=QE c y hc;exact Yt hc hr0 hr1 f _ _ _ _ (by omega) (aeK hc hr1 hb (aeK hc hr0 hb h))
  ·exact h
theorem ahH (z:Zn):Srt (VF z):=by
 unfold VF;split
 ·exact aaw _ _ _ _ List.Pairwise.nil
 ·exact List.Pairwise.nil
theorem Xu (z:Zn)(hc:MR z.cal)(hy:SV z):(VF z).Perm (UW z):=by
 refine List.Perm.trans ?_ (Vs z).symm;unfold VF Vg;rcases hy with e|⟨r0,r1,e,h0,h1⟩
 ·rw[e]
 ·rw[e];exact Yt hc h0 h1 _ _ _ _ _ hc.ep.1 (List.Perm.refl _)
theorem amf (z:Zn)(hc:MR z.cal)(hy:SV z)(sz:Int):Me (VF z) sz=Me (UW z) sz:=abv (Xu z hc hy) (ahH z) (aax z)
theorem as4 (z:Zn)(hc:MR z.cal)(hy:SV z){sz:Int}(h:Me (UW z) sz=true):VF z=UW z:=VA h (Xu z hc hy) (ahH z)
theorem axC (z:Zn)(hc:MR z.cal)(hy:SV z):Rz (VF z)/\(VF z).length<=10000000:=
 ⟨(ame z hc hy).1.perm (Xu z hc hy),by rw[(Xu z hc hy).length_eq];exact(ame z hc hy).2⟩
theorem ahx (z:Zn)(s:Zs)(w:ae)(hc:MR z.cal)(h:N7 w w.heap.size s z):Calls Tryz.prog 78 #[.agg (JV z s)] w (Gives (I (Nr z)) w):=by
 have TD:Hid (∀W,ai w.heap.size w W->Calls Tryz.prog 99 #[.agg (J7 z.cal s.A s.a s.B s.b)] W (Gives (.tuple #[I (cyG z.cal:Int),I (dyG z.cal),.int .i64 0]) W)):=JJ fun W hb=>alx z.cal s.A s.B s.a s.b W hc ⟨h.JQ.grow hb,h.rules.grow hb⟩;have hbd:=afF hc;obtain⟨⟨ep,mo,lp,ru⟩,st,tr,ho,yr⟩:=z;obtain⟨A,a,R,r,C,c,D,d⟩:=s;unfold J7 at TD;unfold JV Nr;simp only at TD hbd⊢;obtain⟨q,hq⟩:∃q,dyG ⟨ep,mo,lp,ru⟩=q:=⟨_,rfl⟩;rw[hq] at TD hbd⊢;obtain⟨y,hy⟩:∃y:Int,(cyG ⟨ep,mo,lp,ru⟩:Int)=y:=⟨_,rfl⟩;rw[hy] at TD;obtain⟨n0,hn0⟩:∃n,mo.length=n:=⟨_,rfl⟩;obtain⟨n1,hn1⟩:∃n,ru.length=n:=⟨_,rfl⟩;obtain⟨n2,hn2⟩:∃n,tr.length=n:=⟨_,rfl⟩;rw[hn0,hn1] at TD⊢;rw[hn2];clear hc h hq hy hn0 hn1 hn2;cases yr with
 |nil=>
  go_enter Tryz.func78,Tryz.ntmps78;go_wp2_with fail;go_ret;exact⟨rfl,JM w _⟩
 |cons y1 ys=>
  obtain⟨m,hm⟩:∃m,(y1::ys).length=m:=⟨_,rfl⟩;have hm0:((m:Int)==0)=false:=by rw[<-hm];simp;omega
  rw[hm];clear hm;have htm:q.tmod 7=q%7:=aS (by omega);have HV:=JJ (OY.start w #[I ep,.slice A n0 a,I lp,.slice R n1 r,I st,.slice C n2 c,I ho,.slice D m d] 69);obtain⟨V,hV⟩:∃V,adQ q=V:=⟨_,rfl⟩;rw[hV];have HVQ:=JJ hV;clear hV;obtain⟨p,hp⟩:∃p,q%7=p:=⟨_,rfl⟩;rw[hp] at htm;have HP:=JJ hp;clear hp;have ht:(p !=0)=true\/(p !=0)=false:=by cases (p !=0)<;>simp
  rcases ht with ht|ht
  all_goals
   have HT:=JJ ht;go_enter Tryz.func78,Tryz.ntmps78;go_wp2_with fail;refine(TD.out _ HV.out.up).mono ?_;rintro e w1 ⟨rfl,hb1⟩;have HW:=JJ (HV.out.grow hb1);clear hb1;go_wp2_with fail;go_ret;exact⟨by rw[<-HVQ.out];have h1:=HT.out;have h2:=HP.out;simp at h1;simp[adQ,h1,h2],HW.out.up⟩
theorem ZM (lo n c:Nat)(A:aj Addr)(ts:ag Tr)(t:Tr)(w:ae)(hn:ts.length=n)(hn1:n<=10000000)(hlo:lo<=w.heap.size)(hO:Om lo w A n c ts):
  Calls Tryz.prog 97 #[.slice A n c,.agg #[I t.at_,I t.off]] w (azN lo (n+1) w (Ux ts t)):=by
 obtain⟨Y1,tof⟩:=t;simp only;have HN:=JJ hn;have HO:=JJ (fO (fO hO (.cells #[I Y1,I tof] 108)) (.cells #[I Y1,I tof] 108));have HB:=JJ (JL (JM w (.cells #[I Y1,I tof] 108)) (JM _ (.cells #[I Y1,I tof] 108)));have HBA:=JJ (aeD hO);obtain⟨i0,hi,hz0,hz1,hz2⟩:=dN YU;have HI:=JJ hi;have HZ0:=JJ hz0;have HZ1:=JJ hz1;have HZ2:=JJ hz2;clear hn hO hi hz0 hz1 hz2;go_enter Tryz.func97,Tryz.ntmps97;go_wp2_with(at_builtin;refine bK _ rfl _ _ 66 rfl lo 108 i0 (.agg #[I 0,I 0]) 2 16 fQ HI.out HZ0.out HZ1.out HZ2.out rfl (by decide) _ n (ts.flatMap Tr.cells) rfl HO.out _ 1 1 [I Y1,I tof] rfl rfl (alX _ _ _ _ _) (WC ⟨Y1,tof⟩) (by unfold maxLen;omega) (by omega) (by simp;omega) ?_);intro v' w1 hown hg _ _;obtain⟨g,cp,rfl⟩:=ownsRow_succ hown;have HR:Hid (InR lo w g cp n ts ⟨Y1,tof⟩ n w1):=JJ ⟨by rw[<-HN.out,akX,HN.out];exact hown,(HB.out.mono hlo).trans (akj hg HBA.out (by simp;omega))⟩;clear hown hg HB HO HBA;go_wp2_with fail
 go_loopw [6] (fun i wr=>avN lo w g cp n ts ⟨Y1,tof⟩ i wr) (fun i _=>(intOf i).toNat)
 case atStart=>exact⟨n,ay _,by go_num,rfl,HR.out⟩
 case round=>
  obtain⟨k,hk,rfl,hp,hr⟩:=hrel;have HP:=JJ hp;have HQ:=JJ hr;clear hp hr HR;cases k with
  |zero=>
   go_wp2_with fail;go_quiet (fail);go_wp2_with fail;go_ret;refine⟨_,_,rfl,?_,HQ.out.up.trans ((below_drewN' wr nq).mono (aO hlo HQ.out.up.size))⟩;have h1:=HP.out;have h2:=HQ.out.own;show(wr.drewN nq).ownsRow _ _ _ _ _ _;have h3:(Ux ts ⟨Y1,tof⟩).flatMap Tr.cells=ZK ts ⟨Y1,tof⟩ 0:=by
    unfold Ux ZK;rw[HN.out,<-h1];rfl
   rw[h3];exact h2
  |succ q=>
   have hq:q<n:=by omega
   obtain⟨x,hx, -, -⟩:=take_at ts q (by rw[HN.out];exact hq);obtain⟨s1,s2,s3⟩:=abA ts ⟨Y1,tof⟩ x q (by rw[HN.out];exact hq) hx;have HX:=JJ hx;have HS:=JJ (And.intro s1 (And.intro s2 s3));have hcl:=fun j hj=>(HQ.out.own.cellAt j hj).trans (by rw[s1]);have c0:wr.cell? ⟨g,q*2,none⟩=some (I x.at_):=(hcl _ (by omega)).trans (by rw[bH (by omega),s3,kN];rfl);have c1:wr.cell? ⟨g,q*2+1,none⟩=some (I x.off):=(hcl _ (by omega)).trans (by rw[bH (by omega),s3,show q*2+1 - q*2=1 by omega];rfl);have c2:wr.cell? ⟨g,(q+1)*2,none⟩=some (I Y1):=(hcl _ (by omega)).trans (by rw[bH (by omega),s3,show(q+1)*2 - q*2=2 by omega];rfl);have c3:wr.cell? ⟨g,(q+1)*2+1,none⟩=some (I tof):=(hcl _ (by omega)).trans (by rw[bH (by omega),s3,show(q+1)*2+1 - q*2=3 by omega];rfl);have f0:∀j,wr.frozen? ⟨g,j,none⟩=false:=fun j=>HQ.out.own.frozenAt j;clear hx s1 s2 s3 hcl;obtain⟨xat,xof⟩:=x;simp only at c0 c1;have i0:(0:Int)<((q+1:Nat):Int):=by omega
   have i1:((q+1:Nat):Int) - 1=(q:Int):=by omega
   have i2:(q:Int)<(n:Int)+1:=by omega
   have i3:((q+1:Nat):Int)<(n:Int)+1:=by omega
   by_cases hlt:Y1<xat
   ·go_wp2_with fail;go_quiet (fail);have PR:Hid (InR lo w g cp n ts ⟨Y1,tof⟩ (q+1) (wr.drewN nq)):=JJ ⟨HQ.out.own,HQ.out.up.trans ((below_drewN' wr nq).mono (aO hlo HQ.out.up.size))⟩;have d0:(wr.drewN nq).cell? ⟨g,q*2,none⟩=some (I xat):=c0;have d1:(wr.drewN nq).cell? ⟨g,q*2+1,none⟩=some (I xof):=c1;have d2:(wr.drewN nq).cell? ⟨g,(q+1)*2,none⟩=some (I Y1):=c2;have d3:(wr.drewN nq).cell? ⟨g,(q+1)*2+1,none⟩=some (I tof):=c3;have g0:∀j,(wr.drewN nq).frozen? ⟨g,j,none⟩=false:=f0;have hgl:g<(wr.drewN nq).heap.size:=(dU HQ.out.own g rfl).2;clear c0 c1 c2 c3 f0;generalize wr.drewN nq=W2 at PR d0 d1 d2 d3 g0 hgl⊢;clear HQ;go_wp2_with fail;go_roundw
    case rel=>exact⟨q,by omega,by go_num,(ahn HX.out hlt).symm.trans HP.out,PR.out.swap hlo (by rw[HN.out];exact hq) HX.out _⟩
    case measure=>simp[intOf]
   ·go_wp2_with fail;go_quiet (fail);go_wp2_with fail;go_ret;refine⟨_,_,rfl,?_,HQ.out.up.trans ((below_drewN' wr nq).mono (aO hlo HQ.out.up.size))⟩;have h1:=HP.out;rw[abH HX.out (by show¬Y1<xat;omega)] at h1;have h2:=HQ.out.own;show(wr.drewN nq).ownsRow _ _ _ _ _ _;have h3:(Ux ts ⟨Y1,tof⟩).flatMap Tr.cells=ZK ts ⟨Y1,tof⟩ (q+1):=by
     unfold Ux ZK;rw[HN.out,<-h1]
    rw[h3];exact h2
end Go.Proofs.YtbaehbbonkljpaaGreatDoor
