/- The texts Vc, Vd, in this order. -/
import Derived.Test.YtbaehbbonkljpaaGreatR00
import Derived.Test.YtbaehbbonkljpaaGreatR12
import Derived.Test.YtbaehbbonkljpaaGreatR17
import Derived.Test.YtbaehbbonkljpaaGreatR21
import Derived.Test.YtbaehbbonkljpaaGreatR29
set_option maxRecDepth 10000
set_option maxHeartbeats 8000000
namespace Go.Proofs.YtbaehbbonkljpaaGreat
open Go Go.RowKit
theorem Bv (wd wk:Int) (h5:wk<5):∀(n:Nat) (d cn la:Int),cn<wk→
  (gq wd wk n d cn la).2=decide ((wd - d)%7+7*(wk - cn - 1)<(n:Int))∧((gq wd wk n d cn la).2=true→(gq wd wk n d cn la).1=d+(wd - d)%7+7*(wk - cn - 1))∨¬(0≤wd∧wd≤6)
 |0,d,cn,la,h=>by
  left;have e:(wk==5)=false:=by simp;omega
  show (wk==5&&_)=_∧((wk==5&&_)=true→_);rw [e,Bool.false_and];exact ⟨(decide_eq_false (by omega)).symm,fun h=>by cases h⟩
 |n+1,d,cn,la,h=>by
  by_cases hw:0≤wd∧wd≤6
  ·left;by_cases hd:d%7=wd
   ·have e:gq wd wk (n+1) d cn la=if cn+1=wk∧wk<5 then (d,true) else gq wd wk n (d+1) (cn+1) d:=by
     show (if d%7=wd then _ else _)=_;rw [if_pos hd]
    rw [e];by_cases hk:cn+1=wk∧wk<5
    ·rw [if_pos hk];exact ⟨(decide_eq_true (by omega)).symm,fun _=>by show d=_;omega⟩
    ·rw [if_neg hk];rcases Bv wd wk h5 n (d+1) (cn+1) d (by omega) with ⟨h1,h2⟩|h1
     ·rw [h1] at h2 ⊢;refine ⟨?_,fun h3=>?_⟩
      ·by_cases q:(wd - d)%7+7*(wk - cn - 1)<((n+1:Nat):Int)
       ·rw [decide_eq_true q];exact decide_eq_true (by omega)
       ·rw [decide_eq_false q];exact decide_eq_false (by omega)
      ·rw [h2 h3];omega
     ·exact absurd hw h1
   ·have e:gq wd wk (n+1) d cn la=gq wd wk n (d+1) cn la:=by
     show (if d%7=wd then _ else _)=_;rw [if_neg hd]
    rw [e];rcases Bv wd wk h5 n (d+1) cn la h with ⟨h1,h2⟩|h1
    ·rw [h1] at h2 ⊢;refine ⟨?_,fun h3=>?_⟩
     ·by_cases q:(wd - d)%7+7*(wk - cn - 1)<((n+1:Nat):Int)
      ·rw [decide_eq_true q];exact decide_eq_true (by omega)
      ·rw [decide_eq_false q];exact decide_eq_false (by omega)
     ·rw [h2 h3];omega
    ·exact absurd hw h1
  ·exact .inr hw
theorem xM (wd:Int) (hw:0≤wd∧wd≤6):∀(n:Nat) (d cn la:Int),
  gq wd 5 n d cn la=if (wd - d)%7<(n:Int) then (d+n - 1 - (d+n - 1 - wd)%7,decide (0≤d+n - 1 - (d+n - 1 - wd)%7)) else (la,decide (0≤la))
 |0,d,cn,la=>by
  rw [if_neg (by omega)];rfl
 |n+1,d,cn,la=>by
  by_cases hd:d%7=wd
  ·have e:gq wd 5 (n+1) d cn la=gq wd 5 n (d+1) (cn+1) d:=by
    show (if d%7=wd then _ else _)=_;rw [if_pos hd,if_neg (by omega)]
   rw [e,xM wd hw n (d+1) (cn+1) d];by_cases q:(wd - (d+1))%7<(n:Int)
   ·rw [if_pos q,if_pos (by omega),show d+1+(n:Int) - 1=d+((n+1:Nat):Int) - 1 by omega]
   ·rw [if_neg q,if_pos (by omega),show d+((n+1:Nat):Int) - 1 - (d+((n+1:Nat):Int) - 1 - wd)%7=d by omega]
  ·have e:gq wd 5 (n+1) d cn la=gq wd 5 n (d+1) cn la:=by
    show (if d%7=wd then _ else _)=_;rw [if_neg hd]
   rw [e,xM wd hw n (d+1) cn la];by_cases q:(wd - (d+1))%7<(n:Int)
   ·rw [if_pos q,if_pos (by omega),show d+1+(n:Int) - 1=d+((n+1:Nat):Int) - 1 by omega]
   ·rw [if_neg q,if_neg (by omega)]
theorem Pg (wd wk d:Int) (m:Nat) (h1:0≤wd∧wd≤6) (h2:1≤wk∧wk≤5) (hd:0≤d):
  (O9 wd wk d m).2=(gq wd wk m d 0 (-1)).2∧((gq wd wk m d 0 (-1)).2=true→(O9 wd wk d m).1=(gq wd wk m d 0 (-1)).1):=by
 unfold O9;by_cases h5:wk=5
 ·subst h5;rw [if_pos rfl,xM wd h1];by_cases q:(wd - d)%7<(m:Int)
  ·rw [if_pos q];exact ⟨by rw [decide_eq_true (show d≤d+(m:Int) - 1 - (d+m - 1 - wd)%7 by omega)];exact (decide_eq_true (by omega)).symm,fun _=>rfl⟩
  ·rw [if_neg q];have e:decide ((0:Int)≤ -1)=false:=by decide
   rw [e];exact ⟨decide_eq_false (by omega),fun h=>by cases h⟩
 ·rw [if_neg h5];rcases Bv wd wk (by omega) m d 0 (-1) (by omega) with ⟨e1,e2⟩|e
  ·rw [e1] at e2 ⊢;refine ⟨?_,fun h=>?_⟩
   ·by_cases q:(wd - d)%7+7*(wk - 0 - 1)<(m:Int)
    ·rw [decide_eq_true q];exact decide_eq_true (by omega)
    ·rw [decide_eq_false q];exact decide_eq_false (by omega)
   ·rw [e2 h];show d+(wd - d)%7+7*(wk - 1)=_;omega
  ·exact absurd h1 e
def GI (c:Cal) (bg y:Int) (r:Yr):Int×Bool:=gq r.dh r.cZ (uI c y (r.month - 1).toNat).toNat (bg+jS c y (r.month - 1).toNat) 0 (-1)
theorem fd_yd {c:Cal} {bg y:Int} {r:Yr} (hc:eH c) (hr:rM c.aj.length r) (hb:0≤bg):(Qm c bg y r).2=(GI c bg y r).2∧((GI c bg y r).2=true→(Qm c bg y r).1=(GI c bg y r).1):=by
 have h1:=hr.mo;have h2:=qV c y hc (r.month - 1).toNat (by omega);have h3:=vF c y (r.month - 1).toNat hc (by omega);have h:=Pg r.dh r.cZ (bg+jS c y (r.month - 1).toNat) (uI c y (r.month - 1).toNat).toNat hr.wd hr.wk (by omega);rw [show (((uI c y (r.month - 1).toNat).toNat:Nat):Int)=uI c y (r.month - 1).toNat by omega] at h;exact h
theorem XP (c:Cal) (A R:Option Addr) (a r:Nat) (bg y:Int) (x:Yr) (w:World) (hc:eH c) (h:nD w w.heap.size A R c) (hb:0≤bg) (hb2:bg≤100000000) (hy:0≤y) (hr:rM c.aj.length x):
  Calls Tryz.prog 81 #[.agg (aH c A a R r),I bg,I y, .agg #[I x.month,I x.cZ,I x.dh,I x.minute,I x.off]] w (Gives (.tuple #[I (GI c bg y x).1, .bool (GI c bg y x).2]) w):=by
 have hmo:=hr.mo;obtain ⟨m,hm⟩:∃m:Nat,x.month=(m:Int)+1:=⟨(x.month - 1).toNat,by omega⟩;obtain ⟨mo,wk,wd,mi,of⟩:=x;simp only at hm hmo ⊢;subst hm;obtain ⟨N,hN⟩:∃N,c.aj.length=N:=⟨_,rfl⟩;have hmN:m<N:=by omega
 have hN16:N≤16:=by rw [←hN];exact hc.ml.2
 have Vm:Hid (∀W,Below w.heap.size w W→∀k,k<N→Calls Tryz.prog 102 #[.agg (aH c A a R r),I y,I ((k:Int)+1)] W (Gives (I (uI c y k)) W)):=ae fun W hb k hk=>Ui _ A R a r y k W hc (h.grow hb) hy (by omega);have qY:=ae (fun W hb=>Vm.out W hb m hmN);have Vw:=ae (fun k (hk:k≤N)=>qV c y hc k (by omega));have Vo:=ae (fun k (hk:k<N)=>vF c y k hc (by omega));obtain ⟨res,hres⟩:∃res,GI c bg y ⟨(m:Int)+1,wk,wd,mi,of⟩=res:=⟨_,rfl⟩;rw [hres];unfold GI at hres;simp only at hres;rw [show ((m:Int)+1 - 1).toNat=m by omega] at hres;have h2:=Vo.out m hmN;obtain ⟨n,hn⟩:∃n:Nat,uI c y m=n:=⟨(uI c y m).toNat,by omega⟩;rw [hn] at qY h2 hres;rw [Int.toNat_natCast] at hres;obtain ⟨ep,lp,A',R',n0,n1,hcs⟩:∃ep lp,∃A' R':Option Addr,∃n m:Nat,aH c A a R r= #[I ep, .slice A' n a,I lp, .slice R' m r]:=⟨_,_,_,_,_,_,rfl⟩;rw [hcs] at Vm qY ⊢;have qE:=ae hres;clear hcs hn hc h hy hr hres hN hmo;have hn9:n≤41:=by omega
 clear h2;have HV:=ae (oM.MB w 0 50 107 #[I ep, .slice A' n0 a,I lp, .slice R' n1 r] #[I ((m:Int)+1),I wk,I wd,I mi,I of]);go_enter Tryz.func81,Tryz.ntmps81;go_wp2_with fail
 go_loopw [10,11] (fun f i wr=>∃k:Nat,k≤m∧f=I (bg+jS c y k)∧i=I ((k:Int)+1)∧oM w 0 #[I ep, .slice A' n0 a,I lp, .slice R' n1 r] #[I ((m:Int)+1),I wk,I wd,I mi,I of] wr) (fun _ i _=>m+1 - (intOf i).toNat)
 case atStart=>exact ⟨0,Nat.zero_le _,by show I bg=I (bg+0);rw [Int.add_zero],rfl,HV.out⟩
 case round=>
  clear HV;obtain ⟨k,hk,rfl,rfl,hv⟩:=hrel;have HV:=ae hv;clear hv;have hyb:=Vw.out k (by omega);have k16:(k:Int)≤16:=by omega
  by_cases hlt:k<m
  ·have j1:(k:Int)+1<(m:Int)+1:=by omega
   have hmb:=Vo.out k (by omega);have HST:Hid (jS c y (k+1)=jS c y k+uI c y k):=ae rfl;have HC:=ae (Vm.out wr HV.out.up k (by omega));obtain ⟨u,hu⟩:∃u,jS c y k=u:=⟨_,rfl⟩;obtain ⟨q,hq⟩:∃q,uI c y k=q:=⟨_,rfl⟩;rw [hu] at hyb HST ⊢;rw [hq] at hmb HST HC;clear hu hq;have hs:bg+(u+q)=bg+u+q:=by omega
   have v0:wr.cell? ⟨w.heap.size,0,none⟩=some (I ep):=HV.out.a.2 0;have v1:wr.cell? ⟨w.heap.size,1,none⟩=some (.slice A' n0 a):=HV.out.a.2 1;have v2:wr.cell? ⟨w.heap.size,2,none⟩=some (I lp):=HV.out.a.2 2;have v3:wr.cell? ⟨w.heap.size,3,none⟩=some (.slice R' n1 r):=HV.out.a.2 3;have u0:wr.cell? ⟨w.heap.size+1,0,none⟩=some (I ((m:Int)+1)):=HV.out.b.2 0;go_wp2_with fail;refine HC.out.mono ?_;rintro e w2 ⟨rfl,hb1⟩;have jk:=ae (HV.out.below hb1);clear hb1 HV v0 v1 v2 v3 u0;go_wp2_with fail;go_roundw
   case rel=>exact ⟨k+1,by omega,by rw [HST.out,hs],by go_num,jk.out⟩
   case measure=>simp [intOf];omega
  ·have hke:k=m:=by omega
   subst hke;have j1:¬(k:Int)+1<(k:Int)+1:=by omega
   obtain ⟨u,hu⟩:∃u,jS c y k=u:=⟨_,rfl⟩;rw [hu] at hyb qE ⊢;clear hu;have v0:wr.cell? ⟨w.heap.size,0,none⟩=some (I ep):=HV.out.a.2 0;have v1:wr.cell? ⟨w.heap.size,1,none⟩=some (.slice A' n0 a):=HV.out.a.2 1;have v2:wr.cell? ⟨w.heap.size,2,none⟩=some (I lp):=HV.out.a.2 2;have v3:wr.cell? ⟨w.heap.size,3,none⟩=some (.slice R' n1 r):=HV.out.a.2 3;have u0:wr.cell? ⟨w.heap.size+1,0,none⟩=some (I ((k:Int)+1)):=HV.out.b.2 0;go_wp2_with fail;clear v0 v1 v2 v3 u0;have hf0:0≤bg+u:=by omega
   have hf1:bg+u≤100000700:=by omega
   clear hb hb2 hyb Vm;generalize bg+u=fs at hf0 hf1 qE ⊢
   go_loopw [12,13,14] (fun c l d wr=>FRel w #[I ep, .slice A' n0 a,I lp, .slice R' n1 r] #[I ((k:Int)+1),I wk,I wd,I mi,I of] wd wk fs n res c l d wr) (fun _ _ d _=>((fs+n) - intOf d).toNat)
   case atStart=>exact ⟨0,0, -1,Nat.zero_le _,rfl,rfl,by go_num,by omega,by omega,by omega,by omega,by simpa using qE.out,HV.out⟩
   case round=>
    obtain ⟨j,cn,la,hj,rfl,rfl,rfl,hc0,hc1,hl0,hl1,hsc,hv⟩:=hrel;have HS:=ae hsc;have HW:=ae hv;clear hsc hv HV;have v0:wr.cell? ⟨w.heap.size,0,none⟩=some (I ep):=HW.out.a.2 0;have v1:wr.cell? ⟨w.heap.size,1,none⟩=some (.slice A' n0 a):=HW.out.a.2 1;have v2:wr.cell? ⟨w.heap.size,2,none⟩=some (I lp):=HW.out.a.2 2;have v3:wr.cell? ⟨w.heap.size,3,none⟩=some (.slice R' n1 r):=HW.out.a.2 3;have u0:wr.cell? ⟨w.heap.size+1,0,none⟩=some (I ((k:Int)+1)):=HW.out.b.2 0;have u1:wr.cell? ⟨w.heap.size+1,1,none⟩=some (I wk):=HW.out.b.2 1;have u2:wr.cell? ⟨w.heap.size+1,2,none⟩=some (I wd):=HW.out.b.2 2;go_wp2_with fail;refine (qY.out _ HW.out.up).mono ?_;rintro e w3 ⟨rfl,hb3⟩;have HX:=ae (HW.out.below hb3);clear v0 v1 v2 v3 u0 u1 u2 hb3;have u1:w3.cell? ⟨w.heap.size+1,1,none⟩=some (I wk):=HX.out.b.2 1;have u2:w3.cell? ⟨w.heap.size+1,2,none⟩=some (I wd):=HX.out.b.2 2;by_cases hlt:j<n
    ·have hlt':fs+(j:Int)<fs+(n:Int):=by omega
     have Ed:Int.tmod (fs+(j:Int)) 7=(fs+(j:Int))%7:=Int.tmod_eq_emod_of_nonneg (by omega);obtain ⟨p,hp⟩:∃p,(fs+(j:Int))%7=p:=⟨_,rfl⟩;rw [hp] at Ed;have HP:=ae hp;clear hp;have ht:(p==wd)=true∨(p==wd)=false:=by cases (p==wd)<;>simp
     rcases ht with ht|ht
     ·have hu:(cn+1==wk)=true∨(cn+1==wk)=false:=by cases (cn+1==wk)<;>simp
      have HT:=ae ht;rcases hu with hu|hu
      ·by_cases h5:wk<5
       ·have HU:=ae hu;have H5:=ae h5;have HE:=ae (Uo HS.out hlt (by rw [HP.out];exact HT.out) ⟨by simpa using HU.out,H5.out⟩);go_wp2_with fail;go_ret2;exact ⟨by rw [HE.out];rfl,HX.out.up⟩
       ·have HU:=ae hu;have H5:=ae h5;have HE:=ae (Eu HS.out hlt (by rw [HP.out];exact HT.out) (fun h=>H5.out h.2));go_wp2_with fail;go_roundw
        case rel=>exact ⟨j+1,cn+1,fs+j,by omega,by go_num,by go_num,by go_num,by omega,by omega,by omega,by omega,HE.out,HX.out⟩
        case measure=>simp [intOf];omega
      ·have HU:=ae hu;have HE:=ae (Eu HS.out hlt (by rw [HP.out];exact HT.out) (fun h=>by have h1:=HU.out;simp [h.1] at h1));go_wp2_with fail;go_roundw
       case rel=>exact ⟨j+1,cn+1,fs+j,by omega,by go_num,by go_num,by go_num,by omega,by omega,by omega,by omega,HE.out,HX.out⟩
       case measure=>simp [intOf];omega
     ·have HT:=ae ht;have HE:=ae (PX HS.out hlt (by rw [HP.out];exact HT.out));go_wp2_with fail;go_roundw
      case rel=>exact ⟨j+1,cn,la,by omega,by go_num,by go_num,by go_num,by omega,by omega,by omega,by omega,HE.out,HX.out⟩
      case measure=>simp [intOf];omega
    ·have hke:j=n:=by omega
     have hnl:¬fs+(j:Int)<fs+(n:Int):=by omega
     have HE:=ae (PY HS.out (by omega));clear hke hlt;have hk5:(wk==5)=true∨(wk==5)=false:=by cases (wk==5)<;>simp
     rcases hk5 with hk5|hk5
     ·have HK:=ae hk5;go_wp2_with fail;go_ret2;exact ⟨by rw [show res=(la,decide (0≤la)) by rw [HE.out,HK.out];rfl];rfl,HX.out.up⟩
     ·have HK:=ae hk5;go_wp2_with fail;go_ret2;exact ⟨by rw [show res=(la,false) by rw [HE.out,HK.out];rfl];rfl,HX.out.up⟩
def Gp (c:Cal) (bg y:Int) (r r':Yr) (out:List Tr):List Tr:=if (GI c bg y r).2=true then qJ out ⟨(GI c bg y r).1*1440+r.minute - r'.off,r.off⟩ else out
def lX (c:Cal) (r0 r1:Yr) (stop:Int):Nat→Int→Int→List Tr→List Tr
 |0,_,_,out=>out
 |n+1,bg,y,out=>if bg<stop then lX c r0 r1 stop n (bg+uw c y) (y+1) (Gp c bg y r1 r0 (Gp c bg y r0 r1 out)) else out
def uy (z:Zn):List Tr:=match z.ax with
 | [r0,r1]=>lX z.cal r0 r1 (z.cal.aJ+fV z) (fV z).toNat z.cal.aJ 1 []
 |_=> []
theorem NF (c:Cal) (bg y:Int) (r:Yr) (hc:eH c) (hr:rM c.aj.length r) (hb:0≤bg): -1≤(GI c bg y r).1∧(GI c bg y r).1≤bg+800:=by
 have h1:=hr.mo;have h2:=qV c y hc (r.month - 1).toNat (by omega);have h3:=vF c y (r.month - 1).toNat hc (by omega);have h4:=hc.ml;unfold GI;rcases XU r.dh r.cZ (uI c y (r.month - 1).toNat).toNat (bg+jS c y (r.month - 1).toNat) 0 (-1) (by omega) (by omega) with h|h
 ·omega
 ·omega
theorem FW {c:Cal} {bg y:Int} {r r':Yr} {ts:List Tr} (h:nI ts) (hc:eH c) (hr:rM c.aj.length r) (hr':rM c.aj.length r') (hb:0≤bg) (hb2:bg≤4000000):nI (Gp c bg y r r' ts):=by
 have h1:=NF c bg y r hc hr hb;have h2:=hr.mi;have h3:=hr'.of;unfold Gp;split
 ·intro x hx;rcases Ti hx with rfl|hx
  ·constructor<;>(simp only;omega)
  ·exact h x hx
 ·exact h
theorem uu {c:Cal} {r0 r1:Yr} {stop bg y:Int} {f:Nat} {ts res:List Tr} (h:lX c r0 r1 stop f bg y ts=res) (hb:bg<stop) (hf:(stop - bg).toNat≤f) (hy:1≤uw c y):
  ∃f',(stop - (bg+uw c y)).toNat≤f'∧lX c r0 r1 stop f' (bg+uw c y) (y+1) (Gp c bg y r1 r0 (Gp c bg y r0 r1 ts))=res:=by
 cases f with
 |zero=>omega
 |succ f=>exact ⟨f,by omega,by rw [lX,if_pos hb] at h;exact h⟩
theorem MR {c:Cal} {r0 r1:Yr} {stop bg y:Int} {f:Nat} {ts res:List Tr} (h:lX c r0 r1 stop f bg y ts=res) (hb:¬bg<stop):ts=res:=by
 cases f with
 |zero=>exact h
 |succ f=>rw [lX,if_neg hb] at h;exact h
def Wu (ts:List Tr):Prop:=ts.Pairwise (fun a b=>a.at_≤b.at_)
theorem Em (ts:List Tr) (t:Tr):∀k:Nat,k≤ts.length→(∀(j:Nat) (x:Tr),uJ ts t k≤j→j<k→ts[j]? =some x→t.at_<x.at_)∧(∀x:Tr,ts[uJ ts t k - 1]? =some x→uJ ts t k≠0→x.at_≤t.at_)
 |0,_=>⟨fun j x _ h=>absurd h (Nat.not_lt_zero _),fun x _ h=>absurd rfl h⟩
 |k+1,hk=>by
  obtain ⟨h1,h2⟩:=Em ts t k (by omega);have hx:ts[k]? =some ts[k]:=bZ (by omega);by_cases h:t.at_<(ts[k]).at_
  ·rw [N7 hx h];refine ⟨fun j x hj hk2 VB=>?_,h2⟩;rcases Nat.lt_succ_iff_lt_or_eq.1 hk2 with h3|rfl
   ·exact h1 j x hj h3 VB
   ·rw [hx] at VB;injection VB with VB;rw [←VB];exact h
  ·rw [En hx h];refine ⟨fun j x hj hk2 _=>by omega,fun x VB _=>?_⟩;rw [Nat.add_sub_cancel,hx] at VB;injection VB with VB;rw [←VB];omega
theorem Tj {ts:List Tr} (t:Tr) (h:Wu ts):Wu (qJ ts t):=by
 unfold qJ;obtain ⟨h1,h2⟩:=Em ts t ts.length (Nat.le_refl _);have hp:=N8 ts t ts.length;generalize uJ ts t ts.length=p at h1 h2 hp ⊢;have hts:Wu (ts.take p++ts.drop p):=by rw [List.take_append_drop];exact h
 have hi:=h;unfold Wu at hts hi ⊢;rw [List.pairwise_append] at hts ⊢;obtain ⟨q1,q2,q3⟩:=hts;have hlow:∀a∈ts.take p,a.at_≤t.at_:=fun a ha=>by
  obtain ⟨i,hi2,rfl⟩:=List.mem_iff_getElem.1 ha;rw [List.length_take] at hi2;have hpl:p - 1<ts.length:=by omega
  have h4:=h2 _ (bZ hpl) (by omega);rw [List.getElem_take];rcases Nat.lt_or_ge i (p - 1) with h5|h5
  ·have h6:=(List.pairwise_iff_getElem.1 hi) i (p - 1) (by omega) hpl h5;omega
  ·have h7:i=p - 1:=by omega
   subst h7;exact h4
 have hup:∀b∈ts.drop p,t.at_≤b.at_:=fun b hb=>by
  obtain ⟨i,hi2,rfl⟩:=List.mem_iff_getElem.1 hb;rw [List.length_drop] at hi2;rw [List.getElem_drop];have:=h1 (p+i) _ (by omega) (by omega) (bZ (by omega));omega
 refine ⟨q1,List.pairwise_cons.2 ⟨hup,q2⟩,fun a ha b hb=>?_⟩;rcases List.mem_cons.1 hb with rfl|hb
 ·exact hlow a ha
 ·exact q3 a ha b hb
theorem Ox {c:Cal} {bg y:Int} {r r':Yr} {ts:List Tr} (h:Wu ts):Wu (Gp c bg y r r' ts):=by
 unfold Gp;split
 ·exact Tj _ h
 ·exact h
theorem BR {c:Cal} {r0 r1:Yr} {stop:Int}:∀(f:Nat) (bg y:Int) (ts:List Tr),Wu ts→Wu (lX c r0 r1 stop f bg y ts)
 |0,_,_,_,h=>h
 |f+1,bg,y,ts,h=>by
  unfold lX;split
  ·exact BR f _ _ _ (Ox (Ox h))
  ·exact h
theorem Jy {c:Cal} {bg y:Int} {r r':Yr} {ts us:List Tr} (hc:eH c) (hr:rM c.aj.length r) (hb:0≤bg) (h:ts.Perm us):(Gp c bg y r r' ts).Perm (ou c bg y r r' us):=by
 obtain ⟨h1,h2⟩:=fd_yd (y:=y) hc hr hb;unfold Gp ou;rw [h1];by_cases hf:(GI c bg y r).2=true
 ·rw [if_pos hf,if_pos hf,h2 hf];exact Lj _ h
 ·rw [if_neg hf,if_neg hf];exact h
theorem yJ {c:Cal} {r0 r1:Yr} {stop:Int} (hc:eH c) (hr0:rM c.aj.length r0) (hr1:rM c.aj.length r1):∀(f:Nat) (bg y:Int) (ts us:List Tr),0≤bg→ts.Perm us→(lX c r0 r1 stop f bg y ts).Perm (oz c r0 r1 stop f bg y us)
 |0,_,_,_,_,_,h=>h
 |f+1,bg,y,ts,us,hb,h=>by
  unfold lX oz;split
  ·have:=lD c y hc;exact yJ hc hr0 hr1 f _ _ _ _ (by omega) (Jy hc hr1 hb (Jy hc hr0 hb h))
  ·exact h
theorem Ov (z:Zn):Wu (uy z):=by
 unfold uy;split
 ·exact BR _ _ _ _ List.Pairwise.nil
 ·exact List.Pairwise.nil
theorem wW (z:Zn) (hc:eH z.cal) (hy:oN z):(uy z).Perm (rP z):=by
 refine List.Perm.trans ?_ (tY z).symm;unfold uy sU;rcases hy with e|⟨r0,r1,e,h0,h1⟩
 ·rw [e]
 ·rw [e];exact yJ hc h0 h1 _ _ _ _ _ hc.ep.1 (List.Perm.refl _)
theorem U2 (z:Zn) (hc:eH z.cal) (hy:oN z) (sz:Int):ed (uy z) sz=ed (rP z) sz:=Ea (wW z hc hy) (Ov z) (BU z)
theorem ysR_eq (z:Zn) (hc:eH z.cal) (hy:oN z) {sz:Int} (h:ed (rP z) sz=true):uy z=rP z:=um h (wW z hc hy) (Ov z)
theorem ysR_B (z:Zn) (hc:eH z.cal) (hy:oN z):nI (uy z)∧(uy z).length≤10000000:=
 ⟨(U1 z hc hy).1.perm (wW z hc hy),by rw [(wW z hc hy).length_eq];exact (U1 z hc hy).2⟩
theorem Oi (z:Zn) (s:Zs) (w:World) (hc:eH z.cal) (h:jy w w.heap.size s z):Calls Tryz.prog 66 #[.agg (au z s)] w (Gives (I (fV z)) w):=by
 have uU:Hid (∀W,Below w.heap.size w W→Calls Tryz.prog 84 #[.agg (aH z.cal s.A s.a s.B s.b)] W (Gives (.tuple #[I (Il z.cal:Int),I (GH z.cal), .int .i64 0]) W)):=ae fun W hb=>Ud z.cal s.A s.B s.a s.b W hc ⟨h.aj.grow hb,h.rules.grow hb⟩;have hbd:=KN hc;obtain ⟨⟨ep,mo,lp,ru⟩,st,tr,ho,yr⟩:=z;obtain ⟨A,a,R,r,C,c,D,d⟩:=s;unfold aH at uU;unfold au fV;simp only at uU hbd ⊢;obtain ⟨q,hq⟩:∃q,GH ⟨ep,mo,lp,ru⟩=q:=⟨_,rfl⟩;rw [hq] at uU hbd ⊢;obtain ⟨y,hy⟩:∃y:Int,(Il ⟨ep,mo,lp,ru⟩:Int)=y:=⟨_,rfl⟩;rw [hy] at uU;obtain ⟨n0,hn0⟩:∃n,mo.length=n:=⟨_,rfl⟩;obtain ⟨n1,hn1⟩:∃n,ru.length=n:=⟨_,rfl⟩;obtain ⟨n2,hn2⟩:∃n,tr.length=n:=⟨_,rfl⟩;rw [hn0,hn1] at uU ⊢;rw [hn2];clear hc h hq hy hn0 hn1 hn2;cases yr with
 |nil=>
  go_enter Tryz.func66,Tryz.ntmps66;go_wp2_with fail;go_ret;exact ⟨rfl,ag w _⟩
 |cons y1 ys=>
  obtain ⟨m,hm⟩:∃m,(y1::ys).length=m:=⟨_,rfl⟩;have hm0:((m:Int)==0)=false:=by rw [←hm];simp;omega
  rw [hm];clear hm;have Ed:q.tmod 7=q%7:=Int.tmod_eq_emod_of_nonneg (by omega);have HV:=ae (jw.start w #[I ep, .slice A n0 a,I lp, .slice R n1 r,I st, .slice C n2 c,I ho, .slice D m d] 54);obtain ⟨V,hV⟩:∃V,Io q=V:=⟨_,rfl⟩;rw [hV];have HVQ:=ae hV;clear hV;obtain ⟨p,hp⟩:∃p,q%7=p:=⟨_,rfl⟩;rw [hp] at Ed;have HP:=ae hp;clear hp;have ht:(p !=0)=true∨(p !=0)=false:=by cases (p !=0)<;>simp
  rcases ht with ht|ht
  all_goals
   have HT:=ae ht;go_enter Tryz.func66,Tryz.ntmps66;go_wp2_with fail;refine (uU.out _ HV.out.up).mono ?_;rintro e w1 ⟨rfl,hb1⟩;have HW:=ae (HV.out.grow hb1);clear hb1;go_wp2_with fail;go_ret;exact ⟨by rw [←HVQ.out];have h1:=HT.out;have h2:=HP.out;simp at h1;simp [Io,h1,h2],HW.out.up⟩
theorem AX (lo n c:Nat) (A:Option Addr) (ts:List Tr) (t:Tr) (w:World) (hn:ts.length=n) (hn1:n≤10000000) (hlo:lo≤w.heap.size) (hO:iG lo w A n c ts):
  Calls Tryz.prog 82 #[.slice A n c, .agg #[I t.at_,I t.off]] w (InsP lo (n+1) w (qJ ts t)):=by
 obtain ⟨zH,Cm⟩:=t;simp only;have HN:=ae hn;have HO:=ae (World.ownsRow.alloc (World.ownsRow.alloc hO (.cells #[I zH,I Cm] 105)) (.cells #[I zH,I Cm] 105));have HB:=ae (ai (ag w (.cells #[I zH,I Cm] 105)) (ag _ (.cells #[I zH,I Cm] 105)));have HBA:=ae (Jp hO);obtain ⟨i0,hi,hz0,hz1,hz2⟩:=info_parts uk;have HI:=ae hi;have HZ0:=ae hz0;have HZ1:=ae hz1;have HZ2:=ae hz2;clear hn hO hi hz0 hz1 hz2;go_enter Tryz.func82,Tryz.ntmps82;go_wp2_with (at_builtin;go_must (refine wpList_append_own_at _ rfl _ _ 51 rfl lo 105 i0 (.agg #[I 0,I 0]) 2 16 Tryz.underlying51 HI.out HZ0.out HZ1.out HZ2.out rfl (by decide) _ n (ts.flatMap Tr.cells) rfl HO.out _ 1 1 [I zH,I Cm] rfl rfl (UG _ _ _ _ _) (vH ⟨zH,Cm⟩) (by unfold maxLen;omega) (by omega) (by simp;omega) ?_));intro v' w1 hown hg _ _;obtain ⟨g,cp,rfl⟩:=ownsRow_succ hown;have HR:Hid (InR lo w g cp n ts ⟨zH,Cm⟩ n w1):=ae ⟨by rw [←HN.out,Tf,HN.out];exact hown,(HB.out.mono hlo).trans (RF hg HBA.out (by simp;omega))⟩;clear hown hg HB HO HBA;go_wp2_with fail
 go_loopw [6] (fun i wr=>InRel lo w g cp n ts ⟨zH,Cm⟩ i wr) (fun i _=>(intOf i).toNat)
 case atStart=>exact ⟨n,Nat.le_refl _,by go_num,rfl,HR.out⟩
 case round=>
  obtain ⟨k,hk,rfl,hp,hr⟩:=hrel;have HP:=ae hp;have HQ:=ae hr;clear hp hr HR;cases k with
  |zero=>
   go_wp2_with fail;go_quiet (fail);go_wp2_with fail;go_ret;refine ⟨_,_,rfl,?_,HQ.out.up.trans ((below_drewN' wr nq).mono (Nat.le_trans hlo HQ.out.up.size))⟩;have h1:=HP.out;have h2:=HQ.out.own;show (wr.drewN nq).ownsRow _ _ _ _ _ _;have h3:(qJ ts ⟨zH,Cm⟩).flatMap Tr.cells=AQ ts ⟨zH,Cm⟩ 0:=by
    unfold qJ AQ;rw [HN.out,←h1];rfl
   rw [h3];exact h2
  |succ q=>
   have hq:q<n:=by omega
   obtain ⟨x,hx, -, -⟩:=take_at ts q (by rw [HN.out];exact hq);obtain ⟨s1,s2,s3⟩:=Ee ts ⟨zH,Cm⟩ x q (by rw [HN.out];exact hq) hx;have HX:=ae hx;have HS:=ae (And.intro s1 (And.intro s2 s3));have hcl:=fun j hj=>(HQ.out.own.cellAt j hj).trans (by rw [s1]);have c0:wr.cell? ⟨g,q*2,none⟩=some (I x.at_):=(hcl _ (by omega)).trans (by rw [List.getElem?_append_right (by omega),s3,Nat.sub_self];rfl);have c1:wr.cell? ⟨g,q*2+1,none⟩=some (I x.off):=(hcl _ (by omega)).trans (by rw [List.getElem?_append_right (by omega),s3,show q*2+1 - q*2=1 by omega];rfl);have c2:wr.cell? ⟨g,(q+1)*2,none⟩=some (I zH):=(hcl _ (by omega)).trans (by rw [List.getElem?_append_right (by omega),s3,show (q+1)*2 - q*2=2 by omega];rfl);have c3:wr.cell? ⟨g,(q+1)*2+1,none⟩=some (I Cm):=(hcl _ (by omega)).trans (by rw [List.getElem?_append_right (by omega),s3,show (q+1)*2+1 - q*2=3 by omega];rfl);have f0:∀j,wr.frozen? ⟨g,j,none⟩=false:=fun j=>HQ.out.own.frozenAt j;clear hx s1 s2 s3 hcl;obtain ⟨Ey,Ye⟩:=x;simp only at c0 c1;have i0:(0:Int)<((q+1:Nat):Int):=by omega
   have i1:((q+1:Nat):Int) - 1=(q:Int):=by omega
   have i2:(q:Int)<(n:Int)+1:=by omega
   have i3:((q+1:Nat):Int)<(n:Int)+1:=by omega
   by_cases hlt:zH<Ey
   ·go_wp2_with fail;go_quiet (fail);have iH:Hid (InR lo w g cp n ts ⟨zH,Cm⟩ (q+1) (wr.drewN nq)):=ae ⟨HQ.out.own,HQ.out.up.trans ((below_drewN' wr nq).mono (Nat.le_trans hlo HQ.out.up.size))⟩;have d0:(wr.drewN nq).cell? ⟨g,q*2,none⟩=some (I Ey):=c0;have d1:(wr.drewN nq).cell? ⟨g,q*2+1,none⟩=some (I Ye):=c1;have d2:(wr.drewN nq).cell? ⟨g,(q+1)*2,none⟩=some (I zH):=c2;have d3:(wr.drewN nq).cell? ⟨g,(q+1)*2+1,none⟩=some (I Cm):=c3;have g0:∀j,(wr.drewN nq).frozen? ⟨g,j,none⟩=false:=f0;have hgl:g<(wr.drewN nq).heap.size:=(World.ownsRow.lt HQ.out.own g rfl).2;clear c0 c1 c2 c3 f0;generalize wr.drewN nq=W2 at iH d0 d1 d2 d3 g0 hgl ⊢;clear HQ;go_wp2_with fail;go_roundw
    case rel=>exact ⟨q,by omega,by go_num,(N7 HX.out hlt).symm.trans HP.out,iH.out.swap hlo (by rw [HN.out];exact hq) HX.out _⟩
    case measure=>simp [intOf]
   ·go_wp2_with fail;go_quiet (fail);go_wp2_with fail;go_ret;refine ⟨_,_,rfl,?_,HQ.out.up.trans ((below_drewN' wr nq).mono (Nat.le_trans hlo HQ.out.up.size))⟩;have h1:=HP.out;rw [En HX.out (by show¬zH<Ey;omega)] at h1;have h2:=HQ.out.own;show (wr.drewN nq).ownsRow _ _ _ _ _ _;have h3:(qJ ts ⟨zH,Cm⟩).flatMap Tr.cells=AQ ts ⟨zH,Cm⟩ (q+1):=by
     unfold qJ AQ;rw [HN.out,←h1]
    rw [h3];exact h2
end Go.Proofs.YtbaehbbonkljpaaGreat
