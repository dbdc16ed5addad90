/- The texts Kb, Kc, Kn, in this order. -/
import Derived.Test.YtdibbemgpikgjaaGreatW00
import Derived.Test.YtdibbemgpikgjaaGreatW01
import Derived.Test.YtdibbemgpikgjaaGreatW10
import Derived.Test.YtdibbemgpikgjaaGreatW12
set_option maxRecDepth 10000
set_option maxHeartbeats 8000000
namespace Go.Proofs.YtdibbemgpikgjaaGreat
open Go Go.RowKit
def Ai (d:Int):Int:=if d%7=0 then d else 7*d
def kW (z:Zn):Int:=match z.az with| []=>1|_::_=>Ai (CJ z.cal)
theorem Oz (c:Cal) (hc:iR c):0≤CJ c∧CJ c≤200:=by
 have h1:=nI c 1 hc;have h2:=nI c 2 hc;unfold CJ;split<;>omega
theorem kT.alloc {w W:World} {cs:Array Value} (h:kT w cs W) (o:Obj):kT w cs (W.alloc o):=h.grow (ag W o)
theorem D5 (z:Zn) (s:Zs) (w:World) (hc:iR z.cal) (h:jR w w.heap.size s z):Calls Tryz.prog 97 #[.agg (ax z s)] w (Gives (I (kW z)) w):=by
 have vK:Hid (∀W,Below w.heap.size w W→Calls Tryz.prog 114 #[.agg (aG z.cal s.A s.a s.B s.b)] W (Gives (.tuple #[I (Tu z.cal),I (CJ z.cal), .int .i64 0]) W)):=ae fun W hb=>WT z.cal s.A s.B s.a s.b W hc ⟨h.aj.grow hb,h.rules.grow hb⟩;have hbd:=Oz z.cal hc;obtain ⟨⟨ep,mo,lp,ru⟩,st,tr,ho,yr⟩:=z;obtain ⟨A,a,R,r,C,c,D,d⟩:=s;unfold aG at vK;unfold ax kW;simp only at vK hbd ⊢;obtain ⟨q,hq⟩:∃q,CJ ⟨ep,mo,lp,ru⟩=q:=⟨_,rfl⟩;rw [hq] at vK hbd ⊢;obtain ⟨y,hy⟩:∃y,Tu ⟨ep,mo,lp,ru⟩=y:=⟨_,rfl⟩;rw [hy] at vK;obtain ⟨n0,hn0⟩:∃n,mo.length=n:=⟨_,rfl⟩;obtain ⟨n1,hn1⟩:∃n,ru.length=n:=⟨_,rfl⟩;obtain ⟨n2,hn2⟩:∃n,tr.length=n:=⟨_,rfl⟩;rw [hn0,hn1] at vK ⊢;rw [hn2];clear hc h hq hy hn0 hn1 hn2;cases yr with
 |nil=>
  go_enter Tryz.func97,Tryz.ntmps97;go_wp2_with fail;go_ret;exact ⟨rfl,ag w _⟩
 |cons y1 ys=>
  obtain ⟨m,hm⟩:∃m,(y1::ys).length=m:=⟨_,rfl⟩;have hm0:((m:Int)==0)=false:=by rw [←hm];simp;omega
  rw [hm];clear hm;have yA:q.tmod 7=q%7:=Int.tmod_eq_emod_of_nonneg hbd.1;have HV:=ae (kT.start w #[I ep, .slice A n0 a,I lp, .slice R n1 r,I st, .slice C n2 c,I ho, .slice D m d] 51);obtain ⟨V,hV⟩:∃V,Ai q=V:=⟨_,rfl⟩;rw [hV];have YW:=ae hV;clear hV;obtain ⟨p,hp⟩:∃p,q%7=p:=⟨_,rfl⟩;rw [hp] at yA;have HP:=ae hp;clear hp;have ht:(p !=0)=true∨(p !=0)=false:=by cases (p !=0)<;>simp
  rcases ht with ht|ht
  all_goals
   have HT:=ae ht;go_enter Tryz.func97,Tryz.ntmps97;go_wp2_with fail;refine (vK.out _ HV.out.up).mono ?_;rintro e w1 ⟨rfl,hb1⟩;have HW:=ae (HV.out.grow hb1);clear hb1;go_wp2_with fail;go_ret;exact ⟨by rw [←YW.out];have h1:=HT.out;have h2:=HP.out;simp at h1;simp [Ai,h1,h2],HW.out.up⟩
def gZ (wd wk:Int):Nat→Int→Int→Int→Int×Bool
 |0,_,_,last=>(last,wk==5&&decide (0≤last))
 |n+1,d,cn,last=>if d%7=wd then (if cn+1=wk∧wk<5 then (d,true) else gZ wd wk n (d+1) (cn+1) d) else gZ wd wk n (d+1) cn last
def oW (c:Cal) (bg y mo:Int):Int:=if mo=2 then bg+ik c y 1 else bg
def findF (c:Cal) (bg y:Int) (r:Yr):Int×Bool:=gZ r.dm r.di (ik c y r.month).toNat (oW c bg y r.month) 0 (-1)
theorem qP (c:Cal) (y m:Int) (hc:iR c) (hm:m=1∨m=2):0≤ik c y m∧ik c y m≤9:=by
 obtain ⟨ep,m0,m1,lp,rs,rfl,b1,b2,b3,b4,_⟩:=hc.form;rcases hm with rfl|rfl
 ·show 0≤m0+_∧m0+_≤9;split<;>omega
 ·show 0≤m1+_∧m1+_≤9;split<;>omega
theorem pY.Hg (w:World) (t t1 t2:TypeId) (us vs:Array Value):pY w t us vs ((w.alloc (.cells us t1)).alloc (.cells vs t2)):=
 ⟨Row.kF (heap_alloc2_old w _ _),Row.kF (heap_alloc2_new w _ _),ah (ag w _) (ag _ _)⟩
def FRel (w:World) (us vs:Array Value) (wd wk fs:Int) (n:Nat) (res:Int×Bool) (c l d:Value) (wr:World):Prop:=
 ∃j:Nat,∃cn la:Int,j≤n∧c= .int .i64 cn∧l= .int .i64 la∧d= .int .i64 (fs+j)∧0≤cn∧cn≤j∧ -1≤la∧la≤fs+j∧gZ wd wk (n - j) (fs+j) cn la=res∧pY w 0 us vs wr
theorem FZ {wd wk:Int} {n j:Nat} {d cn la:Int} {res:Int×Bool} (h:gZ wd wk (n - j) d cn la=res) (hj:n≤j):res=(la,wk==5&&decide (0≤la)):=by
 rw [Nat.sub_eq_zero_of_le hj] at h;exact h.symm
theorem FY {wd wk fs:Int} {n j:Nat} {cn la:Int} {res:Int×Bool} (h:gZ wd wk (n - j) (fs+j) cn la=res) (hj:j<n) (ht:((fs+j)%7==wd)=false):gZ wd wk (n - (j+1)) (fs+((j+1:Nat):Int)) cn la=res:=by
 rw [show n - j=(n - (j+1))+1 by omega,gZ,if_neg (by simpa using ht)] at h;rw [show fs+((j+1:Nat):Int)=fs+(j:Int)+1 by omega];exact h
theorem JQ {wd wk fs:Int} {n j:Nat} {cn la:Int} {res:Int×Bool} (h:gZ wd wk (n - j) (fs+j) cn la=res) (hj:j<n) (ht:((fs+j)%7==wd)=true) (hu:cn+1=wk∧wk<5):res=(fs+j,true):=by
 rw [show n - j=(n - (j+1))+1 by omega,gZ,if_pos (by simpa using ht),if_pos hu] at h;exact h.symm
theorem uS {wd wk fs:Int} {n j:Nat} {cn la:Int} {res:Int×Bool} (h:gZ wd wk (n - j) (fs+j) cn la=res) (hj:j<n) (ht:((fs+j)%7==wd)=true) (hu:¬(cn+1=wk∧wk<5)):gZ wd wk (n - (j+1)) (fs+((j+1:Nat):Int)) (cn+1) (fs+j)=res:=by
 rw [show n - j=(n - (j+1))+1 by omega,gZ,if_pos (by simpa using ht),if_neg hu] at h;rw [show fs+((j+1:Nat):Int)=fs+(j:Int)+1 by omega];exact h
theorem TI (c:Cal) (A R:Option Addr) (a r:Nat) (bg y:Int) (x:Yr) (w:World) (hc:iR c) (h:oC w w.heap.size A R c) (hb:0≤bg) (hb2:bg≤100000) (hy:0≤y) (hm:x.month=1∨x.month=2):
  Calls Tryz.prog 111 #[.agg (aG c A a R r),I bg,I y, .agg #[I x.month,I x.di,I x.dm,I x.minute,I x.off]] w (Gives (.tuple #[I (findF c bg y x).1, .bool (findF c bg y x).2]) w):=by
 obtain ⟨mo,wk,wd,mi,of⟩:=x;simp only at hm ⊢;have RD:Hid (∀W,Below w.heap.size w W→Calls Tryz.prog 127 #[.agg (aG c A a R r),I y,I 1] W (Gives (I (ik c y 1)) W)):=ae fun W hb=>FI _ A R a r y 1 W hc (h.grow hb) hy (.inl rfl);have nJ:Hid (∀W,Below w.heap.size w W→Calls Tryz.prog 127 #[.agg (aG c A a R r),I y,I mo] W (Gives (I (ik c y mo)) W)):=ae fun W hb=>FI _ A R a r y mo W hc (h.grow hb) hy hm;have h1:=qP c y 1 hc (.inl rfl);have h2:=qP c y mo hc hm;obtain ⟨res,hres⟩:∃res,findF c bg y ⟨mo,wk,wd,mi,of⟩=res:=⟨_,rfl⟩;rw [hres];unfold findF oW at hres;simp only at hres;obtain ⟨q,hq⟩:∃q,ik c y 1=q:=⟨_,rfl⟩;rw [hq] at RD h1 hres;obtain ⟨n,hn⟩:∃n:Nat,ik c y mo=n:=⟨(ik c y mo).toNat,by omega⟩;rw [hn] at nJ h2 hres;rw [Int.toNat_natCast] at hres;obtain ⟨ep,lp,A',R',n0,n1,hcs⟩:∃ep lp,∃A' R':Option Addr,∃n m:Nat,aG c A a R r= #[I ep, .slice A' n a,I lp, .slice R' m r]:=⟨_,_,_,_,_,_,rfl⟩;rw [hcs] at RD nJ ⊢;clear hcs hn hq hc h hy;have hn9:n≤9:=by omega
 clear h2;rcases hm with rfl|rfl
 ·have HV:=ae (pY.Hg w 0 47 130 #[I ep, .slice A' n0 a,I lp, .slice R' n1 r] #[I 1,I wk,I wd,I mi,I of]);go_enter Tryz.func111,Tryz.ntmps111;go_wp2_with fail;generalize (w.alloc (.cells #[I ep, .slice A' n0 a,I lp, .slice R' n1 r] 47)).alloc (.cells #[I 1,I wk,I wd,I mi,I of] 130)=W0 at HV ⊢;have v0:W0.cell? ⟨w.heap.size,0,none⟩=some (I ep):=HV.out.a.2 0;have v1:W0.cell? ⟨w.heap.size,1,none⟩=some (.slice A' n0 a):=HV.out.a.2 1;have v2:W0.cell? ⟨w.heap.size,2,none⟩=some (I lp):=HV.out.a.2 2;have v3:W0.cell? ⟨w.heap.size,3,none⟩=some (.slice R' n1 r):=HV.out.a.2 3;have u0:W0.cell? ⟨w.heap.size+1,0,none⟩=some (I 1):=HV.out.b.2 0;have u1:W0.cell? ⟨w.heap.size+1,1,none⟩=some (I wk):=HV.out.b.2 1;have u2:W0.cell? ⟨w.heap.size+1,2,none⟩=some (I wd):=HV.out.b.2 2;rw [if_neg (by omega)] at hres;have lh:=ae hres;clear hres h1 RD;refine wp_loop_rounds 1 ?_;rw [rounds_succ];go_wp2_with fail;clear v0 v1 v2 v3 u0 u1 u2;have hf0:=hb;have hf1:bg≤200000:=by omega
  clear hb hb2
  go_loopw [12,13,14] (fun c l d wr=>FRel w #[I ep, .slice A' n0 a,I lp, .slice R' n1 r] #[I 1,I wk,I wd,I mi,I of] wd wk bg n res c l d wr) (fun _ _ d _=>((bg+n) - intOf d).toNat)
  case atStart=>exact ⟨0,0, -1,Nat.zero_le _,rfl,rfl,by go_num,by omega,by omega,by omega,by omega,by simpa using lh.out,HV.out⟩
  case round=>
   obtain ⟨j,cn,la,hj,rfl,rfl,rfl,hc0,hc1,hl0,hl1,hsc,hv⟩:=hrel;have HS:=ae hsc;have HW:=ae hv;clear hsc hv HV;have v0:wr.cell? ⟨w.heap.size,0,none⟩=some (I ep):=HW.out.a.2 0;have v1:wr.cell? ⟨w.heap.size,1,none⟩=some (.slice A' n0 a):=HW.out.a.2 1;have v2:wr.cell? ⟨w.heap.size,2,none⟩=some (I lp):=HW.out.a.2 2;have v3:wr.cell? ⟨w.heap.size,3,none⟩=some (.slice R' n1 r):=HW.out.a.2 3;have u0:wr.cell? ⟨w.heap.size+1,0,none⟩=some (I 1):=HW.out.b.2 0;have u1:wr.cell? ⟨w.heap.size+1,1,none⟩=some (I wk):=HW.out.b.2 1;have u2:wr.cell? ⟨w.heap.size+1,2,none⟩=some (I wd):=HW.out.b.2 2;go_wp2_with fail;refine (nJ.out _ HW.out.up).mono ?_;rintro e w3 ⟨rfl,hb3⟩;have HX:=ae (HW.out.below hb3);clear v0 v1 v2 v3 u0 u1 u2 hb3;have u1:w3.cell? ⟨w.heap.size+1,1,none⟩=some (I wk):=HX.out.b.2 1;have u2:w3.cell? ⟨w.heap.size+1,2,none⟩=some (I wd):=HX.out.b.2 2;by_cases hlt:j<n
   ·have hlt':bg+(j:Int)<bg+(n:Int):=by omega
    have yA:Int.tmod (bg+(j:Int)) 7=(bg+(j:Int))%7:=Int.tmod_eq_emod_of_nonneg (by omega);obtain ⟨p,hp⟩:∃p,(bg+(j:Int))%7=p:=⟨_,rfl⟩;rw [hp] at yA;have HP:=ae hp;clear hp;have ht:(p==wd)=true∨(p==wd)=false:=by cases (p==wd)<;>simp
    rcases ht with ht|ht
    ·have hu:(cn+1==wk)=true∨(cn+1==wk)=false:=by cases (cn+1==wk)<;>simp
     have HT:=ae ht;rcases hu with hu|hu
     ·by_cases h5:wk<5
      ·have HU:=ae hu;have H5:=ae h5;have HE:=ae (JQ HS.out hlt (by rw [HP.out];exact HT.out) ⟨by simpa using HU.out,H5.out⟩);go_wp2_with fail;go_ret2;exact ⟨by rw [HE.out];rfl,HX.out.up⟩
      ·have HU:=ae hu;have H5:=ae h5;have HE:=ae (uS HS.out hlt (by rw [HP.out];exact HT.out) (fun h=>H5.out h.2));go_wp2_with fail;go_roundw
       case rel=>exact ⟨j+1,cn+1,bg+j,by omega,by go_num,by go_num,by go_num,by omega,by omega,by omega,by omega,HE.out,HX.out⟩
       case measure=>simp [intOf];omega
     ·have HU:=ae hu;have HE:=ae (uS HS.out hlt (by rw [HP.out];exact HT.out) (fun h=>by have h1:=HU.out;simp [h.1] at h1));go_wp2_with fail;go_roundw
      case rel=>exact ⟨j+1,cn+1,bg+j,by omega,by go_num,by go_num,by go_num,by omega,by omega,by omega,by omega,HE.out,HX.out⟩
      case measure=>simp [intOf];omega
    ·have HT:=ae ht;have HE:=ae (FY HS.out hlt (by rw [HP.out];exact HT.out));go_wp2_with fail;go_roundw
     case rel=>exact ⟨j+1,cn,la,by omega,by go_num,by go_num,by go_num,by omega,by omega,by omega,by omega,HE.out,HX.out⟩
     case measure=>simp [intOf];omega
   ·have hke:j=n:=by omega
    have hnl:¬bg+(j:Int)<bg+(n:Int):=by omega
    have HE:=ae (FZ HS.out (by omega));clear hke hlt;have hk5:(wk==5)=true∨(wk==5)=false:=by cases (wk==5)<;>simp
    rcases hk5 with hk5|hk5
    ·have HK:=ae hk5;go_wp2_with fail;go_ret2;exact ⟨by rw [show res=(la,decide (0≤la)) by rw [HE.out,HK.out];rfl];rfl,HX.out.up⟩
    ·have HK:=ae hk5;go_wp2_with fail;go_ret2;exact ⟨by rw [show res=(la,false) by rw [HE.out,HK.out];rfl];rfl,HX.out.up⟩
 ·have HV:=ae (pY.Hg w 0 47 130 #[I ep, .slice A' n0 a,I lp, .slice R' n1 r] #[I 2,I wk,I wd,I mi,I of]);go_enter Tryz.func111,Tryz.ntmps111;go_wp2_with fail;generalize (w.alloc (.cells #[I ep, .slice A' n0 a,I lp, .slice R' n1 r] 47)).alloc (.cells #[I 2,I wk,I wd,I mi,I of] 130)=W0 at HV ⊢;have v0:W0.cell? ⟨w.heap.size,0,none⟩=some (I ep):=HV.out.a.2 0;have v1:W0.cell? ⟨w.heap.size,1,none⟩=some (.slice A' n0 a):=HV.out.a.2 1;have v2:W0.cell? ⟨w.heap.size,2,none⟩=some (I lp):=HV.out.a.2 2;have v3:W0.cell? ⟨w.heap.size,3,none⟩=some (.slice R' n1 r):=HV.out.a.2 3;have u0:W0.cell? ⟨w.heap.size+1,0,none⟩=some (I 2):=HV.out.b.2 0;have u1:W0.cell? ⟨w.heap.size+1,1,none⟩=some (I wk):=HV.out.b.2 1;have u2:W0.cell? ⟨w.heap.size+1,2,none⟩=some (I wd):=HV.out.b.2 2;simp only [if_true] at hres;refine wp_loop_rounds 2 ?_;rw [rounds_succ];go_wp2_with fail;refine (RD.out _ HV.out.up).mono ?_;rintro e w1 ⟨rfl,hb1⟩;have YV:=ae (HV.out.below hb1);clear v0 v1 v2 v3 u0 u1 u2 hb1 HV;have v0:w1.cell? ⟨w.heap.size,0,none⟩=some (I ep):=YV.out.a.2 0;have v1:w1.cell? ⟨w.heap.size,1,none⟩=some (.slice A' n0 a):=YV.out.a.2 1;have v2:w1.cell? ⟨w.heap.size,2,none⟩=some (I lp):=YV.out.a.2 2;have v3:w1.cell? ⟨w.heap.size,3,none⟩=some (.slice R' n1 r):=YV.out.a.2 3;have u0:w1.cell? ⟨w.heap.size+1,0,none⟩=some (I 2):=YV.out.b.2 0;have u1:w1.cell? ⟨w.heap.size+1,1,none⟩=some (I wk):=YV.out.b.2 1;have u2:w1.cell? ⟨w.heap.size+1,2,none⟩=some (I wd):=YV.out.b.2 2;go_wp2_with fail;rw [rounds_succ];go_wp2_with fail;clear v0 v1 v2 v3 u0 u1 u2;have HV:=YV;have hf0:0≤bg+q:=by omega
  have hf1:bg+q≤200000:=by omega
  have lh:=ae hres;clear hres h1 RD hb hb2;generalize bg+q=fs at hf0 hf1 lh ⊢
  go_loopw [12,13,14] (fun c l d wr=>FRel w #[I ep, .slice A' n0 a,I lp, .slice R' n1 r] #[I 2,I wk,I wd,I mi,I of] wd wk fs n res c l d wr) (fun _ _ d _=>((fs+n) - intOf d).toNat)
  case atStart=>exact ⟨0,0, -1,Nat.zero_le _,rfl,rfl,by go_num,by omega,by omega,by omega,by omega,by simpa using lh.out,HV.out⟩
  case round=>
   obtain ⟨j,cn,la,hj,rfl,rfl,rfl,hc0,hc1,hl0,hl1,hsc,hv⟩:=hrel;have HS:=ae hsc;have HW:=ae hv;clear hsc hv HV;have v0:wr.cell? ⟨w.heap.size,0,none⟩=some (I ep):=HW.out.a.2 0;have v1:wr.cell? ⟨w.heap.size,1,none⟩=some (.slice A' n0 a):=HW.out.a.2 1;have v2:wr.cell? ⟨w.heap.size,2,none⟩=some (I lp):=HW.out.a.2 2;have v3:wr.cell? ⟨w.heap.size,3,none⟩=some (.slice R' n1 r):=HW.out.a.2 3;have u0:wr.cell? ⟨w.heap.size+1,0,none⟩=some (I 2):=HW.out.b.2 0;have u1:wr.cell? ⟨w.heap.size+1,1,none⟩=some (I wk):=HW.out.b.2 1;have u2:wr.cell? ⟨w.heap.size+1,2,none⟩=some (I wd):=HW.out.b.2 2;go_wp2_with fail;refine (nJ.out _ HW.out.up).mono ?_;rintro e w3 ⟨rfl,hb3⟩;have HX:=ae (HW.out.below hb3);clear v0 v1 v2 v3 u0 u1 u2 hb3;have u1:w3.cell? ⟨w.heap.size+1,1,none⟩=some (I wk):=HX.out.b.2 1;have u2:w3.cell? ⟨w.heap.size+1,2,none⟩=some (I wd):=HX.out.b.2 2;by_cases hlt:j<n
   ·have hlt':fs+(j:Int)<fs+(n:Int):=by omega
    have yA:Int.tmod (fs+(j:Int)) 7=(fs+(j:Int))%7:=Int.tmod_eq_emod_of_nonneg (by omega);obtain ⟨p,hp⟩:∃p,(fs+(j:Int))%7=p:=⟨_,rfl⟩;rw [hp] at yA;have HP:=ae hp;clear hp;have ht:(p==wd)=true∨(p==wd)=false:=by cases (p==wd)<;>simp
    rcases ht with ht|ht
    ·have hu:(cn+1==wk)=true∨(cn+1==wk)=false:=by cases (cn+1==wk)<;>simp
     have HT:=ae ht;rcases hu with hu|hu
     ·by_cases h5:wk<5
      ·have HU:=ae hu;have H5:=ae h5;have HE:=ae (JQ HS.out hlt (by rw [HP.out];exact HT.out) ⟨by simpa using HU.out,H5.out⟩);go_wp2_with fail;go_ret2;exact ⟨by rw [HE.out];rfl,HX.out.up⟩
      ·have HU:=ae hu;have H5:=ae h5;have HE:=ae (uS HS.out hlt (by rw [HP.out];exact HT.out) (fun h=>H5.out h.2));go_wp2_with fail;go_roundw
       case rel=>exact ⟨j+1,cn+1,fs+j,by omega,by go_num,by go_num,by go_num,by omega,by omega,by omega,by omega,HE.out,HX.out⟩
       case measure=>simp [intOf];omega
     ·have HU:=ae hu;have HE:=ae (uS HS.out hlt (by rw [HP.out];exact HT.out) (fun h=>by have h1:=HU.out;simp [h.1] at h1));go_wp2_with fail;go_roundw
      case rel=>exact ⟨j+1,cn+1,fs+j,by omega,by go_num,by go_num,by go_num,by omega,by omega,by omega,by omega,HE.out,HX.out⟩
      case measure=>simp [intOf];omega
    ·have HT:=ae ht;have HE:=ae (FY HS.out hlt (by rw [HP.out];exact HT.out));go_wp2_with fail;go_roundw
     case rel=>exact ⟨j+1,cn,la,by omega,by go_num,by go_num,by go_num,by omega,by omega,by omega,by omega,HE.out,HX.out⟩
     case measure=>simp [intOf];omega
   ·have hke:j=n:=by omega
    have hnl:¬fs+(j:Int)<fs+(n:Int):=by omega
    have HE:=ae (FZ HS.out (by omega));clear hke hlt;have hk5:(wk==5)=true∨(wk==5)=false:=by cases (wk==5)<;>simp
    rcases hk5 with hk5|hk5
    ·have HK:=ae hk5;go_wp2_with fail;go_ret2;exact ⟨by rw [show res=(la,decide (0≤la)) by rw [HE.out,HK.out];rfl];rfl,HX.out.up⟩
    ·have HK:=ae hk5;go_wp2_with fail;go_ret2;exact ⟨by rw [show res=(la,false) by rw [HE.out,HK.out];rfl];rfl,HX.out.up⟩
def Aw (ts:List Tr) (t:Tr):Nat→Nat
 |0=>0
 |k+1=>if t.at_<(ts[k]?.map (·.at_)).getD 0 then Aw ts t k else k+1
def vJ (ts:List Tr) (t:Tr):List Tr:=ts.take (Aw ts t ts.length)++t::ts.drop (Aw ts t ts.length)
theorem XQ (ts:List Tr) (t:Tr) (k:Nat):Aw ts t k≤k:=by
 induction k with
 |zero=>exact Nat.le_refl _
 |succ k ih=>unfold Aw;split<;>omega
theorem xC (ts:List Tr) (t:Tr):(vJ ts t).length=ts.length+1:=by
 have:=XQ ts t ts.length;simp [vJ];omega
def CW (ts:List Tr) (t:Tr) (k:Nat):List Value:=(ts.take k++t::ts.drop k).flatMap Tr.cells
theorem Um (ts:List Tr) (t:Tr):CW ts t ts.length=ts.flatMap Tr.cells++ [I t.at_,I t.off]:=by
 simp [CW,List.take_length,List.drop_length,Tr.cells]
theorem swap4 (P R:List Value) (q:Nat) (a0 a1 t0 t1:Value) (h:P.length=q*2):
  ((((P++a0::a1::t0::t1::R).set ((q+1)*2) a0).set ((q+1)*2+1) a1).set (q*2) t0).set (q*2+1) t1=P++t0::t1::a0::a1::R:=by
 rw [List.set_append_right _ _ (by omega),List.set_append_right _ _ (by omega),List.set_append_right _ _ (by omega),List.set_append_right _ _ (by omega)];rw [h,show (q+1)*2 - q*2=2 by omega,show (q+1)*2+1 - q*2=3 by omega,show q*2 - q*2=0 by omega,show q*2+1 - q*2=1 by omega];rfl
theorem take_at (ts:List Tr) (q:Nat) (hq:q<ts.length):∃x,ts[q]? =some x∧ts.take (q+1)=ts.take q++ [x]∧ts.drop q=x::ts.drop (q+1):=
 ⟨ts[q],dK hq,by rw [List.take_succ_eq_append_getElem hq],by rw [List.drop_eq_getElem_cons hq]⟩
theorem FD (ts:List Tr) (t x:Tr) (q:Nat) (hq:q<ts.length) (hx:ts[q]? =some x):
  CW ts t (q+1)=(ts.take q).flatMap Tr.cells++I x.at_::I x.off::I t.at_::I t.off::(ts.drop (q+1)).flatMap Tr.cells∧
  CW ts t q=(ts.take q).flatMap Tr.cells++I t.at_::I t.off::I x.at_::I x.off::(ts.drop (q+1)).flatMap Tr.cells∧((ts.take q).flatMap Tr.cells).length=q*2:=by
 obtain ⟨x',h1,h2,h3⟩:=take_at ts q hq;rw [hx] at h1;injection h1 with h1;subst h1;refine ⟨by simp [CW,h2,Tr.cells],by simp [CW,h3,Tr.cells],?_⟩;rw [dP (s:=2) Tr.cells _ (fun _ _=>rfl),List.length_take,Nat.min_eq_left (by omega)]
def iO (lo:Nat) (w:World) (A:Option Addr) (n c:Nat) (ts:List Tr):Prop:=w.ownsRow lo 100 2 (.slice A n c) n (ts.flatMap Tr.cells)
def InsP (lo n:Nat) (w:World) (ts:List Tr) (e:Ending) (w':World):Prop:=∃A c,e= .returned (.slice A n c)∧iO lo w' A n c ts∧Below lo w w'
theorem Tc {lo:Nat} {w w':World} {row:Option Nat} (h:w.grownBy w' row) (hr:∀g,row=some g→lo≤g) (hlo:lo≤w.heap.size):Below lo w w':=
 ⟨h.os,h.tape,h.output,h.size,fun k hk=>h.block k (by omega) (fun e=>by have:=hr k e.symm;omega)⟩
theorem Ko {lo:Nat} {w:World} {A:Option Addr} {n c:Nat} {ts:List Tr} (h:iO lo w A n c ts):∀g,(Value.slice A n c).ownBlock=some g→lo≤g:=fun g hg=>(World.ownsRow.lt h g hg).1
structure InR (lo:Nat) (W:World) (g c n:Nat) (ts:List Tr) (t:Tr) (k:Nat) (wr:World):Prop where
 own:wr.ownsRow lo 100 2 (.slice (some ⟨g,0,none⟩) (n+1) c) (n+1) (CW ts t k)
 up:Below lo W wr
theorem U7 (w:World) (o:Obj) (a b:Value) (t:TypeId):∀j u,[a,b][j]? =some u→((w.alloc o).alloc (.cells #[a,b] t)).cell? ((⟨w.heap.size+1,0,none⟩:Addr).add j)=some u:=by
 have h:=cell_two_new (w.alloc o) a b t;simpa using h
def InRel (lo:Nat) (W:World) (g c n:Nat) (ts:List Tr) (t:Tr) (i:Value) (wr:World):Prop:=∃k:Nat,k≤n∧i= .int .i64 k∧Aw ts t k=Aw ts t n∧InR lo W g c n ts t k wr
theorem InR.swap {lo g c n q:Nat} {W W2:World} {ts:List Tr} {Bf Ec yB VM:Int} (h:InR lo W g c n ts ⟨Bf,Ec⟩ (q+1) W2) (hlo:lo≤W.heap.size) (hq:q<ts.length) (hx:ts[q]? =some ⟨yB,VM⟩) (o:Obj):
  InR lo W g c n ts ⟨Bf,Ec⟩ q (((((W2.setCell ⟨g,(q+1)*2,none⟩ (I yB)).setCell ⟨g,(q+1)*2+1,none⟩ (I VM)).setCell ⟨g,q*2,none⟩ (I Bf)).setCell ⟨g,q*2+1,none⟩ (I Ec)).alloc o):=by
 obtain ⟨s1,s2,s3⟩:=FD ts ⟨Bf,Ec⟩ ⟨yB,VM⟩ q hq hx;have h1:=(((((((h.own.stored ((q+1)*2) (I yB)).1.stored ((q+1)*2+1) (I VM)).1).stored (q*2) (I Bf)).1).stored (q*2+1) (I Ec)).1).alloc o;have hg:lo≤g:=(World.ownsRow.lt h.own g rfl).1;refine ⟨?_,((((h.up.setCell (p:=⟨g,(q+1)*2,none⟩) hg _).setCell (p:=⟨g,(q+1)*2+1,none⟩) hg _).setCell (p:=⟨g,q*2,none⟩) hg _).setCell (p:=⟨g,q*2+1,none⟩) hg _).alloc (Nat.le_trans hlo (by have:=h.up.size;simpa using this)) o⟩;rw [s1,swap4 _ _ _ _ _ _ _ s3,←s2] at h1;exact h1
theorem XP {ts:List Tr} {t x:Tr} {q:Nat} (hx:ts[q]? =some x) (h:t.at_<x.at_):Aw ts t (q+1)=Aw ts t q:=by
 rw [Aw,hx,if_pos (by simpa using h)]
theorem Qr {ts:List Tr} {t x:Tr} {q:Nat} (hx:ts[q]? =some x) (h:¬t.at_<x.at_):Aw ts t (q+1)=q+1:=by
 rw [Aw,hx,if_neg (by simpa using h)]
theorem wG (lo n c:Nat) (A:Option Addr) (ts:List Tr) (t:Tr) (w:World) (hn:ts.length=n) (hn1:n≤1000) (hlo:lo≤w.heap.size) (hO:iO lo w A n c ts):
  Calls Tryz.prog 112 #[.slice A n c, .agg #[I t.at_,I t.off]] w (InsP lo (n+1) w (vJ ts t)):=by
 obtain ⟨Bf,Ec⟩:=t;simp only;have HN:=ae hn;have HO:=ae (World.ownsRow.alloc (World.ownsRow.alloc hO (.cells #[I Bf,I Ec] 100)) (.cells #[I Bf,I Ec] 100));have HB:=ae (ah (ag w (.cells #[I Bf,I Ec] 100)) (ag _ (.cells #[I Bf,I Ec] 100)));have HBA:=ae (Ko hO);obtain ⟨i0,hi,hz0,hz1,hz2⟩:=info_parts xB;have HI:=ae hi;have HZ0:=ae hz0;have HZ1:=ae hz1;have HZ2:=ae hz2;clear hn hO hi hz0 hz1 hz2;go_enter Tryz.func112,Tryz.ntmps112;go_wp2_with (at_builtin;go_must (refine wpList_append_own_at _ rfl _ _ 48 rfl lo 100 i0 (.agg #[I 0,I 0]) 2 16 Tryz.underlying48 HI.out HZ0.out HZ1.out HZ2.out rfl (by decide) _ n (ts.flatMap Tr.cells) rfl HO.out _ 1 1 [I Bf,I Ec] rfl rfl (U7 _ _ _ _ _) (wP ⟨Bf,Ec⟩) (by unfold maxLen;omega) (by omega) (by simp;omega) ?_));intro v' w1 hown hg _ _;obtain ⟨g,cp,rfl⟩:=ownsRow_succ hown;have HR:Hid (InR lo w g cp n ts ⟨Bf,Ec⟩ n w1):=ae ⟨by rw [←HN.out,Um,HN.out];exact hown,(HB.out.mono hlo).trans (Tc hg HBA.out (by simp;omega))⟩;clear hown hg HB HO HBA;go_wp2_with fail
 go_loopw [6] (fun i wr=>InRel lo w g cp n ts ⟨Bf,Ec⟩ i wr) (fun i _=>(intOf i).toNat)
 case atStart=>exact ⟨n,Nat.le_refl _,by go_num,rfl,HR.out⟩
 case round=>
  obtain ⟨k,hk,rfl,hp,hr⟩:=hrel;have HP:=ae hp;have HQ:=ae hr;clear hp hr HR;cases k with
  |zero=>
   go_wp2_with fail;go_quiet (fail);go_wp2_with fail;go_ret;refine ⟨_,_,rfl,?_,HQ.out.up.trans ((below_drewN' wr nq).mono (Nat.le_trans hlo HQ.out.up.size))⟩;have h1:=HP.out;have h2:=HQ.out.own;show (wr.drewN nq).ownsRow _ _ _ _ _ _;have h3:(vJ ts ⟨Bf,Ec⟩).flatMap Tr.cells=CW ts ⟨Bf,Ec⟩ 0:=by
    unfold vJ CW;rw [HN.out,←h1];rfl
   rw [h3];exact h2
  |succ q=>
   have hq:q<n:=by omega
   obtain ⟨x,hx, -, -⟩:=take_at ts q (by rw [HN.out];exact hq);obtain ⟨s1,s2,s3⟩:=FD ts ⟨Bf,Ec⟩ x q (by rw [HN.out];exact hq) hx;have HX:=ae hx;have HS:=ae (And.intro s1 (And.intro s2 s3));have hcl:=fun j hj=>(HQ.out.own.cellAt j hj).trans (by rw [s1]);have c0:wr.cell? ⟨g,q*2,none⟩=some (I x.at_):=(hcl _ (by omega)).trans (by rw [List.getElem?_append_right (by omega),s3,Nat.sub_self];rfl);have c1:wr.cell? ⟨g,q*2+1,none⟩=some (I x.off):=(hcl _ (by omega)).trans (by rw [List.getElem?_append_right (by omega),s3,show q*2+1 - q*2=1 by omega];rfl);have c2:wr.cell? ⟨g,(q+1)*2,none⟩=some (I Bf):=(hcl _ (by omega)).trans (by rw [List.getElem?_append_right (by omega),s3,show (q+1)*2 - q*2=2 by omega];rfl);have c3:wr.cell? ⟨g,(q+1)*2+1,none⟩=some (I Ec):=(hcl _ (by omega)).trans (by rw [List.getElem?_append_right (by omega),s3,show (q+1)*2+1 - q*2=3 by omega];rfl);have f0:∀j,wr.frozen? ⟨g,j,none⟩=false:=fun j=>HQ.out.own.frozenAt j;clear hx s1 s2 s3 hcl;obtain ⟨yB,VM⟩:=x;simp only at c0 c1;have i0:(0:Int)<((q+1:Nat):Int):=by omega
   have i1:((q+1:Nat):Int) - 1=(q:Int):=by omega
   have i2:(q:Int)<(n:Int)+1:=by omega
   have i3:((q+1:Nat):Int)<(n:Int)+1:=by omega
   by_cases hlt:Bf<yB
   ·go_wp2_with fail;go_quiet (fail);have jr:Hid (InR lo w g cp n ts ⟨Bf,Ec⟩ (q+1) (wr.drewN nq)):=ae ⟨HQ.out.own,HQ.out.up.trans ((below_drewN' wr nq).mono (Nat.le_trans hlo HQ.out.up.size))⟩;have d0:(wr.drewN nq).cell? ⟨g,q*2,none⟩=some (I yB):=c0;have d1:(wr.drewN nq).cell? ⟨g,q*2+1,none⟩=some (I VM):=c1;have d2:(wr.drewN nq).cell? ⟨g,(q+1)*2,none⟩=some (I Bf):=c2;have d3:(wr.drewN nq).cell? ⟨g,(q+1)*2+1,none⟩=some (I Ec):=c3;have g0:∀j,(wr.drewN nq).frozen? ⟨g,j,none⟩=false:=f0;have hgl:g<(wr.drewN nq).heap.size:=(World.ownsRow.lt HQ.out.own g rfl).2;clear c0 c1 c2 c3 f0;generalize wr.drewN nq=W2 at jr d0 d1 d2 d3 g0 hgl ⊢;clear HQ;go_wp2_with fail;go_roundw
    case rel=>exact ⟨q,by omega,by go_num,(XP HX.out hlt).symm.trans HP.out,jr.out.swap hlo (by rw [HN.out];exact hq) HX.out _⟩
    case measure=>simp [intOf]
   ·go_wp2_with fail;go_quiet (fail);go_wp2_with fail;go_ret;refine ⟨_,_,rfl,?_,HQ.out.up.trans ((below_drewN' wr nq).mono (Nat.le_trans hlo HQ.out.up.size))⟩;have h1:=HP.out;rw [Qr HX.out (by show¬Bf<yB;omega)] at h1;have h2:=HQ.out.own;show (wr.drewN nq).ownsRow _ _ _ _ _ _;have h3:(vJ ts ⟨Bf,Ec⟩).flatMap Tr.cells=CW ts ⟨Bf,Ec⟩ (q+1):=by
     unfold vJ CW;rw [HN.out,←h1]
    rw [h3];exact h2
def oq (lo:Nat) (w:World) (A:Option Addr) (n c:Nat) (bs:List UInt8):Prop:=w.ownsRow lo 5 1 (.slice A n c) n (bs.map Extern.Stop.cell)
structure uM (v:Value) (w:World) (v':Value) (w':World):Prop where
 os:w'.os=w.os
 tape:w'.tape=w.tape
 output:w'.output=w.output
 size:w.heap.size≤w'.heap.size
 block:∀k,k<w.heap.size→some k≠v.ownBlock→w'.heap[k]? =w.heap[k]?
 own:v'.ownBlock=v.ownBlock∨∃b,v'.ownBlock=some b∧w.heap.size≤b
theorem uM.refl (v:Value) (w:World):uM v w v w:=⟨rfl,rfl,rfl,Nat.le_refl _,fun _ _ _=>rfl, .inl rfl⟩
theorem uM.trans {v v1 v2:Value} {w w1 w2:World} (h:uM v w v1 w1) (k:uM v1 w1 v2 w2):uM v w v2 w2:=by
 refine ⟨k.os.trans h.os,k.tape.trans h.tape,k.output.trans h.output,Nat.le_trans h.size k.size,fun b hb hv=>?_,?_⟩
 ·refine (k.block b (dS hb h.size) ?_).trans (h.block b hb hv);rcases h.own with e|⟨b1,e,hb1⟩
  ·rw [e];exact hv
  ·rw [e];intro h';injection h' with h';omega
 ·rcases k.own with e|⟨b,e,hb⟩
  ·rcases h.own with e1|⟨b1,e1,hb1⟩
   ·exact .inl (e.trans e1)
   ·exact .inr ⟨b1,e.trans e1,hb1⟩
  ·exact .inr ⟨b,e,Nat.le_trans h.size hb⟩
theorem uM.below {v v':Value} {w w' w2:World} (h:uM v w v' w') (hb:Below w'.heap.size w' w2):uM v w v' w2:=
 ⟨hb.os.trans h.os,hb.tape.trans h.tape,hb.output.trans h.output,Nat.le_trans h.size hb.size,fun k hk hv=>(hb.block k (dS hk h.size)).trans (h.block k hk hv),h.own⟩
theorem uM.app {w w3:World} {v v':Value} {o:Obj} (hg:(w.alloc o).grownBy w3 v.ownBlock) (hat:v'.ownBlock=v.ownBlock∨v'.ownBlock=some (w.alloc o).heap.size):uM v w v' w3:=
 ⟨hg.os,hg.tape,hg.output,Nat.le_trans (by simp) hg.size,fun k hk hv=>(hg.block k (by simp;omega) hv).trans (Below.heap_alloc w o k hk),hat.elim .inl fun e=> .inr ⟨_,e,by simp⟩⟩
theorem uM.xE {lo:Nat} {v v':Value} {w w':World} (h:uM v w v' w') (hv:∀g,v.ownBlock=some g→lo≤g) (hlo:lo≤w.heap.size):Below lo w w':=
 ⟨h.os,h.tape,h.output,h.size,fun k hk=>h.block k (by omega) (fun e=>by have:=hv k e.symm;omega)⟩
def ZC (lo:Nat) (v:Value) (w:World) (bs:List UInt8) (e:Ending) (w':World):Prop:=∃A n c,bs.length=n∧e= .returned (.slice A n c)∧oq lo w' A n c bs∧uM v w (.slice A n c) w'
theorem oq.base {lo n c:Nat} {w:World} {A:Option Addr} {bs:List UInt8} (h:oq lo w A n c bs):∀g,(Value.slice A n c).ownBlock=some g→lo≤g:=fun g hg=>(World.ownsRow.lt h g hg).1
theorem oq.below {lo n c:Nat} {w w':World} {A:Option Addr} {bs:List UInt8} (h:oq lo w A n c bs) (hb:Below w.heap.size w w'):oq lo w' A n c bs:=
 World.ownsRow.kept (row:=none) h ⟨hb.os,hb.tape,hb.output,hb.size,fun k hk _=>hb.block k hk⟩ (by cases (Value.slice A n c).ownBlock<;>simp)
theorem oq.lower {lo lo' n c:Nat} {w:World} {A:Option Addr} {bs:List UInt8} (h:oq lo w A n c bs) (hl:lo'≤lo):oq lo' w A n c bs:=by
 rcases h.2 with h2|⟨g,cap,cur,h1,h2,h3⟩
 ·exact ⟨h.1, .inl h2⟩
 ·exact ⟨h.1, .inr ⟨g,cap,cur,h1,Nat.le_trans hl h2,h3⟩⟩
theorem P6 (z:Int) (j:Nat) (hj:j<8):Value.int .u8 (IntKind.u64.wrap z / 2 ^ (8*j)%256)=Extern.Stop.cell (byteOf (kQ z j)):=by
 rw [fE];have h:j=0∨j=1∨j=2∨j=3∨j=4∨j=5∨j=6∨j=7:=by omega
 congr 1;rw [show IntKind.u64.wrap z=z%18446744073709551616 by simp [IntKind.wrap,IntKind.bits,IntKind.signed]];rcases h with rfl|rfl|rfl|rfl|rfl|rfl|rfl|rfl<;>simp only [kQ]
 ·show z%18446744073709551616 / 1%256=_;omega
 ·show z%18446744073709551616 / 256%256=_;omega
 ·show z%18446744073709551616 / 65536%256=_;omega
 ·show z%18446744073709551616 / 16777216%256=_;omega
 ·show z%18446744073709551616 / 4294967296%256=_;omega
 ·show z%18446744073709551616 / 1099511627776%256=_;omega
 ·show z%18446744073709551616 / 281474976710656%256=_;omega
 ·show z%18446744073709551616 / 72057594037927936%256=_;omega
theorem wQ (x:Int):∀u∈ [Value.int .u8 x],u.oneCell'=true:=fun u hu=>by rw [List.mem_singleton.1 hu];rfl
def OC (b:Bool):Int:=if b=true then 1 else 0
def NRel (lo:Nat) (v:Value) (w:World) (bs:List UInt8) (z:Int) (s:Nat) (b i:Value) (wr:World):Prop:=
 ∃(k n c:Nat) (A:Option Addr),k≤s∧b= .slice A n c∧i= .int .i64 k∧(bs++le z k).length=n∧oq lo wr A n c (bs++le z k)∧uM v w (.slice A n c) wr
theorem eF (lo n c s:Nat) (A:Option Addr) (bs:List UInt8) (z:Int) (w:World) (hl:bs.length=n) (hn:n≤1000000) (hs:s≤8) (hz:fits z) (hlo:lo≤w.heap.size) (hO:oq lo w A n c bs):
  Calls Tryz.prog 68 #[.slice A n c,I z,I s] w (ZC lo (.slice A n c) w (bs++le z s)):=by
 obtain ⟨i0,hi,hz0,hz1,hz2⟩:=info_parts lZ;have HI:=ae hi;have HZ0:=ae hz0;have HZ1:=ae hz1;have HZ2:=ae hz2;have HO:=ae hO;have HL:=ae hl;have HFZ:=ae hz;clear hi hz0 hz1 hz2 hO hl hz;go_enter Tryz.func68,Tryz.ntmps68;go_wp2_with fail
 go_loopw [0,8] (fun b i wr=>NRel lo (.slice A n c) w bs z s b i wr) (fun _ i _=>s - (intOf i).toNat)
 case atStart=>exact ⟨0,n,c,A,Nat.zero_le _,rfl,by go_num,by simpa [le] using HL.out,by simpa [le] using HO.out,uM.refl _ _⟩
 case round=>
  obtain ⟨k,n2,c2,A2,hk,rfl,rfl,hl2,ho2,hb2⟩:=hrel;have HB2:=ae hb2;have hsz:lo≤wr.heap.size:=Nat.le_trans hlo hb2.size;have hn2:n2≤1000008:=by rw [←hl2,bF,aA,HL.out];omega
  by_cases hlt:(k:Int)<(s:Int)
  ·have Bz:=ae (P6 z k (by omega));have N9:=ae (World.ownsRow.alloc ho2 (.cells #[Value.int .u8 (IntKind.u64.wrap z / 2 ^ (8*k)%256)] 5));have HL2:=ae hl2;obtain ⟨b2,hbb2⟩:∃b,bs++le z k=b:=⟨_,rfl⟩;rw [hbb2] at N9 HL2;have ZM:=ae hbb2;clear hb2 ho2 hl2 hbb2;go_wp2_with (at_builtin;go_must (refine wpList_append_own_at _ rfl _ _ 22 rfl lo 5 i0 (.int .u8 0) 1 1 Tryz.underlying22 HI.out HZ0.out HZ1.out HZ2.out rfl (by decide) _ n2 (b2.map Extern.Stop.cell) rfl N9.out _ 1 1 [Value.int .u8 (IntKind.u64.wrap z / 2 ^ (8*k)%256)] rfl rfl (cell_one_new _ _ _) (wQ _) (by unfold maxLen;omega) (by omega) (by simp;omega) ?_));intro v' w3 hown hg _ hat;have HW3:=ae (HB2.out.trans (uM.app hg (hat.imp id fun e=>e.trans (by simp))));obtain ⟨A',c',rfl⟩:=fC hown;have HOW:Hid (oq lo w3 A' (n2+1) c' (bs++le z (k+1))):=ae (by
    unfold oq;rw [GX,←List.append_assoc,ZM.out,List.map_append];show World.ownsRow _ _ _ _ _ _ (_++ [Extern.Stop.cell _]);rw [←Bz.out];exact hown)
   clear hown hg hat;go_wp2_with fail;go_roundw
   case rel=>exact ⟨k+1,n2+1,c',A',by omega,rfl,by go_num,by have:=HL2.out;rw [←ZM.out] at this;rw [GX,←List.append_assoc,bF,this];rfl,HOW.out,HW3.out⟩
   case measure=>simp [intOf];omega
  ·have HKS:Hid (k=s):=ae (by omega);have mJ:=ae ho2;have HL2:=ae hl2;clear ho2 hl2 hb2;go_wp2_with fail;go_ret;exact ⟨_,n2,_,by rw [←HKS.out];exact HL2.out,rfl,by rw [←HKS.out];exact mJ.out,HB2.out⟩
theorem flag_r (b:Bool) (w:World):Calls Tryz.prog 106 #[.bool b] w fun e w'=>e= .returned (I (OC b))∧w'=w:=by
 cases b
 all_goals
  go_enter Tryz.func106,Tryz.ntmps106;go_wp2_with fail;go_ret;exact ⟨rfl,rfl⟩
end Go.Proofs.YtdibbemgpikgjaaGreat
