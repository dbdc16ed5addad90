/- The texts Kb, Kc, in this order. -/
import Derived.Test.YtdibbemgpikgjaaGreatZ00
import Derived.Test.YtdibbemgpikgjaaGreatZ10
import Derived.Test.YtdibbemgpikgjaaGreatZ13
set_option maxRecDepth 10000
set_option maxHeartbeats 8000000
namespace Go.Proofs.YtdibbemgpikgjaaGreat
open Go Go.RowKit
def GZ (d:Int):Int:=if d%7=0 then d else 7*d
def dL (z:Zn):Int:=match z.ay with| []=>1|_::_=>GZ (qC z.cal)
theorem EI (c:Cal) (hc:gG c):0≤qC c∧qC c≤200:=by
 have h1:=jF c 1 hc;have h2:=jF c 2 hc;unfold qC;split<;>omega
theorem jS.alloc {w W:World} {cs:Array Value} (h:jS w cs W) (o:Obj):jS w cs (W.alloc o):=h.grow (ag W o)
theorem BM (z:Zn) (s:Zs) (w:World) (hc:gG z.cal) (h:gW w w.heap.size s z):Calls Tryz.prog 97 #[.agg (aj z s)] w (Gives (I (dL z)) w):=by
 have rE:Hid (∀W,Below w.heap.size w W→Calls Tryz.prog 114 #[.agg (aF z.cal s.A s.a s.B s.b)] W (Gives (.tuple #[I (qE z.cal),I (qC z.cal), .int .i64 0]) W)):=ae fun W hb=>UD z.cal s.A s.B s.a s.b W hc ⟨h.au.grow hb,h.rules.grow hb⟩;have hbd:=EI z.cal hc;obtain ⟨⟨ep,mo,lp,ru⟩,st,tr,ho,yr⟩:=z;obtain ⟨A,a,R,r,C,c,D,d⟩:=s;unfold aF at rE;unfold aj dL;simp only at rE hbd ⊢;obtain ⟨q,hq⟩:∃q,qC ⟨ep,mo,lp,ru⟩=q:=⟨_,rfl⟩;rw [hq] at rE hbd ⊢;obtain ⟨y,hy⟩:∃y,qE ⟨ep,mo,lp,ru⟩=y:=⟨_,rfl⟩;rw [hy] at rE;obtain ⟨n0,hn0⟩:∃n,mo.length=n:=⟨_,rfl⟩;obtain ⟨n1,hn1⟩:∃n,ru.length=n:=⟨_,rfl⟩;obtain ⟨n2,hn2⟩:∃n,tr.length=n:=⟨_,rfl⟩;rw [hn0,hn1] at rE ⊢;rw [hn2];clear hc h hq hy hn0 hn1 hn2;cases yr with
 |nil=>
  go_enter Tryz.func97,Tryz.ntmps97;go_wp2_with fail;go_ret;exact ⟨rfl,ag w _⟩
 |cons y1 ys=>
  obtain ⟨m,hm⟩:∃m,(y1::ys).length=m:=⟨_,rfl⟩;have hm0:((m:Int)==0)=false:=by rw [←hm];simp;omega
  rw [hm];clear hm;have CY:q.tmod 7=q%7:=Int.tmod_eq_emod_of_nonneg hbd.1;have HV:=ae (jS.start w #[I ep, .slice A n0 a,I lp, .slice R n1 r,I st, .slice C n2 c,I ho, .slice D m d] 51);obtain ⟨V,hV⟩:∃V,GZ q=V:=⟨_,rfl⟩;rw [hV];have Ws:=ae hV;clear hV;obtain ⟨p,hp⟩:∃p,q%7=p:=⟨_,rfl⟩;rw [hp] at CY;have HP:=ae hp;clear hp;have ht:(p !=0)=true∨(p !=0)=false:=by cases (p !=0)<;>simp
  rcases ht with ht|ht
  all_goals
   have HT:=ae ht;go_enter Tryz.func97,Tryz.ntmps97;go_wp2_with fail;refine (rE.out _ HV.out.up).mono ?_;rintro e w1 ⟨rfl,hb1⟩;have HW:=ae (HV.out.grow hb1);clear hb1;go_wp2_with fail;go_ret;exact ⟨by rw [←Ws.out];have h1:=HT.out;have h2:=HP.out;simp at h1;simp [GZ,h1,h2],HW.out.up⟩
def gY (wd wk:Int):Nat→Int→Int→Int→Int×Bool
 |0,_,_,last=>(last,wk==5&&decide (0≤last))
 |n+1,d,cn,last=>if d%7=wd then (if cn+1=wk∧wk<5 then (d,true) else gY wd wk n (d+1) (cn+1) d) else gY wd wk n (d+1) cn last
def nZ (c:Cal) (bg y mo:Int):Int:=if mo=2 then bg+dw c y 1 else bg
def findF (c:Cal) (bg y:Int) (r:Yr):Int×Bool:=gY r.cZ r.bZ (dw c y r.month).toNat (nZ c bg y r.month) 0 (-1)
theorem jV (c:Cal) (y m:Int) (hc:gG c) (hm:m=1∨m=2):0≤dw c y m∧dw c y m≤9:=by
 obtain ⟨ep,m0,m1,lp,rs,rfl,b1,b2,b3,b4,_⟩:=hc.form;rcases hm with rfl|rfl
 ·show 0≤m0+_∧m0+_≤9;split<;>omega
 ·show 0≤m1+_∧m1+_≤9;split<;>omega
theorem oK.xJ (w:World) (t t1 t2:TypeId) (us vs:Array Value):oK w t us vs ((w.alloc (.cells us t1)).alloc (.cells vs t2)):=
 ⟨Row.lh (heap_alloc2_old w _ _),Row.lh (heap_alloc2_new w _ _),ah (ag w _) (ag _ _)⟩
def FRel (w:World) (us vs:Array Value) (wd wk fs:Int) (n:Nat) (res:Int×Bool) (c l d:Value) (wr:World):Prop:=
 ∃j:Nat,∃cn la:Int,j≤n∧c= .int .i64 cn∧l= .int .i64 la∧d= .int .i64 (fs+j)∧0≤cn∧cn≤j∧ -1≤la∧la≤fs+j∧gY wd wk (n - j) (fs+j) cn la=res∧oK w 0 us vs wr
theorem Ea {wd wk:Int} {n j:Nat} {d cn la:Int} {res:Int×Bool} (h:gY wd wk (n - j) d cn la=res) (hj:n≤j):res=(la,wk==5&&decide (0≤la)):=by
 rw [Nat.sub_eq_zero_of_le hj] at h;exact h.symm
theorem D9 {wd wk fs:Int} {n j:Nat} {cn la:Int} {res:Int×Bool} (h:gY wd wk (n - j) (fs+j) cn la=res) (hj:j<n) (ht:((fs+j)%7==wd)=false):gY wd wk (n - (j+1)) (fs+((j+1:Nat):Int)) cn la=res:=by
 rw [show n - j=(n - (j+1))+1 by omega,gY,if_neg (by simpa using ht)] at h;rw [show fs+((j+1:Nat):Int)=fs+(j:Int)+1 by omega];exact h
theorem Ic {wd wk fs:Int} {n j:Nat} {cn la:Int} {res:Int×Bool} (h:gY wd wk (n - j) (fs+j) cn la=res) (hj:j<n) (ht:((fs+j)%7==wd)=true) (hu:cn+1=wk∧wk<5):res=(fs+j,true):=by
 rw [show n - j=(n - (j+1))+1 by omega,gY,if_pos (by simpa using ht),if_pos hu] at h;exact h.symm
theorem tN {wd wk fs:Int} {n j:Nat} {cn la:Int} {res:Int×Bool} (h:gY wd wk (n - j) (fs+j) cn la=res) (hj:j<n) (ht:((fs+j)%7==wd)=true) (hu:¬(cn+1=wk∧wk<5)):gY wd wk (n - (j+1)) (fs+((j+1:Nat):Int)) (cn+1) (fs+j)=res:=by
 rw [show n - j=(n - (j+1))+1 by omega,gY,if_pos (by simpa using ht),if_neg hu] at h;rw [show fs+((j+1:Nat):Int)=fs+(j:Int)+1 by omega];exact h
theorem Qw (c:Cal) (A R:Option Addr) (a r:Nat) (bg y:Int) (x:Yr) (w:World) (hc:gG c) (h:nN w w.heap.size A R c) (hb:0≤bg) (hb2:bg≤100000) (hy:0≤y) (hm:x.month=1∨x.month=2):
  Calls Tryz.prog 111 #[.agg (aF c A a R r),I bg,I y, .agg #[I x.month,I x.bZ,I x.cZ,I x.minute,I x.off]] w (Gives (.tuple #[I (findF c bg y x).1, .bool (findF c bg y x).2]) w):=by
 obtain ⟨mo,wk,wd,mi,of⟩:=x;simp only at hm ⊢;have IY:Hid (∀W,Below w.heap.size w W→Calls Tryz.prog 127 #[.agg (aF c A a R r),I y,I 1] W (Gives (I (dw c y 1)) W)):=ae fun W hb=>DW _ A R a r y 1 W hc (h.grow hb) hy (.inl rfl);have kD:Hid (∀W,Below w.heap.size w W→Calls Tryz.prog 127 #[.agg (aF c A a R r),I y,I mo] W (Gives (I (dw c y mo)) W)):=ae fun W hb=>DW _ A R a r y mo W hc (h.grow hb) hy hm;have h1:=jV c y 1 hc (.inl rfl);have h2:=jV c y mo hc hm;obtain ⟨res,hres⟩:∃res,findF c bg y ⟨mo,wk,wd,mi,of⟩=res:=⟨_,rfl⟩;rw [hres];unfold findF nZ at hres;simp only at hres;obtain ⟨q,hq⟩:∃q,dw c y 1=q:=⟨_,rfl⟩;rw [hq] at IY h1 hres;obtain ⟨n,hn⟩:∃n:Nat,dw c y mo=n:=⟨(dw c y mo).toNat,by omega⟩;rw [hn] at kD h2 hres;rw [Int.toNat_natCast] at hres;obtain ⟨ep,lp,A',R',n0,n1,hcs⟩:∃ep lp,∃A' R':Option Addr,∃n m:Nat,aF c A a R r= #[I ep, .slice A' n a,I lp, .slice R' m r]:=⟨_,_,_,_,_,_,rfl⟩;rw [hcs] at IY kD ⊢;clear hcs hn hq hc h hy;have hn9:n≤9:=by omega
 clear h2;rcases hm with rfl|rfl
 ·have HV:=ae (oK.xJ w 0 47 130 #[I ep, .slice A' n0 a,I lp, .slice R' n1 r] #[I 1,I wk,I wd,I mi,I of]);go_enter Tryz.func111,Tryz.ntmps111;go_wp2_with fail;generalize (w.alloc (.cells #[I ep, .slice A' n0 a,I lp, .slice R' n1 r] 47)).alloc (.cells #[I 1,I wk,I wd,I mi,I of] 130)=W0 at HV ⊢;have v0:W0.cell? ⟨w.heap.size,0,none⟩=some (I ep):=HV.out.a.2 0;have v1:W0.cell? ⟨w.heap.size,1,none⟩=some (.slice A' n0 a):=HV.out.a.2 1;have v2:W0.cell? ⟨w.heap.size,2,none⟩=some (I lp):=HV.out.a.2 2;have v3:W0.cell? ⟨w.heap.size,3,none⟩=some (.slice R' n1 r):=HV.out.a.2 3;have u0:W0.cell? ⟨w.heap.size+1,0,none⟩=some (I 1):=HV.out.b.2 0;have u1:W0.cell? ⟨w.heap.size+1,1,none⟩=some (I wk):=HV.out.b.2 1;have u2:W0.cell? ⟨w.heap.size+1,2,none⟩=some (I wd):=HV.out.b.2 2;rw [if_neg (by omega)] at hres;have jG:=ae hres;clear hres h1 IY;refine wp_loop_rounds 1 ?_;rw [rounds_succ];go_wp2_with fail;clear v0 v1 v2 v3 u0 u1 u2;have hf0:=hb;have hf1:bg≤200000:=by omega
  clear hb hb2
  go_loopw [12,13,14] (fun c l d wr=>FRel w #[I ep, .slice A' n0 a,I lp, .slice R' n1 r] #[I 1,I wk,I wd,I mi,I of] wd wk bg n res c l d wr) (fun _ _ d _=>((bg+n) - intOf d).toNat)
  case atStart=>exact ⟨0,0, -1,Nat.zero_le _,rfl,rfl,by go_num,by omega,by omega,by omega,by omega,by simpa using jG.out,HV.out⟩
  case round=>
   obtain ⟨j,cn,la,hj,rfl,rfl,rfl,hc0,hc1,hl0,hl1,hsc,hv⟩:=hrel;have HS:=ae hsc;have HW:=ae hv;clear hsc hv HV;have v0:wr.cell? ⟨w.heap.size,0,none⟩=some (I ep):=HW.out.a.2 0;have v1:wr.cell? ⟨w.heap.size,1,none⟩=some (.slice A' n0 a):=HW.out.a.2 1;have v2:wr.cell? ⟨w.heap.size,2,none⟩=some (I lp):=HW.out.a.2 2;have v3:wr.cell? ⟨w.heap.size,3,none⟩=some (.slice R' n1 r):=HW.out.a.2 3;have u0:wr.cell? ⟨w.heap.size+1,0,none⟩=some (I 1):=HW.out.b.2 0;have u1:wr.cell? ⟨w.heap.size+1,1,none⟩=some (I wk):=HW.out.b.2 1;have u2:wr.cell? ⟨w.heap.size+1,2,none⟩=some (I wd):=HW.out.b.2 2;go_wp2_with fail;refine (kD.out _ HW.out.up).mono ?_;rintro e w3 ⟨rfl,hb3⟩;have HX:=ae (HW.out.below hb3);clear v0 v1 v2 v3 u0 u1 u2 hb3;have u1:w3.cell? ⟨w.heap.size+1,1,none⟩=some (I wk):=HX.out.b.2 1;have u2:w3.cell? ⟨w.heap.size+1,2,none⟩=some (I wd):=HX.out.b.2 2;by_cases hlt:j<n
   ·have hlt':bg+(j:Int)<bg+(n:Int):=by omega
    have CY:Int.tmod (bg+(j:Int)) 7=(bg+(j:Int))%7:=Int.tmod_eq_emod_of_nonneg (by omega);obtain ⟨p,hp⟩:∃p,(bg+(j:Int))%7=p:=⟨_,rfl⟩;rw [hp] at CY;have HP:=ae hp;clear hp;have ht:(p==wd)=true∨(p==wd)=false:=by cases (p==wd)<;>simp
    rcases ht with ht|ht
    ·have hu:(cn+1==wk)=true∨(cn+1==wk)=false:=by cases (cn+1==wk)<;>simp
     have HT:=ae ht;rcases hu with hu|hu
     ·by_cases h5:wk<5
      ·have HU:=ae hu;have H5:=ae h5;have HE:=ae (Ic HS.out hlt (by rw [HP.out];exact HT.out) ⟨by simpa using HU.out,H5.out⟩);go_wp2_with fail;go_ret2;exact ⟨by rw [HE.out];rfl,HX.out.up⟩
      ·have HU:=ae hu;have H5:=ae h5;have HE:=ae (tN HS.out hlt (by rw [HP.out];exact HT.out) (fun h=>H5.out h.2));go_wp2_with fail;go_roundw
       case rel=>exact ⟨j+1,cn+1,bg+j,by omega,by go_num,by go_num,by go_num,by omega,by omega,by omega,by omega,HE.out,HX.out⟩
       case measure=>simp [intOf];omega
     ·have HU:=ae hu;have HE:=ae (tN HS.out hlt (by rw [HP.out];exact HT.out) (fun h=>by have h1:=HU.out;simp [h.1] at h1));go_wp2_with fail;go_roundw
      case rel=>exact ⟨j+1,cn+1,bg+j,by omega,by go_num,by go_num,by go_num,by omega,by omega,by omega,by omega,HE.out,HX.out⟩
      case measure=>simp [intOf];omega
    ·have HT:=ae ht;have HE:=ae (D9 HS.out hlt (by rw [HP.out];exact HT.out));go_wp2_with fail;go_roundw
     case rel=>exact ⟨j+1,cn,la,by omega,by go_num,by go_num,by go_num,by omega,by omega,by omega,by omega,HE.out,HX.out⟩
     case measure=>simp [intOf];omega
   ·have hke:j=n:=by omega
    have hnl:¬bg+(j:Int)<bg+(n:Int):=by omega
    have HE:=ae (Ea HS.out (by omega));clear hke hlt;have hk5:(wk==5)=true∨(wk==5)=false:=by cases (wk==5)<;>simp
    rcases hk5 with hk5|hk5
    ·have HK:=ae hk5;go_wp2_with fail;go_ret2;exact ⟨by rw [show res=(la,decide (0≤la)) by rw [HE.out,HK.out];rfl];rfl,HX.out.up⟩
    ·have HK:=ae hk5;go_wp2_with fail;go_ret2;exact ⟨by rw [show res=(la,false) by rw [HE.out,HK.out];rfl];rfl,HX.out.up⟩
 ·have HV:=ae (oK.xJ w 0 47 130 #[I ep, .slice A' n0 a,I lp, .slice R' n1 r] #[I 2,I wk,I wd,I mi,I of]);go_enter Tryz.func111,Tryz.ntmps111;go_wp2_with fail;generalize (w.alloc (.cells #[I ep, .slice A' n0 a,I lp, .slice R' n1 r] 47)).alloc (.cells #[I 2,I wk,I wd,I mi,I of] 130)=W0 at HV ⊢;have v0:W0.cell? ⟨w.heap.size,0,none⟩=some (I ep):=HV.out.a.2 0;have v1:W0.cell? ⟨w.heap.size,1,none⟩=some (.slice A' n0 a):=HV.out.a.2 1;have v2:W0.cell? ⟨w.heap.size,2,none⟩=some (I lp):=HV.out.a.2 2;have v3:W0.cell? ⟨w.heap.size,3,none⟩=some (.slice R' n1 r):=HV.out.a.2 3;have u0:W0.cell? ⟨w.heap.size+1,0,none⟩=some (I 2):=HV.out.b.2 0;have u1:W0.cell? ⟨w.heap.size+1,1,none⟩=some (I wk):=HV.out.b.2 1;have u2:W0.cell? ⟨w.heap.size+1,2,none⟩=some (I wd):=HV.out.b.2 2;simp only [if_true] at hres;refine wp_loop_rounds 2 ?_;rw [rounds_succ];go_wp2_with fail;refine (IY.out _ HV.out.up).mono ?_;rintro e w1 ⟨rfl,hb1⟩;have O6:=ae (HV.out.below hb1);clear v0 v1 v2 v3 u0 u1 u2 hb1 HV;have v0:w1.cell? ⟨w.heap.size,0,none⟩=some (I ep):=O6.out.a.2 0;have v1:w1.cell? ⟨w.heap.size,1,none⟩=some (.slice A' n0 a):=O6.out.a.2 1;have v2:w1.cell? ⟨w.heap.size,2,none⟩=some (I lp):=O6.out.a.2 2;have v3:w1.cell? ⟨w.heap.size,3,none⟩=some (.slice R' n1 r):=O6.out.a.2 3;have u0:w1.cell? ⟨w.heap.size+1,0,none⟩=some (I 2):=O6.out.b.2 0;have u1:w1.cell? ⟨w.heap.size+1,1,none⟩=some (I wk):=O6.out.b.2 1;have u2:w1.cell? ⟨w.heap.size+1,2,none⟩=some (I wd):=O6.out.b.2 2;go_wp2_with fail;rw [rounds_succ];go_wp2_with fail;clear v0 v1 v2 v3 u0 u1 u2;have HV:=O6;have hf0:0≤bg+q:=by omega
  have hf1:bg+q≤200000:=by omega
  have jG:=ae hres;clear hres h1 IY hb hb2;generalize bg+q=fs at hf0 hf1 jG ⊢
  go_loopw [12,13,14] (fun c l d wr=>FRel w #[I ep, .slice A' n0 a,I lp, .slice R' n1 r] #[I 2,I wk,I wd,I mi,I of] wd wk fs n res c l d wr) (fun _ _ d _=>((fs+n) - intOf d).toNat)
  case atStart=>exact ⟨0,0, -1,Nat.zero_le _,rfl,rfl,by go_num,by omega,by omega,by omega,by omega,by simpa using jG.out,HV.out⟩
  case round=>
   obtain ⟨j,cn,la,hj,rfl,rfl,rfl,hc0,hc1,hl0,hl1,hsc,hv⟩:=hrel;have HS:=ae hsc;have HW:=ae hv;clear hsc hv HV;have v0:wr.cell? ⟨w.heap.size,0,none⟩=some (I ep):=HW.out.a.2 0;have v1:wr.cell? ⟨w.heap.size,1,none⟩=some (.slice A' n0 a):=HW.out.a.2 1;have v2:wr.cell? ⟨w.heap.size,2,none⟩=some (I lp):=HW.out.a.2 2;have v3:wr.cell? ⟨w.heap.size,3,none⟩=some (.slice R' n1 r):=HW.out.a.2 3;have u0:wr.cell? ⟨w.heap.size+1,0,none⟩=some (I 2):=HW.out.b.2 0;have u1:wr.cell? ⟨w.heap.size+1,1,none⟩=some (I wk):=HW.out.b.2 1;have u2:wr.cell? ⟨w.heap.size+1,2,none⟩=some (I wd):=HW.out.b.2 2;go_wp2_with fail;refine (kD.out _ HW.out.up).mono ?_;rintro e w3 ⟨rfl,hb3⟩;have HX:=ae (HW.out.below hb3);clear v0 v1 v2 v3 u0 u1 u2 hb3;have u1:w3.cell? ⟨w.heap.size+1,1,none⟩=some (I wk):=HX.out.b.2 1;have u2:w3.cell? ⟨w.heap.size+1,2,none⟩=some (I wd):=HX.out.b.2 2;by_cases hlt:j<n
   ·have hlt':fs+(j:Int)<fs+(n:Int):=by omega
    have CY:Int.tmod (fs+(j:Int)) 7=(fs+(j:Int))%7:=Int.tmod_eq_emod_of_nonneg (by omega);obtain ⟨p,hp⟩:∃p,(fs+(j:Int))%7=p:=⟨_,rfl⟩;rw [hp] at CY;have HP:=ae hp;clear hp;have ht:(p==wd)=true∨(p==wd)=false:=by cases (p==wd)<;>simp
    rcases ht with ht|ht
    ·have hu:(cn+1==wk)=true∨(cn+1==wk)=false:=by cases (cn+1==wk)<;>simp
     have HT:=ae ht;rcases hu with hu|hu
     ·by_cases h5:wk<5
      ·have HU:=ae hu;have H5:=ae h5;have HE:=ae (Ic HS.out hlt (by rw [HP.out];exact HT.out) ⟨by simpa using HU.out,H5.out⟩);go_wp2_with fail;go_ret2;exact ⟨by rw [HE.out];rfl,HX.out.up⟩
      ·have HU:=ae hu;have H5:=ae h5;have HE:=ae (tN HS.out hlt (by rw [HP.out];exact HT.out) (fun h=>H5.out h.2));go_wp2_with fail;go_roundw
       case rel=>exact ⟨j+1,cn+1,fs+j,by omega,by go_num,by go_num,by go_num,by omega,by omega,by omega,by omega,HE.out,HX.out⟩
       case measure=>simp [intOf];omega
     ·have HU:=ae hu;have HE:=ae (tN HS.out hlt (by rw [HP.out];exact HT.out) (fun h=>by have h1:=HU.out;simp [h.1] at h1));go_wp2_with fail;go_roundw
      case rel=>exact ⟨j+1,cn+1,fs+j,by omega,by go_num,by go_num,by go_num,by omega,by omega,by omega,by omega,HE.out,HX.out⟩
      case measure=>simp [intOf];omega
    ·have HT:=ae ht;have HE:=ae (D9 HS.out hlt (by rw [HP.out];exact HT.out));go_wp2_with fail;go_roundw
     case rel=>exact ⟨j+1,cn,la,by omega,by go_num,by go_num,by go_num,by omega,by omega,by omega,by omega,HE.out,HX.out⟩
     case measure=>simp [intOf];omega
   ·have hke:j=n:=by omega
    have hnl:¬fs+(j:Int)<fs+(n:Int):=by omega
    have HE:=ae (Ea HS.out (by omega));clear hke hlt;have hk5:(wk==5)=true∨(wk==5)=false:=by cases (wk==5)<;>simp
    rcases hk5 with hk5|hk5
    ·have HK:=ae hk5;go_wp2_with fail;go_ret2;exact ⟨by rw [show res=(la,decide (0≤la)) by rw [HE.out,HK.out];rfl];rfl,HX.out.up⟩
    ·have HK:=ae hk5;go_wp2_with fail;go_ret2;exact ⟨by rw [show res=(la,false) by rw [HE.out,HK.out];rfl];rfl,HX.out.up⟩
def zh (ts:List Tr) (t:Tr):Nat→Nat
 |0=>0
 |k+1=>if t.at_<(ts[k]?.map (·.at_)).getD 0 then zh ts t k else k+1
def uk (ts:List Tr) (t:Tr):List Tr:=ts.take (zh ts t ts.length)++t::ts.drop (zh ts t ts.length)
theorem Vd (ts:List Tr) (t:Tr) (k:Nat):zh ts t k≤k:=by
 induction k with
 |zero=>exact Nat.le_refl _
 |succ k ih=>unfold zh;split<;>omega
theorem vY (ts:List Tr) (t:Tr):(uk ts t).length=ts.length+1:=by
 have:=Vd ts t ts.length;simp [uk];omega
def AU (ts:List Tr) (t:Tr) (k:Nat):List Value:=(ts.take k++t::ts.drop k).flatMap Tr.cells
theorem QW (ts:List Tr) (t:Tr):AU ts t ts.length=ts.flatMap Tr.cells++ [I t.at_,I t.off]:=by
 simp [AU,List.take_length,List.drop_length,Tr.cells]
theorem swap4 (P R:List Value) (q:Nat) (a0 a1 t0 t1:Value) (h:P.length=q*2):
  ((((P++a0::a1::t0::t1::R).set ((q+1)*2) a0).set ((q+1)*2+1) a1).set (q*2) t0).set (q*2+1) t1=P++t0::t1::a0::a1::R:=by
 rw [List.set_append_right _ _ (by omega),List.set_append_right _ _ (by omega),List.set_append_right _ _ (by omega),List.set_append_right _ _ (by omega)];rw [h,show (q+1)*2 - q*2=2 by omega,show (q+1)*2+1 - q*2=3 by omega,show q*2 - q*2=0 by omega,show q*2+1 - q*2=1 by omega];rfl
theorem take_at (ts:List Tr) (q:Nat) (hq:q<ts.length):∃x,ts[q]? =some x∧ts.take (q+1)=ts.take q++ [x]∧ts.drop q=x::ts.drop (q+1):=
 ⟨ts[q],dE hq,by rw [List.take_succ_eq_append_getElem hq],by rw [List.drop_eq_getElem_cons hq]⟩
theorem DU (ts:List Tr) (t x:Tr) (q:Nat) (hq:q<ts.length) (hx:ts[q]? =some x):
  AU ts t (q+1)=(ts.take q).flatMap Tr.cells++I x.at_::I x.off::I t.at_::I t.off::(ts.drop (q+1)).flatMap Tr.cells∧
  AU ts t q=(ts.take q).flatMap Tr.cells++I t.at_::I t.off::I x.at_::I x.off::(ts.drop (q+1)).flatMap Tr.cells∧((ts.take q).flatMap Tr.cells).length=q*2:=by
 obtain ⟨x',h1,h2,h3⟩:=take_at ts q hq;rw [hx] at h1;injection h1 with h1;subst h1;refine ⟨by simp [AU,h2,Tr.cells],by simp [AU,h3,Tr.cells],?_⟩;rw [dJ (s:=2) Tr.cells _ (fun _ _=>rfl),List.length_take,Nat.min_eq_left (by omega)]
def iR (lo:Nat) (w:World) (A:Option Addr) (n c:Nat) (ts:List Tr):Prop:=w.ownsRow lo 100 2 (.slice A n c) n (ts.flatMap Tr.cells)
def InsP (lo n:Nat) (w:World) (ts:List Tr) (e:Ending) (w':World):Prop:=∃A c,e= .returned (.slice A n c)∧iR lo w' A n c ts∧Below lo w w'
theorem Qh {lo:Nat} {w w':World} {row:Option Nat} (h:w.grownBy w' row) (hr:∀g,row=some g→lo≤g) (hlo:lo≤w.heap.size):Below lo w w':=
 ⟨h.os,h.tape,h.output,h.size,fun k hk=>h.block k (by omega) (fun e=>by have:=hr k e.symm;omega)⟩
theorem Iy {lo:Nat} {w:World} {A:Option Addr} {n c:Nat} {ts:List Tr} (h:iR lo w A n c ts):∀g,(Value.slice A n c).ownBlock=some g→lo≤g:=fun g hg=>(World.ownsRow.lt h g hg).1
structure Z9 (lo:Nat) (W:World) (g c n:Nat) (ts:List Tr) (t:Tr) (k:Nat) (wr:World):Prop where
 own:wr.ownsRow lo 100 2 (.slice (some ⟨g,0,none⟩) (n+1) c) (n+1) (AU ts t k)
 up:Below lo W wr
theorem Sj (w:World) (o:Obj) (a b:Value) (t:TypeId):∀j u,[a,b][j]? =some u→((w.alloc o).alloc (.cells #[a,b] t)).cell? ((⟨w.heap.size+1,0,none⟩:Addr).add j)=some u:=by
 have h:=cell_two_new (w.alloc o) a b t;simpa using h
def InRel (lo:Nat) (W:World) (g c n:Nat) (ts:List Tr) (t:Tr) (i:Value) (wr:World):Prop:=∃k:Nat,k≤n∧i= .int .i64 k∧zh ts t k=zh ts t n∧Z9 lo W g c n ts t k wr
theorem Z9.swap {lo g c n q:Nat} {W W2:World} {ts:List Tr} {zL BZ wZ Tv:Int} (h:Z9 lo W g c n ts ⟨zL,BZ⟩ (q+1) W2) (hlo:lo≤W.heap.size) (hq:q<ts.length) (hx:ts[q]? =some ⟨wZ,Tv⟩) (o:Obj):
  Z9 lo W g c n ts ⟨zL,BZ⟩ q (((((W2.setCell ⟨g,(q+1)*2,none⟩ (I wZ)).setCell ⟨g,(q+1)*2+1,none⟩ (I Tv)).setCell ⟨g,q*2,none⟩ (I zL)).setCell ⟨g,q*2+1,none⟩ (I BZ)).alloc o):=by
 obtain ⟨s1,s2,s3⟩:=DU ts ⟨zL,BZ⟩ ⟨wZ,Tv⟩ q hq hx;have h1:=(((((((h.own.stored ((q+1)*2) (I wZ)).1.stored ((q+1)*2+1) (I Tv)).1).stored (q*2) (I zL)).1).stored (q*2+1) (I BZ)).1).alloc o;have hg:lo≤g:=(World.ownsRow.lt h.own g rfl).1;refine ⟨?_,((((h.up.setCell (p:=⟨g,(q+1)*2,none⟩) hg _).setCell (p:=⟨g,(q+1)*2+1,none⟩) hg _).setCell (p:=⟨g,q*2,none⟩) hg _).setCell (p:=⟨g,q*2+1,none⟩) hg _).alloc (Nat.le_trans hlo (by have:=h.up.size;simpa using this)) o⟩;rw [s1,swap4 _ _ _ _ _ _ _ s3,←s2] at h1;exact h1
theorem Vb {ts:List Tr} {t x:Tr} {q:Nat} (hx:ts[q]? =some x) (h:t.at_<x.at_):zh ts t (q+1)=zh ts t q:=by
 rw [zh,hx,if_pos (by simpa using h)]
theorem Oj {ts:List Tr} {t x:Tr} {q:Nat} (hx:ts[q]? =some x) (h:¬t.at_<x.at_):zh ts t (q+1)=q+1:=by
 rw [zh,hx,if_neg (by simpa using h)]
theorem uP (lo n c:Nat) (A:Option Addr) (ts:List Tr) (t:Tr) (w:World) (hn:ts.length=n) (hn1:n≤1000) (hlo:lo≤w.heap.size) (hO:iR lo w A n c ts):
  Calls Tryz.prog 112 #[.slice A n c, .agg #[I t.at_,I t.off]] w (InsP lo (n+1) w (uk ts t)):=by
 obtain ⟨zL,BZ⟩:=t;simp only;have HN:=ae hn;have HO:=ae (World.ownsRow.alloc (World.ownsRow.alloc hO (.cells #[I zL,I BZ] 100)) (.cells #[I zL,I BZ] 100));have HB:=ae (ah (ag w (.cells #[I zL,I BZ] 100)) (ag _ (.cells #[I zL,I BZ] 100)));have HBA:=ae (Iy hO);obtain ⟨i0,hi,hz0,hz1,hz2⟩:=info_parts vX;have HI:=ae hi;have HZ0:=ae hz0;have HZ1:=ae hz1;have HZ2:=ae hz2;clear hn hO hi hz0 hz1 hz2;go_enter Tryz.func112,Tryz.ntmps112;go_wp2_with (at_builtin;go_must (refine wpList_append_own_at _ rfl _ _ 48 rfl lo 100 i0 (.agg #[I 0,I 0]) 2 16 Tryz.underlying48 HI.out HZ0.out HZ1.out HZ2.out rfl (by decide) _ n (ts.flatMap Tr.cells) rfl HO.out _ 1 1 [I zL,I BZ] rfl rfl (Sj _ _ _ _ _) (uU ⟨zL,BZ⟩) (by unfold maxLen;omega) (by omega) (by simp;omega) ?_));intro v' w1 hown hg _ _;obtain ⟨g,cp,rfl⟩:=ownsRow_succ hown;have HR:Hid (Z9 lo w g cp n ts ⟨zL,BZ⟩ n w1):=ae ⟨by rw [←HN.out,QW,HN.out];exact hown,(HB.out.mono hlo).trans (Qh hg HBA.out (by simp;omega))⟩;clear hown hg HB HO HBA;go_wp2_with fail
 go_loopw [6] (fun i wr=>InRel lo w g cp n ts ⟨zL,BZ⟩ i wr) (fun i _=>(intOf i).toNat)
 case atStart=>exact ⟨n,Nat.le_refl _,by go_num,rfl,HR.out⟩
 case round=>
  obtain ⟨k,hk,rfl,hp,hr⟩:=hrel;have HP:=ae hp;have HQ:=ae hr;clear hp hr HR;cases k with
  |zero=>
   go_wp2_with fail;go_quiet (fail);go_wp2_with fail;go_ret;refine ⟨_,_,rfl,?_,HQ.out.up.trans ((below_drewN' wr nq).mono (Nat.le_trans hlo HQ.out.up.size))⟩;have h1:=HP.out;have h2:=HQ.out.own;show (wr.drewN nq).ownsRow _ _ _ _ _ _;have h3:(uk ts ⟨zL,BZ⟩).flatMap Tr.cells=AU ts ⟨zL,BZ⟩ 0:=by
    unfold uk AU;rw [HN.out,←h1];rfl
   rw [h3];exact h2
  |succ q=>
   have hq:q<n:=by omega
   obtain ⟨x,hx, -, -⟩:=take_at ts q (by rw [HN.out];exact hq);obtain ⟨s1,s2,s3⟩:=DU ts ⟨zL,BZ⟩ x q (by rw [HN.out];exact hq) hx;have HX:=ae hx;have HS:=ae (And.intro s1 (And.intro s2 s3));have hcl:=fun j hj=>(HQ.out.own.cellAt j hj).trans (by rw [s1]);have c0:wr.cell? ⟨g,q*2,none⟩=some (I x.at_):=(hcl _ (by omega)).trans (by rw [List.getElem?_append_right (by omega),s3,Nat.sub_self];rfl);have c1:wr.cell? ⟨g,q*2+1,none⟩=some (I x.off):=(hcl _ (by omega)).trans (by rw [List.getElem?_append_right (by omega),s3,show q*2+1 - q*2=1 by omega];rfl);have c2:wr.cell? ⟨g,(q+1)*2,none⟩=some (I zL):=(hcl _ (by omega)).trans (by rw [List.getElem?_append_right (by omega),s3,show (q+1)*2 - q*2=2 by omega];rfl);have c3:wr.cell? ⟨g,(q+1)*2+1,none⟩=some (I BZ):=(hcl _ (by omega)).trans (by rw [List.getElem?_append_right (by omega),s3,show (q+1)*2+1 - q*2=3 by omega];rfl);have f0:∀j,wr.frozen? ⟨g,j,none⟩=false:=fun j=>HQ.out.own.frozenAt j;clear hx s1 s2 s3 hcl;obtain ⟨wZ,Tv⟩:=x;simp only at c0 c1;have i0:(0:Int)<((q+1:Nat):Int):=by omega
   have i1:((q+1:Nat):Int) - 1=(q:Int):=by omega
   have i2:(q:Int)<(n:Int)+1:=by omega
   have i3:((q+1:Nat):Int)<(n:Int)+1:=by omega
   by_cases hlt:zL<wZ
   ·go_wp2_with fail;go_quiet (fail);have lL:Hid (Z9 lo w g cp n ts ⟨zL,BZ⟩ (q+1) (wr.drewN nq)):=ae ⟨HQ.out.own,HQ.out.up.trans ((below_drewN' wr nq).mono (Nat.le_trans hlo HQ.out.up.size))⟩;have d0:(wr.drewN nq).cell? ⟨g,q*2,none⟩=some (I wZ):=c0;have d1:(wr.drewN nq).cell? ⟨g,q*2+1,none⟩=some (I Tv):=c1;have d2:(wr.drewN nq).cell? ⟨g,(q+1)*2,none⟩=some (I zL):=c2;have d3:(wr.drewN nq).cell? ⟨g,(q+1)*2+1,none⟩=some (I BZ):=c3;have g0:∀j,(wr.drewN nq).frozen? ⟨g,j,none⟩=false:=f0;have hgl:g<(wr.drewN nq).heap.size:=(World.ownsRow.lt HQ.out.own g rfl).2;clear c0 c1 c2 c3 f0;generalize wr.drewN nq=W2 at lL d0 d1 d2 d3 g0 hgl ⊢;clear HQ;go_wp2_with fail;go_roundw
    case rel=>exact ⟨q,by omega,by go_num,(Vb HX.out hlt).symm.trans HP.out,lL.out.swap hlo (by rw [HN.out];exact hq) HX.out _⟩
    case measure=>simp [intOf]
   ·go_wp2_with fail;go_quiet (fail);go_wp2_with fail;go_ret;refine ⟨_,_,rfl,?_,HQ.out.up.trans ((below_drewN' wr nq).mono (Nat.le_trans hlo HQ.out.up.size))⟩;have h1:=HP.out;rw [Oj HX.out (by show¬zL<wZ;omega)] at h1;have h2:=HQ.out.own;show (wr.drewN nq).ownsRow _ _ _ _ _ _;have h3:(uk ts ⟨zL,BZ⟩).flatMap Tr.cells=AU ts ⟨zL,BZ⟩ (q+1):=by
     unfold uk AU;rw [HN.out,←h1]
    rw [h3];exact h2
end Go.Proofs.YtdibbemgpikgjaaGreat
