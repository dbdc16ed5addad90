/- The texts Vb, in this order. -/
import Derived.Test.YtbaehbbonkljpaaGreatDoorS00
import Derived.Test.YtbaehbbonkljpaaGreatDoorS03
import Derived.Test.YtbaehbbonkljpaaGreatDoorS09
import Derived.Test.YtbaehbbonkljpaaGreatDoorS19
set_option maxRecDepth 10000
set_option maxHeartbeats 8000000
namespace Go.Proofs.YtbaehbbonkljpaaGreatDoor
open Go Go.RowKit
theorem Un (l:List Lr) (x:Lr) (y:Int):zk (l++ [x]) y=if (y%x.every==x.rest)=true then x.yes else zk l y:=by
 unfold zk;rw [List.reverse_append];show (match ([x]++l.reverse).find? _ with|some r=>r.yes|none=>false)=_;rw [List.singleton_append,List.find?_cons];cases (y%x.every==x.rest)<;>rfl
def Ib (c:Cal):Nat->Int
 |0=>0
 |k+1=>Ib c k+(c.au[k]?.getD 0)
theorem L6 {c:Cal} (hc:fJ c):∀k:Nat,k<=c.au.length->0<=Ib c k/\Ib c k<=40*(k:Int)
 |0,_=>⟨by show (0:Int)<=0;omega,by show (0:Int)<=40*0;omega⟩
 |k+1,h=>by
  have h1:=L6 hc k (by omega);have h2:=hc.mo (c.au[k]) (List.getElem_mem (by omega));show 0<=Ib c k+(c.au[k]?.getD 0)/\Ib c k+(c.au[k]?.getD 0)<=_;rw [bK (by omega),Option.getD_some];omega
theorem Um {c:Cal} (hc:fJ c) (y:Int) (h:c.dA<0):zk c.rules y=false:=by
 have h1:=hc.nl (by have:=hc.lp;omega);rw [List.length_eq_zero_iff.1 h1];rfl
theorem VA {c:Cal} (hc:fJ c) (y:Int):∀k:Nat,jZ c y k=Ib c k+(if c.dA<(k:Int) then (bif zk c.rules y then 1 else 0) else 0)
 |0=>by
  show (0:Int)=0+_;by_cases h:c.dA<((0:Nat):Int)
  ·rw [if_pos h,Um hc y (by omega)];rfl
  ·rw [if_neg h];rfl
 |k+1=>by
  show jZ c y k+((c.au[k]?.getD 0)+_)=Ib c k+(c.au[k]?.getD 0)+_;rw [VA hc y k];by_cases h:(k:Int)=c.dA
  ·have e:((k:Int)==c.dA)=true:=by simp [h]
   rw [e,if_neg (by omega),if_pos (by omega),cond_true];omega
  ·have e:((k:Int)==c.dA)=false:=by simpa using h
   rw [e,cond_false];by_cases h2:c.dA<(k:Int)
   ·rw [if_pos h2,if_pos (by omega)];omega
   ·rw [if_neg h2,if_neg (by omega)];omega
theorem yr_cm {c:Cal} (hc:fJ c) (y:Int):uY c y=Ib c c.au.length+(if zk c.rules y=true then 1 else 0):=by
 unfold uY;rw [VA hc y,if_pos hc.lp.2];cases zk c.rules y<;>rfl
theorem jD.drewN {w W:World} {cs:Array Value} (h:jD w cs W) (n:Nat):jD w cs (W.drewN n):=⟨⟨h.row.1,h.row.2⟩,below_drewN h.up n⟩
theorem O1 (c:Cal) (A R:Option Addr) (a r:Nat) (y:Int) (w:World) (hc:fJ c) (h:qj w w.heap.size A R c) (hy:0<=y):Calls Tryz.prog 121 #[.agg (aI c A a R r),I y] w (Gives (.bool (zk c.rules y)) w):=by
 have jQ:Hid (∀W,Below w.heap.size w W->Calls Tryz.prog 74 #[.agg (aI c A a R r)] W (Gives (.bool true) W)):=ae fun W hb=>by
  have h1:=pU c A R a r W (h.grow hb)
  rwa [pY hc] at h1
 obtain ⟨nr,hnr⟩:∃n,c.rules.length=n:=⟨_,rfl⟩;obtain ⟨n,hn⟩:∃n,c.au.length=n:=⟨_,rfl⟩;have e0:aI c A a R r= #[I c.bn, .slice A n a,I c.dA, .slice R nr r]:=by rw [<-hn,<-hnr];rfl
 obtain ⟨lp,hlp⟩:∃l,c.dA=l:=⟨_,rfl⟩;obtain ⟨ep,mJ⟩:∃l,c.bn=l:=⟨_,rfl⟩;rw [hlp,mJ] at e0;have Kw:=ae e0;have HV:=ae (jD.start w #[I ep, .slice A n a,I lp, .slice R nr r] 65);rw [e0] at jQ ⊢;have WY:=ae h.rules;have FK:Hid ((c.rules.flatMap Lr.cells).length=nr*3):=ae (by rw [bZ (s:=3) Lr.cells c.rules (fun _ _=>rfl),hnr]);have PM:=ae hc.dA;have N8:=ae hnr;have yg:=ae (show nr<=16 by rw [<-hnr];exact hc.rl);have HY:=ae hy;clear e0 hlp mJ hnr hn hc h hy;go_enter Tryz.func121,Tryz.ntmps121;go_wp2_with fail;refine (jQ.out _ HV.out.up).mono ?_;rintro e w1 ⟨rfl,hb1⟩;have HW:=ae (HV.out.grow hb1);clear hb1 HV jQ;go_wp2_with fail
 go_loopw [5,6] (fun q i wr=>∃k:Nat,k<=nr/\q= .bool (zk (c.rules.take k) y)/\i=I (k:Int)/\jD w #[I ep, .slice A n a,I lp, .slice R nr r] wr) (fun _ i _=>nr - (intOf i).toNat)
 case atStart=>exact ⟨0,Nat.zero_le _,rfl,rfl,HW.out⟩
 case round=>
  clear HW;obtain ⟨k,hk,rfl,rfl,hv⟩:=hrel;have HW:=ae hv;clear hv;obtain ⟨u,hu⟩:∃u,zk (c.rules.take k) y=u:=⟨_,rfl⟩;rw [hu];have HU:=ae hu;clear hu;have k16:(k:Int)<=16:=by have:=yg.out;omega
  by_cases hlt:k<nr
  ·have i0:(0:Int)<=(k:Int):=by omega
   have i1:(k:Int)<(nr:Int):=by omega
   obtain ⟨x,hx⟩:∃x,c.rules[k]? =some x:=⟨_,bK (by rw [N8.out];exact hlt)⟩;obtain ⟨b,off,rfl,hbl,hcl⟩:=WY.out.there (by rw [FK.out];omega);have hr:=aS (aA.elem (s:=3) (f:=Lr.cells) (fun _ _=>rfl) hcl k x hx) HW.out.up hbl;have hle:=PM.out x (gZ hx);have HS:=ae (Un (c.rules.take k) x y);rw [<-jX c.rules k x hx,HU.out] at HS;obtain ⟨ev,re,ye⟩:=x;simp only at hle HS;have f0:wr.cell? ⟨b,off+k*3,none⟩=some (I ev):=hr 0 _ rfl;have f1:wr.cell? ⟨b,off+k*3+1,none⟩=some (I re):=hr 1 _ rfl;have f2:wr.cell? ⟨b,off+k*3+2,none⟩=some (.bool ye):=hr 2 _ rfl;have v3:wr.cell? ⟨w.heap.size,3,none⟩=some (.slice (some ⟨b,off,none⟩) nr r):=HW.out.row.2 3;have ZC:=ae (fun W=>Uw y ev W (by omega) (by omega) HY.out);obtain ⟨m,hm⟩:∃m,y%ev=m:=⟨_,rfl⟩;rw [hm] at ZC HS;clear hm hle hr hcl hx;go_upto_region 7 with fail;go_quiet (first|(go_at_call 132;refine Calls.quiet_of_same (ZC.out _)));obtain ⟨t,ht⟩:∃t,(m==re)=t:=⟨_,rfl⟩;have HT:=ae ht;cases t
   all_goals
    go_wp2_with fail;go_roundw
    case rel=>exact ⟨k+1,by omega,by rw [HS.out,HT.out];rfl,by have h16:=yg.out;go_num,HW.out.drewN _⟩
    case measure=>simp [intOf];have h16:=yg.out;omega
  ·have hkn:k=nr:=by omega
   have hlt':¬(k:Int)<(nr:Int):=by omega
   have v3:wr.cell? ⟨w.heap.size,3,none⟩=some (.slice R nr r):=HW.out.row.2 3;have HF:Hid (zk c.rules y=u):=ae (by
    have h1:=HU.out
    rwa [List.take_of_length_le (by rw [N8.out];omega)] at h1)
   clear hlt hkn;go_wp2_with fail;go_ret;exact ⟨by rw [HF.out];rfl,HW.out.up⟩
theorem QB (c:Cal) (A R:Option Addr) (a r:Nat) (w:World) (hc:fJ c) (h:qj w w.heap.size A R c):Calls Tryz.prog 122 #[.agg (aI c A a R r)] w (Gives (I (Ib c c.au.length)) w):=by
 have HBD:=ae (L6 hc);obtain ⟨nr,hnr⟩:∃n,c.rules.length=n:=⟨_,rfl⟩;obtain ⟨n,hn⟩:∃n,c.au.length=n:=⟨_,rfl⟩;have e0:aI c A a R r= #[I c.bn, .slice A n a,I c.dA, .slice R nr r]:=by rw [<-hn,<-hnr];rfl
 obtain ⟨lp,hlp⟩:∃l,c.dA=l:=⟨_,rfl⟩;obtain ⟨ep,mJ⟩:∃l,c.bn=l:=⟨_,rfl⟩;rw [hlp,mJ] at e0;have Kw:=ae e0;have HV:=ae (jD.start w #[I ep, .slice A n a,I lp, .slice R nr r] 65);rw [e0,hn];rw [hn] at HBD;have HM:=ae h.au;have FO:=ae hn;have yg:=ae (show n<=16 by rw [<-hn];exact hc.ml.2);have PN:=ae hc.mo;clear e0 hlp mJ hnr hn hc h;go_enter Tryz.func122,Tryz.ntmps122;go_wp2_with fail
 go_loopw [3,4] (fun q i wr=>∃k:Nat,k<=n/\q=I (Ib c k)/\i=I (k:Int)/\jD w #[I ep, .slice A n a,I lp, .slice R nr r] wr) (fun _ i _=>n - (intOf i).toNat)
 case atStart=>exact ⟨0,Nat.zero_le _,rfl,rfl,HV.out⟩
 case round=>
  clear HV;obtain ⟨k,hk,rfl,rfl,hv⟩:=hrel;have HW:=ae hv;clear hv;have hbd:=HBD.out k hk;have HS:Hid (Ib c (k+1)=Ib c k+(c.au[k]?.getD 0)):=ae rfl;obtain ⟨u,hu⟩:∃u,Ib c k=u:=⟨_,rfl⟩;rw [hu] at hbd HS ⊢;have HU:=ae hu;clear hu;have k16:(k:Int)<=16:=by have:=yg.out;omega
  by_cases hlt:k<n
  ·have i0:(0:Int)<=(k:Int):=by omega
   have i1:(k:Int)<(n:Int):=by omega
   obtain ⟨x,hx⟩:∃x,c.au[k]? =some x:=⟨_,bK (by rw [FO.out];exact hlt)⟩;obtain ⟨b,off,rfl,hbl,hcl⟩:=HM.out.there (by rw [List.length_map,FO.out];omega);have f0:wr.cell? ⟨b,off+k,none⟩=some (I x):=(HW.out.up.cell (p:=⟨b,off+k,none⟩) hbl).trans (hcl k _ (by rw [List.getElem?_map,hx];rfl));have v1:wr.cell? ⟨w.heap.size,1,none⟩=some (.slice (some ⟨b,off,none⟩) n a):=HW.out.row.2 1;have hxb:=PN.out x (gZ hx);rw [hx,Option.getD_some] at HS;have hs1:0<=u+x/\u+x<=1000:=by omega
   have HXB:=ae hxb;have HBB:=ae hbd;clear hx hcl;go_wp2_with fail;go_roundw
   case rel=>exact ⟨k+1,by omega,by rw [HS.out],by have h16:=yg.out;go_num,HW.out⟩
   case measure=>simp [intOf];have h16:=yg.out;omega
  ·have hkn:k=n:=by omega
   have hlt':¬(k:Int)<(n:Int):=by omega
   have v1:wr.cell? ⟨w.heap.size,1,none⟩=some (.slice A n a):=HW.out.row.2 1;have HF:Hid (Ib c n=u):=ae (by rw [<-hkn];exact HU.out);clear hlt hkn hbd;go_wp2_with fail;go_ret;exact ⟨by rw [HF.out];rfl,HW.out.up⟩
theorem O4 (c:Cal) (A R:Option Addr) (a r:Nat) (y:Int) (w:World) (hc:fJ c) (h:qj w w.heap.size A R c) (hy:0<=y):Calls Tryz.prog 98 #[.agg (aI c A a R r),I y] w (Gives (I (uY c y)) w):=by
 have jQ:Hid (∀W,Below w.heap.size w W->Calls Tryz.prog 74 #[.agg (aI c A a R r)] W (Gives (.bool true) W)):=ae fun W hb=>by
  have h1:=pU c A R a r W (h.grow hb)
  rwa [pY hc] at h1
 have Ky:Hid (∀W,Below w.heap.size w W->Calls Tryz.prog 121 #[.agg (aI c A a R r),I y] W (Gives (.bool (zk c.rules y)) W)):=ae fun W hb=>O1 _ A R a r y W hc (h.grow hb) hy;have HCM:Hid (∀W,Below w.heap.size w W->Calls Tryz.prog 122 #[.agg (aI c A a R r)] W (Gives (I (Ib c c.au.length)) W)):=ae fun W hb=>QB _ A R a r W hc (h.grow hb);have hcm:0<=Ib c c.au.length/\Ib c c.au.length<=640:=by
  have h1:=L6 hc c.au.length (Nat.le_refl _);have h2:=hc.ml;omega
 rw [yr_cm hc y];obtain ⟨u,hu⟩:∃u,zk c.rules y=u:=⟨_,rfl⟩;obtain ⟨q,hq⟩:∃q,Ib c c.au.length=q:=⟨_,rfl⟩;rw [hu] at Ky ⊢;rw [hq] at HCM hcm ⊢;obtain ⟨ep,lp,A',R',n,m,hcs⟩:∃ep lp,∃A' R':Option Addr,∃n m:Nat,aI c A a R r= #[I ep, .slice A' n a,I lp, .slice R' m r]:=⟨_,_,_,_,_,_,rfl⟩;rw [hcs] at jQ Ky HCM ⊢;obtain ⟨V,hV⟩:∃V,(q+(if u=true then 1 else 0))=V:=⟨_,rfl⟩;rw [hV];have HVQ:=ae hV;clear hV;clear hcs hu hq hc h hy;have HV:=ae (jD.start w #[I ep, .slice A' n a,I lp, .slice R' m r] 65);go_enter Tryz.func98,Tryz.ntmps98;go_wp2_with fail;refine (jQ.out _ HV.out.up).mono ?_;rintro e w1 ⟨rfl,hb1⟩;have HW:=ae (HV.out.grow hb1);have v0:w1.cell? ⟨w.heap.size,0,none⟩=some (I ep):=HW.out.row.2 0;have v1:w1.cell? ⟨w.heap.size,1,none⟩=some (.slice A' n a):=HW.out.row.2 1;have v2:w1.cell? ⟨w.heap.size,2,none⟩=some (I lp):=HW.out.row.2 2;have v3:w1.cell? ⟨w.heap.size,3,none⟩=some (.slice R' m r):=HW.out.row.2 3;clear hb1 HV jQ;go_wp2_with fail;clear v0 v1 v2 v3;refine (Ky.out _ HW.out.up).mono ?_;rintro e w2 ⟨rfl,hb1⟩;have HW2:=ae (HW.out.grow hb1);have v0:w2.cell? ⟨w.heap.size,0,none⟩=some (I ep):=HW2.out.row.2 0;have v1:w2.cell? ⟨w.heap.size,1,none⟩=some (.slice A' n a):=HW2.out.row.2 1;have v2:w2.cell? ⟨w.heap.size,2,none⟩=some (I lp):=HW2.out.row.2 2;have v3:w2.cell? ⟨w.heap.size,3,none⟩=some (.slice R' m r):=HW2.out.row.2 3;clear hb1 Ky HW;cases u
 all_goals
  go_wp2_with fail;refine (HCM.out _ HW2.out.up).mono ?_;rintro e w3 ⟨rfl,hb3⟩;have HB3:=ae (ah HW2.out.up hb3);clear hb3 v0 v1 v2 v3;go_wp2_with fail;go_ret;exact ⟨by rw [<-HVQ.out];simp,HB3.out⟩
theorem UQ (c:Cal) (A R:Option Addr) (a r:Nat) (y:Int) (m:Nat) (w:World) (hc:fJ c) (h:qj w w.heap.size A R c) (hy:0<=y) (hm:m<c.au.length):Calls Tryz.prog 120 #[.agg (aI c A a R r),I y,I ((m:Int)+1)] w (Gives (I (vJ c y m)) w):=by
 have jQ:Hid (∀W,Below w.heap.size w W->Calls Tryz.prog 74 #[.agg (aI c A a R r)] W (Gives (.bool true) W)):=ae fun W hb=>by
  have h1:=pU c A R a r W (h.grow hb)
  rwa [pY hc] at h1
 have Ky:Hid (∀W,Below w.heap.size w W->Calls Tryz.prog 121 #[.agg (aI c A a R r),I y] W (Gives (.bool (zk c.rules y)) W)):=ae fun W hb=>O1 _ A R a r y W hc (h.grow hb) hy;obtain ⟨nr,hnr⟩:∃n,c.rules.length=n:=⟨_,rfl⟩;obtain ⟨n,hn⟩:∃n,c.au.length=n:=⟨_,rfl⟩;have e0:aI c A a R r= #[I c.bn, .slice A n a,I c.dA, .slice R nr r]:=by rw [<-hn,<-hnr];rfl
 obtain ⟨lp,hlp⟩:∃l,c.dA=l:=⟨_,rfl⟩;obtain ⟨ep,mJ⟩:∃l,c.bn=l:=⟨_,rfl⟩;rw [hlp,mJ] at e0;have Kw:=ae e0;have HV:=ae (jD.start w #[I ep, .slice A n a,I lp, .slice R nr r] 65);rw [e0] at jQ Ky ⊢;obtain ⟨u,hu⟩:∃u,zk c.rules y=u:=⟨_,rfl⟩;rw [hu] at Ky;obtain ⟨V,hV⟩:∃V,vJ c y m=V:=⟨_,rfl⟩;rw [hV];obtain ⟨x,hx⟩:∃x,c.au[m]? =some x:=⟨_,bK hm⟩;have hxb:=hc.mo x (gZ hx);have HVQ:Hid (V=x+(bif (m:Int)==lp then (bif u then 1 else 0) else 0)):=ae (by
  rw [<-hV,<-hlp,<-hu];unfold vJ;rw [hx,Option.getD_some])
 have HM:=ae h.au;have HX:=ae hx;have FO:=ae hn;have hml:n<=16:=by rw [<-hn];exact hc.ml.2
 rw [hn] at hm;have s1:¬(m:Int)+1<1:=by omega
 have s2:¬(n:Int)<(m:Int)+1:=by omega
 have s3:(m:Int)+1 - 1=(m:Int):=by omega
 have i0:(0:Int)<=(m:Int):=by omega
 have i1:(m:Int)<(n:Int):=by omega
 have hm16:(m:Int)<=15:=by omega
 clear e0 hlp mJ hnr hn hc h hy hV hu hx;obtain ⟨t,ht⟩:∃t,((m:Int)==lp)=t:=⟨_,rfl⟩;have HT:=ae ht;cases t
 ·go_enter Tryz.func120,Tryz.ntmps120;go_wp2_with fail;refine (jQ.out _ HV.out.up).mono ?_;rintro e w1 ⟨rfl,hb1⟩;have HW:=ae (HV.out.grow hb1);obtain ⟨b,off,rfl,hbl,hcl⟩:=HM.out.there (by rw [List.length_map,FO.out];omega);have f0:w1.cell? ⟨b,off+m,none⟩=some (I x):=(HW.out.up.cell (p:=⟨b,off+m,none⟩) hbl).trans (hcl m _ (by rw [List.getElem?_map,HX.out];rfl));have v0:w1.cell? ⟨w.heap.size,0,none⟩=some (I ep):=HW.out.row.2 0;have v1:w1.cell? ⟨w.heap.size,1,none⟩=some (.slice (some ⟨b,off,none⟩) n a):=HW.out.row.2 1;have v2:w1.cell? ⟨w.heap.size,2,none⟩=some (I lp):=HW.out.row.2 2;have v3:w1.cell? ⟨w.heap.size,3,none⟩=some (.slice R nr r):=HW.out.row.2 3;clear hb1 hcl HV jQ;go_wp2_with fail;go_ret;exact ⟨by rw [HVQ.out,HT.out];simp,HW.out.up⟩
 ·go_enter Tryz.func120,Tryz.ntmps120;go_wp2_with fail;refine (jQ.out _ HV.out.up).mono ?_;rintro e w1 ⟨rfl,hb1⟩;have HW:=ae (HV.out.grow hb1);have v0:w1.cell? ⟨w.heap.size,0,none⟩=some (I ep):=HW.out.row.2 0;have v1:w1.cell? ⟨w.heap.size,1,none⟩=some (.slice A n a):=HW.out.row.2 1;have v2:w1.cell? ⟨w.heap.size,2,none⟩=some (I lp):=HW.out.row.2 2;have v3:w1.cell? ⟨w.heap.size,3,none⟩=some (.slice R nr r):=HW.out.row.2 3;clear hb1 HV jQ;go_wp2_with fail;clear v0 v1 v2 v3;refine (Ky.out _ HW.out.up).mono ?_;rintro e w2 ⟨rfl,hb1⟩;have HW2:=ae (HW.out.grow hb1);obtain ⟨b,off,rfl,hbl,hcl⟩:=HM.out.there (by rw [List.length_map,FO.out];omega);have f0:w2.cell? ⟨b,off+m,none⟩=some (I x):=(HW2.out.up.cell (p:=⟨b,off+m,none⟩) hbl).trans (hcl m _ (by rw [List.getElem?_map,HX.out];rfl));have v1:w2.cell? ⟨w.heap.size,1,none⟩=some (.slice (some ⟨b,off,none⟩) n a):=HW2.out.row.2 1;clear hb1 hcl Ky HW;cases u
  all_goals
   go_wp2_with fail;go_ret;exact ⟨by rw [HVQ.out,HT.out];simp,HW2.out.up⟩
theorem UO (c:Cal) (A R:Option Addr) (a r:Nat) (w:World) (hc:fJ c) (h:qj w w.heap.size A R c):Calls Tryz.prog 99 #[.agg (aI c A a R r)] w (Gives (.tuple #[I (I8 c:Int),I (Ic c), .int .i64 0]) w):=by
 have jQ:Hid (∀W,Below w.heap.size w W->Calls Tryz.prog 74 #[.agg (aI c A a R r)] W (Gives (.bool true) W)):=ae fun W hb=>by
  have h1:=pU c A R a r W (h.grow hb)
  rwa [pY hc] at h1
 have HY:Hid (∀W,Below w.heap.size w W->∀k:Nat,Calls Tryz.prog 98 #[.agg (aI c A a R r),I ((k:Int)+1)] W (Gives (I (uY c ((k:Int)+1))) W)):=ae fun W hb k=>O4 _ A R a r ((k:Int)+1) W hc (h.grow hb) (by omega);have V9:=ae (fun k:Nat=>l7 c ((k:Int)+1) hc);have oO:=ae (fun k:Nat=>wR c k hc);obtain ⟨nr,hnr⟩:∃n,c.rules.length=n:=⟨_,rfl⟩;obtain ⟨n,hn⟩:∃n,c.au.length=n:=⟨_,rfl⟩;have e0:aI c A a R r= #[I c.bn, .slice A n a,I c.dA, .slice R nr r]:=by rw [<-hn,<-hnr];rfl
 obtain ⟨lp,hlp⟩:∃l,c.dA=l:=⟨_,rfl⟩;obtain ⟨ep,mJ⟩:∃l,c.bn=l:=⟨_,rfl⟩;rw [hlp,mJ] at e0;have Kw:=ae e0;have HV:=ae (jD.start w #[I ep, .slice A n a,I lp, .slice R nr r] 65);rw [e0] at jQ HY ⊢;unfold Ic;obtain ⟨N,hN⟩:∃N,I8 c=N:=⟨_,rfl⟩;have hcy:=Gi hc;rw [hN] at hcy ⊢;have HPE:=ae hcy.1;have Kz:=ae hcy.2;have WY:=ae h.rules;have FK:Hid ((c.rules.flatMap Lr.cells).length=nr*3):=ae (by rw [bZ (s:=3) Lr.cells c.rules (fun _ _=>rfl),hnr]);have N8:=ae hnr;have yg:=ae (show nr<=16 by rw [<-hnr];exact hc.rl);have HGD:=ae (fun x hx=>(uS c.rules 1 hc.per x hx));clear e0 hlp mJ hnr hn hc h hcy hN;go_enter Tryz.func99,Tryz.ntmps99;go_wp2_with fail;refine (jQ.out _ HV.out.up).mono ?_;rintro e w1 ⟨rfl,hb1⟩;have HW:=ae (HV.out.grow hb1);clear hb1 HV jQ;go_wp2_with fail
 go_loopw [5,6] (fun q i wr=>∃k Y:Nat,k<=nr/\q=I (Y:Int)/\i=I (k:Int)/\1<=Y/\Y<=400/\jU c.rules 1=jU (c.rules.drop k) Y/\jD w #[I ep, .slice A n a,I lp, .slice R nr r] wr) (fun _ i _=>nr - (intOf i).toNat)
 case atStart=>exact ⟨0,1,Nat.zero_le _,rfl,rfl,by omega,by omega,rfl,HW.out⟩
 case round=>
  clear HW;obtain ⟨k,Y,hk,rfl,rfl,hy1,hy2,hp,hv⟩:=hrel;have HW:=ae hv;have HP:=ae hp;clear hv hp;have k16:(k:Int)<=16:=by have:=yg.out;omega
  by_cases hlt:k<nr
  ·have i0:(0:Int)<=(k:Int):=by omega
   have i1:(k:Int)<(nr:Int):=by omega
   obtain ⟨x,hx⟩:∃x,c.rules[k]? =some x:=⟨_,bK (by rw [N8.out];exact hlt)⟩;obtain ⟨b,off,rfl,hbl,hcl⟩:=WY.out.there (by rw [FK.out];omega);have hr:=aS (aA.elem (s:=3) (f:=Lr.cells) (fun _ _=>rfl) hcl k x hx) HW.out.up hbl;have hgd:=HGD.out x (gZ hx);have hd:c.rules.drop k=x::c.rules.drop (k+1):=by
    rw [List.drop_eq_getElem_cons (by rw [N8.out];exact hlt)];rw [bK (by rw [N8.out];exact hlt)] at hx;injection hx with hx;rw [hx]
   rw [hd] at HP;obtain ⟨ev,re,ye⟩:=x;simp only at hgd;have f0:wr.cell? ⟨b,off+k*3,none⟩=some (I ev):=hr 0 _ rfl;have v3:wr.cell? ⟨w.heap.size,3,none⟩=some (.slice (some ⟨b,off,none⟩) nr r):=HW.out.row.2 3;have hbad:¬(ev<1\/400<ev\/re<0\/ev<=re):=by omega
   obtain ⟨E,rfl⟩:∃E:Nat,ev=(E:Int):=⟨ev.toNat,by omega⟩;obtain ⟨L,hL⟩:∃L,Nat.lcm Y E=L:=⟨_,rfl⟩;obtain ⟨G,hG⟩:∃G,Nat.gcd Y E=G:=⟨_,rfl⟩;obtain ⟨Q,hQ⟩:∃Q,Y / G=Q:=⟨_,rfl⟩;have hG1:0<G:=by rw [<-hG];exact Nat.gcd_pos_of_pos_left _ (by omega)
   have hL1:1<=L:=by rw [<-hL];exact Nat.lcm_pos (by omega) (by omega)
   have hQE:Q*E=L:=by rw [<-hQ,<-hG,<-hL];exact lcm_div Y E
   have hQ4:Q<=400:=by rw [<-hQ];exact Nat.le_trans (Nat.div_le_self _ _) hy2
   have hqi:(Y:Int).tdiv (G:Int)=(Q:Int):=by rw [<-hQ,Int.tdiv_eq_ediv_of_nonneg (by omega)];rfl
   have hqe:(Q:Int)*(E:Int)=(L:Int):=by rw [<-hQE];simp
   have hg0:¬(G:Int)=0:=by omega
   have hg1:¬(G:Int)= -1:=by omega
   have VW:=ae (fun W=>Jw Y E W (by omega) (by omega));rw [hG] at VW;have hP2:jU c.rules 1=if 400<L then none else jU (c.rules.drop (k+1)) L:=by
    rw [HP.out];show (if _ then _ else _)=_;rw [if_neg hbad,Int.toNat_natCast,hL]
   have hLb:¬400<L:=fun hh=>by
    rw [if_pos hh,HPE.out] at hP2;cases hP2
   rw [if_neg hLb] at hP2;have HP2:=ae hP2;clear hbad hd hr hcl hx hP2 hL HP hG hQ hQE hgd;go_upto_region 7 with fail;go_quiet (first|(go_at_call 95;refine Calls.quiet_of_same (VW.out _)));go_wp2_with fail;go_roundw
   case rel=>exact ⟨k+1,L,by omega,rfl,by have h16:=yg.out;go_num,hL1,by omega,HP2.out,HW.out.drewN _⟩
   case measure=>simp [intOf];have h16:=yg.out;omega
  ·have hkn:k=nr:=by omega
   have hlt':¬(k:Int)<(nr:Int):=by omega
   have v3:wr.cell? ⟨w.heap.size,3,none⟩=some (.slice R nr r):=HW.out.row.2 3;have hYN:Y=N:=by
    have h1:=HPE.out;rw [HP.out,List.drop_of_length_le (by rw [N8.out];omega)] at h1;injection h1
   subst hYN;clear hlt hkn HP;go_wp2_with fail;clear v3
   go_loopw [7,8] (fun q i wr=>∃k:Nat,k<=Y/\q=I (iE c k)/\i=I ((k:Int)+1)/\jD w #[I ep, .slice A n a,I lp, .slice R nr r] wr) (fun _ i _=>Y+1 - (intOf i).toNat)
   case atStart=>exact ⟨0,Nat.zero_le _,rfl,rfl,HW.out⟩
   case round=>
    clear HW hlt';obtain ⟨j,hj,rfl,rfl,hv⟩:=hrel;have HW:=ae hv;clear hv;have hsb:=oO.out j;have HST:Hid (iE c (j+1)=iE c j+uY c ((j:Int)+1)):=ae rfl;obtain ⟨u,hu⟩:∃u,iE c j=u:=⟨_,rfl⟩;rw [hu] at hsb HST ⊢;have HU:=ae hu;clear hu;have v0:wr.cell? ⟨w.heap.size,0,none⟩=some (I ep):=HW.out.row.2 0;have v1:wr.cell? ⟨w.heap.size,1,none⟩=some (.slice A n a):=HW.out.row.2 1;have v2:wr.cell? ⟨w.heap.size,2,none⟩=some (I lp):=HW.out.row.2 2;have v3:wr.cell? ⟨w.heap.size,3,none⟩=some (.slice R nr r):=HW.out.row.2 3;have j16:(j:Int)<=400:=by have:=Kz.out;omega
    by_cases hjt:j<Y
    ·have j1:(j:Int)+1<=(Y:Int):=by omega
     have hyb:=V9.out j;have dE:=ae (HY.out _ HW.out.up j);obtain ⟨v,hv⟩:∃v,uY c ((j:Int)+1)=v:=⟨_,rfl⟩;rw [hv] at hyb HST dE;clear hv;have HSBB:=ae hsb;have HYBB:=ae hyb;go_wp2_with fail;refine dE.out.mono ?_;rintro e w2 ⟨rfl,hb1⟩;have HW2:=ae (HW.out.grow hb1);clear hb1 HW v0 v1 v2 v3;go_wp2_with fail;go_roundw
     case rel=>exact ⟨j+1,by omega,by rw [HST.out],by have h16:=Kz.out;go_num,HW2.out⟩
     case measure=>simp [intOf];have h16:=Kz.out;omega
    ·have j1:¬(j:Int)+1<=(Y:Int):=by omega
     have hjy:j=Y:=by omega
     have HF:Hid (iE c Y=u):=ae (by rw [<-hjy];exact HU.out);clear hjt hjy hsb;go_wp2_with fail
     go_ret3
     exact ⟨by rw [HF.out];rfl,HW.out.up⟩
end Go.Proofs.YtbaehbbonkljpaaGreatDoor
