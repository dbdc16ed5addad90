/- The texts Vb, in this order. -/
import Derived.Test.YtbaehbbonkljpaaGreatDoorT08
import Derived.Test.YtbaehbbonkljpaaGreatDoorT17
set_option maxRecDepth 10000
set_option maxHeartbeats 8000000
namespace Go.Proofs.YtbaehbbonkljpaaGreatDoor
open Go Go.RowKit
theorem ak7 (l:ag Lr)(x:Lr)(y:Int):Yb (l++ [x]) y=if (y%x.every==x.rest)=true then x.yes else Yb l y:=by
 unfold Yb;rw[List.reverse_append];show(match ([x]++l.reverse).find? _ with|some r=>r.yes|none=>false)=_;rw[List.singleton_append,jO];cases (y%x.every==x.rest)<;>rfl
def cmG (c:Cal):Nat->Int
 |0=>0
 |k+1=>cmG c k+(c.JQ[k]?.getD 0)
theorem afB {c:Cal}(hc:MR c):∀k:Nat,k<=c.JQ.length->0<=cmG c k/\cmG c k<=40*(k:Int)
 |0,_=>⟨by show(0:Int)<=0;omega,by show(0:Int)<=40*0;omega⟩
 |k+1,h=>by
  have h1:=afB hc k (by omega);have h2:=hc.mo (c.JQ[k]) (jV (by omega));show 0<=cmG c k+(c.JQ[k]?.getD 0)/\cmG c k+(c.JQ[k]?.getD 0)<=_;rw[KL (by omega),jc];omega
theorem ak6 {c:Cal}(hc:MR c)(y:Int)(h:c.Lm<0):Yb c.rules y=false:=by
 have h1:=hc.nl (by have:=hc.lp;omega);rw[List.length_eq_zero_iff.1 h1];rfl
theorem amd {c:Cal}(hc:MR c)(y:Int):∀k:Nat,PQ c y k=cmG c k+(if c.Lm<(k:Int) then (bif Yb c.rules y then 1 else 0) else 0)
 |0=>by
  show(0:Int)=0+_;by_cases h:c.Lm<((0:Nat):Int)
  ·rw[bD h,ak6 hc y (by omega)];rfl
  ·rw[bP h];rfl
 |k+1=>by
  show PQ c y k+((c.JQ[k]?.getD 0)+_)=cmG c k+(c.JQ[k]?.getD 0)+_;rw[amd hc y k];by_cases h:(k:Int)=c.Lm
  ·have e:((k:Int)==c.Lm)=true:=by simp[h]
   rw[e,bP (by omega),bD (by omega),cond_true];omega
  ·have e:((k:Int)==c.Lm)=false:=by simpa using h
   rw[e,oK];by_cases h2:c.Lm<(k:Int)
   ·rw[bD h2,bD (by omega)];omega
   ·rw[bP h2,bP (by omega)];omega
theorem axB {c:Cal}(hc:MR c)(y:Int):VE c y=cmG c c.JQ.length+(if Yb c.rules y=true then 1 else 0):=by
 unfold VE;rw[amd hc y,bD hc.lp.2];cases Yb c.rules y<;>rfl
theorem OY.drewN {w W:ae}{cs:ax ah}(h:OY w cs W)(n:Nat):OY w cs (W.drewN n):=⟨⟨h.row.1,h.row.2⟩,jQ h.up n⟩
theorem ahr (c:Cal)(A R:aj Addr)(a r:Nat)(y:Int)(w:ae)(hc:MR c)(h:Rw w w.heap.size A R c)(hy:0<=y):Calls Tryz.prog 121 #[.agg (J7 c A a R r),I y] w (Gives (.bool (Yb c.rules y)) w):=by
 have PD:Hid (∀W,ai w.heap.size w W->Calls Tryz.prog 74 #[.agg (J7 c A a R r)] W (Gives (.bool true) W)):=JJ fun W hb=>by
  have h1:=Sz c A R a r W (h.grow hb)
  rwa [SB hc] at h1
 obtain⟨nr,hnr⟩:∃n,c.rules.length=n:=⟨_,rfl⟩;obtain⟨n,hn⟩:∃n,c.JQ.length=n:=⟨_,rfl⟩;have e0:J7 c A a R r= #[I c.KI,.slice A n a,I c.Lm,.slice R nr r]:=by rw[<-hn,<-hnr];rfl
 obtain⟨lp,hlp⟩:∃l,c.Lm=l:=⟨_,rfl⟩;obtain⟨ep,QL⟩:∃l,c.KI=l:=⟨_,rfl⟩;rw[hlp,QL] at e0;have YK:=JJ e0;have HV:=JJ (OY.start w #[I ep,.slice A n a,I lp,.slice R nr r] 65);rw[e0] at PD⊢;have HRU:=JJ h.rules;have HL3:Hid ((c.rules.flatMap Lr.cells).length=nr*3):=JJ (by rw[KW (s:=3) Lr.cells c.rules (fun _ _=>rfl),hnr]);have HLE:=JJ hc.Lm;have HNR:=JJ hnr;have HNL:=JJ (show nr<=16 by rw[<-hnr];exact hc.rl);have HY:=JJ hy;clear e0 hlp QL hnr hn hc h hy;go_enter Tryz.func121,Tryz.ntmps121;go_wp2_with fail;refine(PD.out _ HV.out.up).mono ?_;rintro e w1 ⟨rfl,hb1⟩;have HW:=JJ (HV.out.grow hb1);clear hb1 HV PD;go_wp2_with fail
 go_loopw [5,6] (fun q i wr=>∃k:Nat,k<=nr/\q=.bool (Yb (c.rules.take k) y)/\i=I (k:Int)/\OY w #[I ep,.slice A n a,I lp,.slice R nr r] wr) (fun _ i _=>nr - (intOf i).toNat)
 case atStart=>exact⟨0,aG _,rfl,rfl,HW.out⟩
 case round=>
  clear HW;obtain⟨k,hk,rfl,rfl,hv⟩:=hrel;have HW:=JJ hv;clear hv;obtain⟨u,hu⟩:∃u,Yb (c.rules.take k) y=u:=⟨_,rfl⟩;rw[hu];have HU:=JJ hu;clear hu;have k16:(k:Int)<=16:=by have:=HNL.out;omega
  by_cases hlt:k<nr
  ·have i0:(0:Int)<=(k:Int):=by omega
   have i1:(k:Int)<(nr:Int):=by omega
   obtain⟨x,hx⟩:∃x,c.rules[k]? =some x:=⟨_,KL (by rw[HNR.out];exact hlt)⟩;obtain⟨b,off,rfl,hbl,hcl⟩:=HRU.out.there (by rw[HL3.out];omega);have hr:=JY (JS.elem (s:=3) (f:=Lr.cells) (fun _ _=>rfl) hcl k x hx) HW.out.up hbl;have hle:=HLE.out x (LQ hx);have HS:=JJ (ak7 (c.rules.take k) x y);rw[<-Oq c.rules k x hx,HU.out] at HS;obtain⟨ev,re,ye⟩:=x;simp only at hle HS;have f0:wr.cell? ⟨b,off+k*3,none⟩=some (I ev):=hr 0 _ rfl;have f1:wr.cell? ⟨b,off+k*3+1,none⟩=some (I re):=hr 1 _ rfl;have f2:wr.cell? ⟨b,off+k*3+2,none⟩=some (.bool ye):=hr 2 _ rfl;have v3:wr.cell? ⟨w.heap.size,3,none⟩=some (.slice (some ⟨b,off,none⟩) nr r):=HW.out.row.2 3;have HMD:=JJ (fun W=>ald y ev W (by omega) (by omega) HY.out);obtain⟨m,hm⟩:∃m,y%ev=m:=⟨_,rfl⟩;rw[hm] at HMD HS;clear hm hle hr hcl hx;go_upto_region 7 with fail;go_quiet (first|(go_at_call 132;refine dY (HMD.out _)));obtain⟨t,ht⟩:∃t,(m==re)=t:=⟨_,rfl⟩;have HT:=JJ ht;cases t
   all_goals
    go_wp2_with fail;go_roundw
    case rel=>exact⟨k+1,by omega,by rw[HS.out,HT.out];rfl,by have h16:=HNL.out;go_num,HW.out.drewN _⟩
    case measure=>simp[intOf];have h16:=HNL.out;omega
  ·have hkn:k=nr:=by omega
   have hlt':¬(k:Int)<(nr:Int):=by omega
   have v3:wr.cell? ⟨w.heap.size,3,none⟩=some (.slice R nr r):=HW.out.row.2 3;have HF:Hid (Yb c.rules y=u):=JJ (by
    have h1:=HU.out
    rwa [aU (by rw[HNR.out];omega)] at h1)
   clear hlt hkn;go_wp2_with fail;go_ret;exact⟨by rw[HF.out];rfl,HW.out.up⟩
theorem aiJ (c:Cal)(A R:aj Addr)(a r:Nat)(w:ae)(hc:MR c)(h:Rw w w.heap.size A R c):Calls Tryz.prog 122 #[.agg (J7 c A a R r)] w (Gives (I (cmG c c.JQ.length)) w):=by
 have HBD:=JJ (afB hc);obtain⟨nr,hnr⟩:∃n,c.rules.length=n:=⟨_,rfl⟩;obtain⟨n,hn⟩:∃n,c.JQ.length=n:=⟨_,rfl⟩;have e0:J7 c A a R r= #[I c.KI,.slice A n a,I c.Lm,.slice R nr r]:=by rw[<-hn,<-hnr];rfl
 obtain⟨lp,hlp⟩:∃l,c.Lm=l:=⟨_,rfl⟩;obtain⟨ep,QL⟩:∃l,c.KI=l:=⟨_,rfl⟩;rw[hlp,QL] at e0;have YK:=JJ e0;have HV:=JJ (OY.start w #[I ep,.slice A n a,I lp,.slice R nr r] 65);rw[e0,hn];rw[hn] at HBD;have HM:=JJ h.JQ;have HNM:=JJ hn;have HNL:=JJ (show n<=16 by rw[<-hn];exact hc.ml.2);have HMO:=JJ hc.mo;clear e0 hlp QL hnr hn hc h;go_enter Tryz.func122,Tryz.ntmps122;go_wp2_with fail
 go_loopw [3,4] (fun q i wr=>∃k:Nat,k<=n/\q=I (cmG c k)/\i=I (k:Int)/\OY w #[I ep,.slice A n a,I lp,.slice R nr r] wr) (fun _ i _=>n - (intOf i).toNat)
 case atStart=>exact⟨0,aG _,rfl,rfl,HV.out⟩
 case round=>
  clear HV;obtain⟨k,hk,rfl,rfl,hv⟩:=hrel;have HW:=JJ hv;clear hv;have hbd:=HBD.out k hk;have HS:Hid (cmG c (k+1)=cmG c k+(c.JQ[k]?.getD 0)):=JJ rfl;obtain⟨u,hu⟩:∃u,cmG c k=u:=⟨_,rfl⟩;rw[hu] at hbd HS⊢;have HU:=JJ hu;clear hu;have k16:(k:Int)<=16:=by have:=HNL.out;omega
  by_cases hlt:k<n
  ·have i0:(0:Int)<=(k:Int):=by omega
   have i1:(k:Int)<(n:Int):=by omega
   obtain⟨x,hx⟩:∃x,c.JQ[k]? =some x:=⟨_,KL (by rw[HNM.out];exact hlt)⟩;obtain⟨b,off,rfl,hbl,hcl⟩:=HM.out.there (by rw[aI,HNM.out];omega);have f0:wr.cell? ⟨b,off+k,none⟩=some (I x):=(HW.out.up.cell (p:=⟨b,off+k,none⟩) hbl).trans (hcl k _ (by rw[aJ,hx];rfl));have v1:wr.cell? ⟨w.heap.size,1,none⟩=some (.slice (some ⟨b,off,none⟩) n a):=HW.out.row.2 1;have hxb:=HMO.out x (LQ hx);rw[hx,jc] at HS;have hs1:0<=u+x/\u+x<=1000:=by omega
   have HXB:=JJ hxb;have HBB:=JJ hbd;clear hx hcl;go_wp2_with fail;go_roundw
   case rel=>exact⟨k+1,by omega,by rw[HS.out],by have h16:=HNL.out;go_num,HW.out⟩
   case measure=>simp[intOf];have h16:=HNL.out;omega
  ·have hkn:k=n:=by omega
   have hlt':¬(k:Int)<(n:Int):=by omega
   have v1:wr.cell? ⟨w.heap.size,1,none⟩=some (.slice A n a):=HW.out.row.2 1;have HF:Hid (cmG c n=u):=JJ (by rw[<-hkn];exact HU.out);clear hlt hkn hbd;go_wp2_with fail;go_ret;exact⟨by rw[HF.out];rfl,HW.out.up⟩
theorem ahw (c:Cal)(A R:aj Addr)(a r:Nat)(y:Int)(w:ae)(hc:MR c)(h:Rw w w.heap.size A R c)(hy:0<=y):Calls Tryz.prog 98 #[.agg (J7 c A a R r),I y] w (Gives (I (VE c y)) w):=by
 have PD:Hid (∀W,ai w.heap.size w W->Calls Tryz.prog 74 #[.agg (J7 c A a R r)] W (Gives (.bool true) W)):=JJ fun W hb=>by
  have h1:=Sz c A R a r W (h.grow hb)
  rwa [SB hc] at h1
 have HLP:Hid (∀W,ai w.heap.size w W->Calls Tryz.prog 121 #[.agg (J7 c A a R r),I y] W (Gives (.bool (Yb c.rules y)) W)):=JJ fun W hb=>ahr _ A R a r y W hc (h.grow hb) hy;have HCM:Hid (∀W,ai w.heap.size w W->Calls Tryz.prog 122 #[.agg (J7 c A a R r)] W (Gives (I (cmG c c.JQ.length)) W)):=JJ fun W hb=>aiJ _ A R a r W hc (h.grow hb);have hcm:0<=cmG c c.JQ.length/\cmG c c.JQ.length<=640:=by
  have h1:=afB hc c.JQ.length (ay _);have h2:=hc.ml;omega
 rw[axB hc y];obtain⟨u,hu⟩:∃u,Yb c.rules y=u:=⟨_,rfl⟩;obtain⟨q,hq⟩:∃q,cmG c c.JQ.length=q:=⟨_,rfl⟩;rw[hu] at HLP⊢;rw[hq] at HCM hcm⊢;obtain⟨ep,lp,A',R',n,m,hcs⟩:∃ep lp,∃A' R':aj Addr,∃n m:Nat,J7 c A a R r= #[I ep,.slice A' n a,I lp,.slice R' m r]:=⟨_,_,_,_,_,_,rfl⟩;rw[hcs] at PD HLP HCM⊢;obtain⟨V,hV⟩:∃V,(q+(if u=true then 1 else 0))=V:=⟨_,rfl⟩;rw[hV];have HVQ:=JJ hV;clear hV;clear hcs hu hq hc h hy;have HV:=JJ (OY.start w #[I ep,.slice A' n a,I lp,.slice R' m r] 65);go_enter Tryz.func98,Tryz.ntmps98;go_wp2_with fail;refine(PD.out _ HV.out.up).mono ?_;rintro e w1 ⟨rfl,hb1⟩;have HW:=JJ (HV.out.grow hb1);have v0:w1.cell? ⟨w.heap.size,0,none⟩=some (I ep):=HW.out.row.2 0;have v1:w1.cell? ⟨w.heap.size,1,none⟩=some (.slice A' n a):=HW.out.row.2 1;have v2:w1.cell? ⟨w.heap.size,2,none⟩=some (I lp):=HW.out.row.2 2;have v3:w1.cell? ⟨w.heap.size,3,none⟩=some (.slice R' m r):=HW.out.row.2 3;clear hb1 HV PD;go_wp2_with fail;clear v0 v1 v2 v3;refine(HLP.out _ HW.out.up).mono ?_;rintro e w2 ⟨rfl,hb1⟩;have HW2:=JJ (HW.out.grow hb1);have v0:w2.cell? ⟨w.heap.size,0,none⟩=some (I ep):=HW2.out.row.2 0;have v1:w2.cell? ⟨w.heap.size,1,none⟩=some (.slice A' n a):=HW2.out.row.2 1;have v2:w2.cell? ⟨w.heap.size,2,none⟩=some (I lp):=HW2.out.row.2 2;have v3:w2.cell? ⟨w.heap.size,3,none⟩=some (.slice R' m r):=HW2.out.row.2 3;clear hb1 HLP HW;cases u
 all_goals
  go_wp2_with fail;refine(HCM.out _ HW2.out.up).mono ?_;rintro e w3 ⟨rfl,hb3⟩;have HB3:=JJ (JL HW2.out.up hb3);clear hb3 v0 v1 v2 v3;go_wp2_with fail;go_ret;exact⟨by rw[<-HVQ.out];simp,HB3.out⟩
theorem aly (c:Cal)(A R:aj Addr)(a r:Nat)(y:Int)(m:Nat)(w:ae)(hc:MR c)(h:Rw w w.heap.size A R c)(hy:0<=y)(hm:m<c.JQ.length):Calls Tryz.prog 120 #[.agg (J7 c A a R r),I y,I ((m:Int)+1)] w (Gives (I (VM c y m)) w):=by
 have PD:Hid (∀W,ai w.heap.size w W->Calls Tryz.prog 74 #[.agg (J7 c A a R r)] W (Gives (.bool true) W)):=JJ fun W hb=>by
  have h1:=Sz c A R a r W (h.grow hb)
  rwa [SB hc] at h1
 have HLP:Hid (∀W,ai w.heap.size w W->Calls Tryz.prog 121 #[.agg (J7 c A a R r),I y] W (Gives (.bool (Yb c.rules y)) W)):=JJ fun W hb=>ahr _ A R a r y W hc (h.grow hb) hy;obtain⟨nr,hnr⟩:∃n,c.rules.length=n:=⟨_,rfl⟩;obtain⟨n,hn⟩:∃n,c.JQ.length=n:=⟨_,rfl⟩;have e0:J7 c A a R r= #[I c.KI,.slice A n a,I c.Lm,.slice R nr r]:=by rw[<-hn,<-hnr];rfl
 obtain⟨lp,hlp⟩:∃l,c.Lm=l:=⟨_,rfl⟩;obtain⟨ep,QL⟩:∃l,c.KI=l:=⟨_,rfl⟩;rw[hlp,QL] at e0;have YK:=JJ e0;have HV:=JJ (OY.start w #[I ep,.slice A n a,I lp,.slice R nr r] 65);rw[e0] at PD HLP⊢;obtain⟨u,hu⟩:∃u,Yb c.rules y=u:=⟨_,rfl⟩;rw[hu] at HLP;obtain⟨V,hV⟩:∃V,VM c y m=V:=⟨_,rfl⟩;rw[hV];obtain⟨x,hx⟩:∃x,c.JQ[m]? =some x:=⟨_,KL hm⟩;have hxb:=hc.mo x (LQ hx);have HVQ:Hid (V=x+(bif (m:Int)==lp then (bif u then 1 else 0) else 0)):=JJ (by
  rw[<-hV,<-hlp,<-hu];unfold VM;rw[hx,jc])
 have HM:=JJ h.JQ;have HX:=JJ hx;have HNM:=JJ hn;have hml:n<=16:=by rw[<-hn];exact hc.ml.2
 rw[hn] at hm;have s1:¬(m:Int)+1<1:=by omega
 have s2:¬(n:Int)<(m:Int)+1:=by omega
 have s3:(m:Int)+1 - 1=(m:Int):=by omega
 have i0:(0:Int)<=(m:Int):=by omega
 have i1:(m:Int)<(n:Int):=by omega
 have aEn:(m:Int)<=15:=by omega
 clear e0 hlp QL hnr hn hc h hy hV hu hx;obtain⟨t,ht⟩:∃t,((m:Int)==lp)=t:=⟨_,rfl⟩;have HT:=JJ ht;cases t
 ·go_enter Tryz.func120,Tryz.ntmps120;go_wp2_with fail;refine(PD.out _ HV.out.up).mono ?_;rintro e w1 ⟨rfl,hb1⟩;have HW:=JJ (HV.out.grow hb1);obtain⟨b,off,rfl,hbl,hcl⟩:=HM.out.there (by rw[aI,HNM.out];omega);have f0:w1.cell? ⟨b,off+m,none⟩=some (I x):=(HW.out.up.cell (p:=⟨b,off+m,none⟩) hbl).trans (hcl m _ (by rw[aJ,HX.out];rfl));have v0:w1.cell? ⟨w.heap.size,0,none⟩=some (I ep):=HW.out.row.2 0;have v1:w1.cell? ⟨w.heap.size,1,none⟩=some (.slice (some ⟨b,off,none⟩) n a):=HW.out.row.2 1;have v2:w1.cell? ⟨w.heap.size,2,none⟩=some (I lp):=HW.out.row.2 2;have v3:w1.cell? ⟨w.heap.size,3,none⟩=some (.slice R nr r):=HW.out.row.2 3;clear hb1 hcl HV PD;go_wp2_with fail;go_ret;exact⟨by rw[HVQ.out,HT.out];simp,HW.out.up⟩
 ·go_enter Tryz.func120,Tryz.ntmps120;go_wp2_with fail;refine(PD.out _ HV.out.up).mono ?_;rintro e w1 ⟨rfl,hb1⟩;have HW:=JJ (HV.out.grow hb1);have v0:w1.cell? ⟨w.heap.size,0,none⟩=some (I ep):=HW.out.row.2 0;have v1:w1.cell? ⟨w.heap.size,1,none⟩=some (.slice A n a):=HW.out.row.2 1;have v2:w1.cell? ⟨w.heap.size,2,none⟩=some (I lp):=HW.out.row.2 2;have v3:w1.cell? ⟨w.heap.size,3,none⟩=some (.slice R nr r):=HW.out.row.2 3;clear hb1 HV PD;go_wp2_with fail;clear v0 v1 v2 v3;refine(HLP.out _ HW.out.up).mono ?_;rintro e w2 ⟨rfl,hb1⟩;have HW2:=JJ (HW.out.grow hb1);obtain⟨b,off,rfl,hbl,hcl⟩:=HM.out.there (by rw[aI,HNM.out];omega);have f0:w2.cell? ⟨b,off+m,none⟩=some (I x):=(HW2.out.up.cell (p:=⟨b,off+m,none⟩) hbl).trans (hcl m _ (by rw[aJ,HX.out];rfl));have v1:w2.cell? ⟨w.heap.size,1,none⟩=some (.slice (some ⟨b,off,none⟩) n a):=HW2.out.row.2 1;clear hb1 hcl HLP HW;cases u
  all_goals
   go_wp2_with fail;go_ret;exact⟨by rw[HVQ.out,HT.out];simp,HW2.out.up⟩
theorem alx (c:Cal)(A R:aj Addr)(a r:Nat)(w:ae)(hc:MR c)(h:Rw w w.heap.size A R c):Calls Tryz.prog 99 #[.agg (J7 c A a R r)] w (Gives (.tuple #[I (cyG c:Int),I (dyG c),.int .i64 0]) w):=by
 have PD:Hid (∀W,ai w.heap.size w W->Calls Tryz.prog 74 #[.agg (J7 c A a R r)] W (Gives (.bool true) W)):=JJ fun W hb=>by
  have h1:=Sz c A R a r W (h.grow hb)
  rwa [SB hc] at h1
 have HY:Hid (∀W,ai w.heap.size w W->∀k:Nat,Calls Tryz.prog 98 #[.agg (J7 c A a R r),I ((k:Int)+1)] W (Gives (I (VE c ((k:Int)+1))) W)):=JJ fun W hb k=>ahw _ A R a r ((k:Int)+1) W hc (h.grow hb) (by omega);have HYB:=JJ (fun k:Nat=>QE c ((k:Int)+1) hc);have SK:=JJ (fun k:Nat=>Wy c k hc);obtain⟨nr,hnr⟩:∃n,c.rules.length=n:=⟨_,rfl⟩;obtain⟨n,hn⟩:∃n,c.JQ.length=n:=⟨_,rfl⟩;have e0:J7 c A a R r= #[I c.KI,.slice A n a,I c.Lm,.slice R nr r]:=by rw[<-hn,<-hnr];rfl
 obtain⟨lp,hlp⟩:∃l,c.Lm=l:=⟨_,rfl⟩;obtain⟨ep,QL⟩:∃l,c.KI=l:=⟨_,rfl⟩;rw[hlp,QL] at e0;have YK:=JJ e0;have HV:=JJ (OY.start w #[I ep,.slice A n a,I lp,.slice R nr r] 65);rw[e0] at PD HY⊢;unfold dyG;obtain⟨N,hN⟩:∃N,cyG c=N:=⟨_,rfl⟩;have hcy:=acg hc;rw[hN] at hcy⊢;have HPE:=JJ hcy.1;have HNB:=JJ hcy.2;have HRU:=JJ h.rules;have HL3:Hid ((c.rules.flatMap Lr.cells).length=nr*3):=JJ (by rw[KW (s:=3) Lr.cells c.rules (fun _ _=>rfl),hnr]);have HNR:=JJ hnr;have HNL:=JJ (show nr<=16 by rw[<-hnr];exact hc.rl);have HGD:=JJ (fun x hx=>(Vy c.rules 1 hc.per x hx));clear e0 hlp QL hnr hn hc h hcy hN;go_enter Tryz.func99,Tryz.ntmps99;go_wp2_with fail;refine(PD.out _ HV.out.up).mono ?_;rintro e w1 ⟨rfl,hb1⟩;have HW:=JJ (HV.out.grow hb1);clear hb1 HV PD;go_wp2_with fail
 go_loopw [5,6] (fun q i wr=>∃k Y:Nat,k<=nr/\q=I (Y:Int)/\i=I (k:Int)/\1<=Y/\Y<=400/\PK c.rules 1=PK (c.rules.drop k) Y/\OY w #[I ep,.slice A n a,I lp,.slice R nr r] wr) (fun _ i _=>nr - (intOf i).toNat)
 case atStart=>exact⟨0,1,aG _,rfl,rfl,by omega,by omega,rfl,HW.out⟩
 case round=>
  clear HW;obtain⟨k,Y,hk,rfl,rfl,hy1,hy2,hp,hv⟩:=hrel;have HW:=JJ hv;have HP:=JJ hp;clear hv hp;have k16:(k:Int)<=16:=by have:=HNL.out;omega
  by_cases hlt:k<nr
  ·have i0:(0:Int)<=(k:Int):=by omega
   have i1:(k:Int)<(nr:Int):=by omega
   obtain⟨x,hx⟩:∃x,c.rules[k]? =some x:=⟨_,KL (by rw[HNR.out];exact hlt)⟩;obtain⟨b,off,rfl,hbl,hcl⟩:=HRU.out.there (by rw[HL3.out];omega);have hr:=JY (JS.elem (s:=3) (f:=Lr.cells) (fun _ _=>rfl) hcl k x hx) HW.out.up hbl;have hgd:=HGD.out x (LQ hx);have hd:c.rules.drop k=x::c.rules.drop (k+1):=by
    rw[eF (by rw[HNR.out];exact hlt)];rw[KL (by rw[HNR.out];exact hlt)] at hx;injection hx with hx;rw[hx]
   rw[hd] at HP;obtain⟨ev,re,ye⟩:=x;simp only at hgd;have f0:wr.cell? ⟨b,off+k*3,none⟩=some (I ev):=hr 0 _ rfl;have v3:wr.cell? ⟨w.heap.size,3,none⟩=some (.slice (some ⟨b,off,none⟩) nr r):=HW.out.row.2 3;have hbad:¬(ev<1\/400<ev\/re<0\/ev<=re):=by omega
   obtain⟨E,rfl⟩:∃E:Nat,ev=(E:Int):=⟨ev.toNat,by omega⟩;obtain⟨L,hL⟩:∃L,Nat.lcm Y E=L:=⟨_,rfl⟩;obtain⟨G,hG⟩:∃G,Nat.gcd Y E=G:=⟨_,rfl⟩;obtain⟨Q,hQ⟩:∃Q,Y / G=Q:=⟨_,rfl⟩;have hG1:0<G:=by rw[<-hG];exact kF _ (by omega)
   have hL1:1<=L:=by rw[<-hL];exact nI (by omega) (by omega)
   have hQE:Q*E=L:=by rw[<-hQ,<-hG,<-hL];exact lcm_div Y E
   have hQ4:Q<=400:=by rw[<-hQ];exact aO (lq _ _) hy2
   have hqi:(Y:Int).tdiv (G:Int)=(Q:Int):=by rw[<-hQ,gK (by omega)];rfl
   have hqe:(Q:Int)*(E:Int)=(L:Int):=by rw[<-hQE];simp
   have hg0:¬(G:Int)=0:=by omega
   have hg1:¬(G:Int)= -1:=by omega
   have HGC:=JJ (fun W=>aeh Y E W (by omega) (by omega));rw[hG] at HGC;have hP2:PK c.rules 1=if 400<L then none else PK (c.rules.drop (k+1)) L:=by
    rw[HP.out];show(if _ then _ else _)=_;rw[bP hbad,jo,hL]
   have hLb:¬400<L:=fun hh=>by
    rw[bD hh,HPE.out] at hP2;cases hP2
   rw[bP hLb] at hP2;have HP2:=JJ hP2;clear hbad hd hr hcl hx hP2 hL HP hG hQ hQE hgd;go_upto_region 7 with fail;go_quiet (first|(go_at_call 95;refine dY (HGC.out _)));go_wp2_with fail;go_roundw
   case rel=>exact⟨k+1,L,by omega,rfl,by have h16:=HNL.out;go_num,hL1,by omega,HP2.out,HW.out.drewN _⟩
   case measure=>simp[intOf];have h16:=HNL.out;omega
  ·have hkn:k=nr:=by omega
   have hlt':¬(k:Int)<(nr:Int):=by omega
   have v3:wr.cell? ⟨w.heap.size,3,none⟩=some (.slice R nr r):=HW.out.row.2 3;have hYN:Y=N:=by
    have h1:=HPE.out;rw[HP.out,dW (by rw[HNR.out];omega)] at h1;injection h1
   subst hYN;clear hlt hkn HP;go_wp2_with fail;clear v3
   go_loopw [7,8] (fun q i wr=>∃k:Nat,k<=Y/\q=I (NQ c k)/\i=I ((k:Int)+1)/\OY w #[I ep,.slice A n a,I lp,.slice R nr r] wr) (fun _ i _=>Y+1 - (intOf i).toNat)
   case atStart=>exact⟨0,aG _,rfl,rfl,HW.out⟩
   case round=>
    clear HW hlt';obtain⟨j,hj,rfl,rfl,hv⟩:=hrel;have HW:=JJ hv;clear hv;have hsb:=SK.out j;have HST:Hid (NQ c (j+1)=NQ c j+VE c ((j:Int)+1)):=JJ rfl;obtain⟨u,hu⟩:∃u,NQ c j=u:=⟨_,rfl⟩;rw[hu] at hsb HST⊢;have HU:=JJ hu;clear hu;have v0:wr.cell? ⟨w.heap.size,0,none⟩=some (I ep):=HW.out.row.2 0;have v1:wr.cell? ⟨w.heap.size,1,none⟩=some (.slice A n a):=HW.out.row.2 1;have v2:wr.cell? ⟨w.heap.size,2,none⟩=some (I lp):=HW.out.row.2 2;have v3:wr.cell? ⟨w.heap.size,3,none⟩=some (.slice R nr r):=HW.out.row.2 3;have j16:(j:Int)<=400:=by have:=HNB.out;omega
    by_cases hjt:j<Y
    ·have j1:(j:Int)+1<=(Y:Int):=by omega
     have hyb:=HYB.out j;have LC:=JJ (HY.out _ HW.out.up j);obtain⟨v,hv⟩:∃v,VE c ((j:Int)+1)=v:=⟨_,rfl⟩;rw[hv] at hyb HST LC;clear hv;have aDl:=JJ hsb;have aDw:=JJ hyb;go_wp2_with fail;refine LC.out.mono ?_;rintro e w2 ⟨rfl,hb1⟩;have HW2:=JJ (HW.out.grow hb1);clear hb1 HW v0 v1 v2 v3;go_wp2_with fail;go_roundw
     case rel=>exact⟨j+1,by omega,by rw[HST.out],by have h16:=HNB.out;go_num,HW2.out⟩
     case measure=>simp[intOf];have h16:=HNB.out;omega
    ·have j1:¬(j:Int)+1<=(Y:Int):=by omega
     have hjy:j=Y:=by omega
     have HF:Hid (NQ c Y=u):=JJ (by rw[<-hjy];exact HU.out);clear hjt hjy hsb;go_wp2_with fail
     go_ret3
     exact⟨by rw[HF.out];rfl,HW.out.up⟩
end Go.Proofs.YtbaehbbonkljpaaGreatDoor
