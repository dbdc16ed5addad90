/- The texts Vg, in this order. -/
import Derived.Test.YtbaehbbonkljpaaGreatDoorT21
set_option maxRecDepth 10000
set_option maxHeartbeats 8000000
namespace Go.Proofs.YtbaehbbonkljpaaGreatDoor
open Go Go.RowKit
theorem ahG {z:Zn}(h:SV z)(k:Nat)(x:Yr)(hx:z.J6[k]? =some x):U5 z.cal.JQ.length x:=by
 rcases h with h|⟨r0,r1,h,h0,h1⟩
 ·rw[h] at hx;cases hx
 ·rw[h] at hx;rcases k with _|_|k
  ·injection hx with hx;rw[<-hx];exact h0
  ·injection hx with hx;rw[<-hx];exact h1
  ·cases hx
theorem aoW {z:Zn}(h:SV z):z.J6.length=0\/z.J6.length=2:=by
 rcases h with h|⟨r0,r1,h,_,_⟩
 ·exact .inl (by rw[h];rfl)
 ·exact .inr (by rw[h];rfl)
theorem as3 {z:Zn}(hq:z.J6.length=0\/z.J6.length=2)(h:∀(k:Nat) (x:Yr),z.J6[k]? =some x->U5 z.cal.JQ.length x):SV z:=by
 obtain⟨cal,st,tr,ho,yr⟩:=z;simp only at hq h;rcases yr with _|⟨r0,_|⟨r1,_|⟨r2,l⟩⟩⟩
 ·exact .inl rfl
 ·simp at hq
 ·exact .inr ⟨r0,r1,rfl,h 0 r0 rfl,h 1 r1 rfl⟩
 ·simp at hq
theorem ak0 {z:Zn}{a:Tr}(he:VF z=UW z)(ha:MH (VF z) (Nr z*1440) z.hor=(a,false)):X3 z:=fun _ h2=>by
 have h:=Zt (VF z) (Nr z*1440) z.hor;rw[ha,he] at h;simp only at h;rw[aZ h2] at h;cases h
theorem aiy {z:Zn}(h:z.trans.length=0):X3 z:=fun h1=>by omega
theorem aiz {z:Zn}{a:Tr}{m:Nat}(he:VF z=UW z)(ha:MH (VF z) (Nr z*1440) z.hor=(a,true))(hm:z.trans.length=m+1)(h:¬a.at_ - Nz z.trans m<2160):X3 z:=fun _ _=>by
 rw[<-he,ha,hm,show m+1 - 1=m by omega];show 2160<=a.at_ - _;omega
theorem aix {z:Zn}{a:Tr}{m:Nat}(he:VF z=UW z)(ha:MH (VF z) (Nr z*1440) z.hor=(a,true))(hm:z.trans.length=m+1)(h:a.at_ - Nz z.trans m<2160):¬X3 z:=fun hl=>by
 have h0:=Zt (VF z) (Nr z*1440) z.hor;rw[ha] at h0;have h1:(VF z).length≠0:=gZ h0.symm;have h2:=hl (by omega) (by rw[<-he];exact h1);rw[<-he,ha,hm,show m+1 - 1=m by omega] at h2;have h3:2160<=a.at_ - Nz z.trans m:=h2;omega
theorem aej (z:Zn)(s:Zs)(w:ae)(h:N7 w w.heap.size s z):Calls Tryz.prog 56 #[.agg (JV z s)] w (Gives (I (VH z)) w):=by
 have HVL:Hid (∀W,ai w.heap.size w W->Calls Tryz.prog 74 #[.agg (J7 z.cal s.A s.a s.B s.b)] W (Gives (.bool (vC z.cal)) W)):=JJ fun W hb=>Sz z.cal s.A s.B s.a s.b W ⟨h.JQ.grow hb,h.rules.grow hb⟩;have YM:Hid (∀W,ai w.heap.size w W->MR z.cal->SV z->z.trans.length<=512->Calls Tryz.prog 76 #[.agg (JV z s)] W (anv W (VF z) (Me (VF z) (Nr z*1440)))):=JJ fun W hb h1 h2 h3=>aiN z s W h1 (h.grow hb) h2 (by omega);have TD:Hid (∀W,ai w.heap.size w W->MR z.cal->Calls Tryz.prog 78 #[.agg (JV z s)] W (Gives (I (Nr z)) W)):=JJ fun W hb h1=>ahx z s W h1 (h.grow hb);have ajG:Hid (512<z.trans.length->VH z=2):=JJ ao7;have ajF:Hid (z.trans.length<=512->¬YR z->VH z=1):=JJ ao6;have abd:Hid (YR z->VH z=0):=JJ amw;obtain⟨res,hres⟩:∃r,VH z=r:=⟨_,rfl⟩;rw[hres] at ajG ajF abd⊢;have HH:=JJ h;clear h hres;obtain⟨cal,st,tr,ho,yr⟩:=z;obtain⟨A0,a,R0,r,C0,c0,D0,d0⟩:=s;simp only at HVL YM TD ajG ajF;obtain⟨vb,hvb⟩:∃b,vC cal=b:=⟨_,rfl⟩;have HVB:=JJ hvb;obtain⟨m,hmm⟩:∃m,tr.length=m:=⟨_,rfl⟩;obtain⟨q,hq⟩:∃q,yr.length=q:=⟨_,rfl⟩;obtain⟨n0,hn0⟩:∃n,cal.JQ.length=n:=⟨_,rfl⟩;obtain⟨n1,hn1⟩:∃n,cal.rules.length=n:=⟨_,rfl⟩;obtain⟨ep,XM⟩:∃ep,cal.KI=ep:=⟨_,rfl⟩;obtain⟨lp,ZH⟩:∃lp,cal.Lm=lp:=⟨_,rfl⟩;have Qc:=JJ hmm;have HQL:=JJ hq;have HN0:=JJ hn0;unfold J7 at HVL;unfold JV at YM TD⊢;simp only[XM,ZH,hn0,hn1,hmm,hq,hvb] at YM TD HVL ajG ajF⊢;have HV:=JJ (OY.start w #[I ep,.slice A0 n0 a,I lp,.slice R0 n1 r,I st,.slice C0 m c0,I ho,.slice D0 q d0] 69);clear XM ZH hn0 hn1 hmm hq hvb;by_cases hbig:512<m
 ·have HR:Hid (res=2):=JJ (ajG.out hbig);have hb':(512:Int)<(m:Int):=by omega
  go_enter Tryz.func56,Tryz.ntmps56;go_wp2_with fail;go_ret;exact⟨by rw[HR.out];rfl,HV.out.up⟩
 have akN:m<=512:=by omega
 have hb':¬(512:Int)<(m:Int):=by omega
 have HBAD:Hid (¬YR ⟨cal,st,tr,ho,yr⟩->res=1):=JJ (ajF.out akN);clear hbig ajG ajF;obtain⟨b1,hb1⟩:∃b,wiB st 1080=b:=⟨_,rfl⟩;obtain⟨b2,hb2⟩:∃b,wiB ho 2251799813685248=b:=⟨_,rfl⟩;have HB1:=JJ hb1;have HB2:=JJ hb2;have HWA:=JJ (fun W=>Q7 st 1080 b1 W hb1 (by omega) (by omega));have HWB:=JJ (fun W=>Q7 ho 2251799813685248 b2 W hb2 (by omega) (by omega));clear hb1 hb2;obtain⟨b3,hb3⟩:∃b,decide (q=0\/q=2)=b:=⟨_,rfl⟩;have HB3:=JJ hb3;obtain⟨g,hg⟩:∃g,(vb&&(b1&&(b2&&b3)))=g:=⟨_,rfl⟩;have HG:=JJ hg;clear hg hb3;go_enter Tryz.func56,Tryz.ntmps56;go_upto_region 3 with fail
 go_cut [42] (fun v wx=>v=.bool (!g)/\OY w #[I ep,.slice A0 n0 a,I lp,.slice R0 n1 r,I st,.slice C0 m c0,I ho,.slice D0 q d0] wx)
 case first=>
  as_aux_lemma=>
   go_wp2_with fail;refine(HVL.out _ HV.out.up).mono ?_;rintro e w1 ⟨rfl,hb1⟩;have HW:=JJ (HV.out.grow hb1);clear hb1;have v0:w1.cell? ⟨w.heap.size,0,none⟩=some (I ep):=HW.out.row.2 0;have v1:w1.cell? ⟨w.heap.size,1,none⟩=some (.slice A0 n0 a):=HW.out.row.2 1;have v2:w1.cell? ⟨w.heap.size,2,none⟩=some (I lp):=HW.out.row.2 2;have v3:w1.cell? ⟨w.heap.size,3,none⟩=some (.slice R0 n1 r):=HW.out.row.2 3;have v4:w1.cell? ⟨w.heap.size,4,none⟩=some (I st):=HW.out.row.2 4;have v5:w1.cell? ⟨w.heap.size,5,none⟩=some (.slice C0 m c0):=HW.out.row.2 5;have v6:w1.cell? ⟨w.heap.size,6,none⟩=some (I ho):=HW.out.row.2 6;have v7:w1.cell? ⟨w.heap.size,7,none⟩=some (.slice D0 q d0):=HW.out.row.2 7;cases vb with
   |false=>
    go_wp2_with fail;go_meet;exact⟨by rw[<-HG.out];rfl,HW.out⟩
   |true=>
    go_wp2_with fail;refine(HWA.out w1).mono ?_;rintro e w2 ⟨rfl,rfl⟩;cases b1 with
    |false=>
     go_wp2_with fail;go_meet;exact⟨by rw[<-HG.out];rfl,HW.out⟩
    |true=>
     go_wp2_with fail;refine(HWB.out w2).mono ?_;rintro e w3 ⟨rfl,rfl⟩;cases b2 with
     |false=>
      go_wp2_with fail;go_meet;exact⟨by rw[<-HG.out];rfl,HW.out⟩
     |true=>
      have hqq:((q:Int) !=0)=false/\b3=true\/((q:Int) !=0)=true/\((q:Int) !=2)=false/\b3=true\/((q:Int) !=0)=true/\((q:Int) !=2)=true/\b3=false:=by
       have h3:=HB3.out;by_cases q0:q=0
       ·exact .inl ⟨by simp[q0],by rw[<-h3];simp[q0]⟩
       ·by_cases q2:q=2
        ·exact .inr (.inl ⟨by simp[q2],by simp[q2],by rw[<-h3];simp[q2]⟩)
        ·exact .inr (.inr ⟨by simp;omega,by simp;omega,by rw[<-h3];simp[q0,q2]⟩)
      rcases hqq with ⟨t0,rfl⟩|⟨t0,t1,rfl⟩|⟨t0,t1,rfl⟩
      all_goals
       go_wp2_with fail;go_meet;exact⟨by rw[<-HG.out];rfl,HW.out⟩
 case rest=>
  obtain⟨rfl,hv⟩:=hcut;have HW:=JJ hv;clear hv HV HVL HWA HWB;cases g with
  |false=>
   have HR:Hid (res=1):=JJ (HBAD.out fun hg=>by
    have h1:=HVB.out;have h2:=HB1.out;have h3:=HB2.out;have h4:=HB3.out;have h5:=HG.out;rw[SB hg.cal] at h1;rw[Tn hg.st] at h2;rw[Tn hg.ho] at h3;have h6:=aoW hg.yr;simp only at h6;rw[HQL.out] at h6;rw[aZ h6] at h4;rw[<-h1,<-h2,<-h3,<-h4] at h5;cases h5)
   go_wp2_with fail;go_ret;exact⟨by rw[HR.out];rfl,HW.out.up⟩
  |true=>
   have h5:=HG.out;rw[eX,eX,eX] at h5;obtain⟨e1,e2,e3,e4⟩:=h5;have HCG:Hid (MR cal):=JJ ((aao cal).1 (HVB.out.trans e1));have HST:Hid (-1080<=st/\st<=1080):=JJ (aas (HB1.out.trans e2));have hho: -2251799813685248<=ho/\ho<=2251799813685248:=aas (HB2.out.trans e3);have PR:Hid (q=0\/q=2):=JJ (gZ (HB3.out.trans e4));have q2:(q:Int)<=2:=by have:=PR.out;omega
   clear e1 e2 e3 e4 HVB HB1 HB2 HB3 HG;go_wp2_with fail
   go_loopw [3] (fun i wr=>∃k:Nat,k<=m/\i=I (k:Int)/\(∀j,j<k->Qo ⟨cal,st,tr,ho,yr⟩ j)/\OY w #[I ep,.slice A0 n0 a,I lp,.slice R0 n1 r,I st,.slice C0 m c0,I ho,.slice D0 q d0] wr) (fun i _=>m - (intOf i).toNat)
   case atStart=>exact⟨0,aG _,rfl,(fun _ h=>absurd h (fD _)),HW.out⟩
   case round=>
    clear HW;obtain⟨k,hk,rfl,hall,hv⟩:=hrel;have HX:=JJ hv;have Ox:=JJ hall;clear hv hall;by_cases hlt:k<m
    ·as_aux_lemma=>
      have hct:=Xq HH.out.trans HX.out.up (by show 0<tr.length;rw[Qc.out];omega);obtain⟨tb,tf,hC,htc⟩:=hct;simp only at hC;subst hC;have v0:wr.cell? ⟨w.heap.size,0,none⟩=some (I ep):=HX.out.row.2 0;have v1:wr.cell? ⟨w.heap.size,1,none⟩=some (.slice A0 n0 a):=HX.out.row.2 1;have v2:wr.cell? ⟨w.heap.size,2,none⟩=some (I lp):=HX.out.row.2 2;have v3:wr.cell? ⟨w.heap.size,3,none⟩=some (.slice R0 n1 r):=HX.out.row.2 3;have v4:wr.cell? ⟨w.heap.size,4,none⟩=some (I st):=HX.out.row.2 4;have v5:wr.cell? ⟨w.heap.size,5,none⟩=some (.slice (some ⟨tb,tf,none⟩) m c0):=HX.out.row.2 5;have v6:wr.cell? ⟨w.heap.size,6,none⟩=some (I ho):=HX.out.row.2 6;have v7:wr.cell? ⟨w.heap.size,7,none⟩=some (.slice D0 q d0):=HX.out.row.2 7;obtain⟨x0,x1⟩:=htc k (by show k<tr.length;rw[Qc.out];exact hlt);simp only at x0 x1;obtain⟨a1,ha1⟩:∃v,Nz tr k=v:=⟨_,rfl⟩;obtain⟨o1,ho1⟩:∃v,Pn tr k=v:=⟨_,rfl⟩;rw[ha1] at x0;rw[ho1] at x1;have HA1:=JJ ha1;have VS:=JJ ho1;clear ho1 ha1;have i0:(0:Int)<=(k:Int):=by omega
      have i1:(k:Int)<(m:Int):=by omega
      obtain⟨b1,hb1⟩:∃b,wiB o1 1080=b:=⟨_,rfl⟩;obtain⟨b2,hb2⟩:∃b,wiB a1 2251799813685248=b:=⟨_,rfl⟩;have HB1:=JJ hb1;have HB2:=JJ hb2;have HWO:=JJ (fun W=>Q7 o1 1080 b1 W hb1 (by omega) (by omega));have HWT:=JJ (fun W=>Q7 a1 2251799813685248 b2 W hb2 (by omega) (by omega));clear hb1 hb2;go_wp2_with fail;clear v0 v1 v2 v3 v4 v5 v6 v7;have Yy:Hid (OY w #[I ep,.slice A0 n0 a,I lp,.slice R0 n1 r,I st,.slice (some ⟨tb,tf,none⟩) m c0,I ho,.slice D0 q d0] (wr.alloc (.cells #[I a1,I o1] 108))):=JJ (HX.out.alloc _);have HRW:=(Row.new wr #[I a1,I o1] 108).2;have t0:(wr.alloc (.cells #[I a1,I o1] 108)).cell? ⟨wr.heap.size,0,none⟩=some (I a1):=HRW 0;have t1:(wr.alloc (.cells #[I a1,I o1] 108)).cell? ⟨wr.heap.size,1,none⟩=some (I o1):=HRW 1;clear HRW x0 x1 htc;generalize wr.alloc (.cells #[I a1,I o1] 108)=W1 at Yy t0 t1⊢;have v0:W1.cell? ⟨w.heap.size,0,none⟩=some (I ep):=Yy.out.row.2 0;have v1:W1.cell? ⟨w.heap.size,1,none⟩=some (.slice A0 n0 a):=Yy.out.row.2 1;have v2:W1.cell? ⟨w.heap.size,2,none⟩=some (I lp):=Yy.out.row.2 2;have v3:W1.cell? ⟨w.heap.size,3,none⟩=some (.slice R0 n1 r):=Yy.out.row.2 3;have v4:W1.cell? ⟨w.heap.size,4,none⟩=some (I st):=Yy.out.row.2 4;have v5:W1.cell? ⟨w.heap.size,5,none⟩=some (.slice (some ⟨tb,tf,none⟩) m c0):=Yy.out.row.2 5;have v6:W1.cell? ⟨w.heap.size,6,none⟩=some (I ho):=Yy.out.row.2 6;have v7:W1.cell? ⟨w.heap.size,7,none⟩=some (.slice D0 q d0):=Yy.out.row.2 7;cases b1 with
      |false=>
       have HR:Hid (res=1):=JJ (HBAD.out fun hg=>by
        have ht:=hg.tr k (by show k<tr.length;rw[Qc.out];omega);unfold Qo at ht;simp only at ht;rw[HA1.out,VS.out] at ht;exact acR HB1.out ht.1
       )
       go_quiet (first|(go_at_call 75;with_reducible refine dY (HWO.out _))|(go_at_call 75;with_reducible refine dY (HWT.out _)));go_wp2_with fail;go_ret;exact⟨by rw[HR.out];rfl,jQ Yy.out.up _⟩
      |true=>
       cases b2 with
       |false=>
        have HR:Hid (res=1):=JJ (HBAD.out fun hg=>by
         have ht:=hg.tr k (by show k<tr.length;rw[Qc.out];omega);unfold Qo at ht;simp only at ht;rw[HA1.out,VS.out] at ht;exact acR HB2.out ht.2.1
        )
        go_quiet (first|(go_at_call 75;with_reducible refine dY (HWO.out _))|(go_at_call 75;with_reducible refine dY (HWT.out _)));go_wp2_with fail;go_ret;exact⟨by rw[HR.out];rfl,jQ Yy.out.up _⟩
       |true=>
        have Rl:=aas HB1.out;have hba:=aas HB2.out;by_cases hah:ho<=a1
        ·have aAe:decide (ho<=a1)=true:=aZ hah;have HR:Hid (res=1):=JJ (HBAD.out fun hg=>by
          have ht:=hg.tr k (by show k<tr.length;rw[Qc.out];omega);unfold Qo at ht;simp only at ht;rw[HA1.out,VS.out] at ht;omega
         )
         go_quiet (first|(go_at_call 75;with_reducible refine dY (HWO.out _))|(go_at_call 75;with_reducible refine dY (HWT.out _)));go_wp2_with fail;go_ret;exact⟨by rw[HR.out];rfl,jQ Yy.out.up _⟩
        ·have aAe:decide (ho<=a1)=false:=bT hah;cases k with
         |zero=>
          have HN:Hid (∀j,j<0+1->Qo ⟨cal,st,tr,ho,yr⟩ j):=JJ (fun j hj=>by
           have hj0:j=0:=by omega
           subst hj0;unfold Qo;simp only;rw[HA1.out,VS.out];exact⟨by omega,by omega,by omega,.inl trivial⟩)
          go_quiet (first|(go_at_call 75;with_reducible refine dY (HWO.out _))|(go_at_call 75;with_reducible refine dY (HWT.out _)));go_wp2_with fail;go_roundw
          case rel=>exact⟨0+1,by omega,by go_num,HN.out,Yy.out.drewN _⟩
          case measure=>simp[intOf];omega
         |succ k'=>
          obtain⟨tb2,tf2,hC2,awX⟩:=Xq HH.out.trans Yy.out.up (by show 0<tr.length;rw[Qc.out];omega);simp only at hC2;injection hC2 with hC2;injection hC2 with e1 e2;subst e1 e2;have x0p:=(awX k' (by show k'<tr.length;rw[Qc.out];omega)).1;have hpr:=Ox.out k' (by omega);unfold Qo at hpr;simp only at x0p hpr;obtain⟨a2,ha2⟩:∃v,Nz tr k'=v:=⟨_,rfl⟩;rw[ha2] at x0p hpr;have HA2:=JJ ha2;have hbq:=hpr.2.1;clear ha2 hpr awX;have j0:decide ((0:Int)<(k':Int)+1)=true:=aZ (by omega);have j1:((k'+1:Nat):Int) - 1=(k':Int):=by omega
          have j2:(k':Int)<(m:Int):=by omega
          by_cases hgp:a1 - a2<2160
          ·have j3:decide (a1 - a2<2160)=true:=aZ hgp;have HR:Hid (res=1):=JJ (HBAD.out fun hg=>by
            have ht:=hg.tr (k'+1) (by show k'+1<tr.length;rw[Qc.out];omega);unfold Qo at ht;simp only at ht;rw[HA1.out,VS.out,show k'+1 - 1=k' by omega,HA2.out] at ht;omega
           )
           go_quiet (first|(go_at_call 75;with_reducible refine dY (HWO.out _))|(go_at_call 75;with_reducible refine dY (HWT.out _)));go_wp2_with fail;go_ret;exact⟨by rw[HR.out];rfl,jQ Yy.out.up _⟩
          ·have j3:decide (a1 - a2<2160)=false:=bT hgp;have HN:Hid (∀j,j<k'+1+1->Qo ⟨cal,st,tr,ho,yr⟩ j):=JJ (fun j hj=>by
            rcases fG.1 hj with h|rfl
            ·exact Ox.out j h
            ·unfold Qo;simp only;rw[HA1.out,VS.out,show k'+1 - 1=k' by omega,HA2.out];exact⟨by omega,by omega,by omega,.inr (by omega)⟩)
           go_quiet (first|(go_at_call 75;with_reducible refine dY (HWO.out _))|(go_at_call 75;with_reducible refine dY (HWT.out _)));go_wp2_with fail;go_roundw
           case rel=>exact⟨k'+1+1,by omega,by go_num,HN.out,Yy.out.drewN _⟩
           case measure=>simp[intOf];omega
    ·have hkm:k=m:=by omega
     have hnl:¬(k:Int)<(m:Int):=by omega
     have HTR:Hid (∀j,j<m->Qo ⟨cal,st,tr,ho,yr⟩ j):=JJ (by rw[<-hkm];exact Ox.out);have v0:wr.cell? ⟨w.heap.size,0,none⟩=some (I ep):=HX.out.row.2 0;have v1:wr.cell? ⟨w.heap.size,1,none⟩=some (.slice A0 n0 a):=HX.out.row.2 1;have v2:wr.cell? ⟨w.heap.size,2,none⟩=some (I lp):=HX.out.row.2 2;have v3:wr.cell? ⟨w.heap.size,3,none⟩=some (.slice R0 n1 r):=HX.out.row.2 3;have v4:wr.cell? ⟨w.heap.size,4,none⟩=some (I st):=HX.out.row.2 4;have v5:wr.cell? ⟨w.heap.size,5,none⟩=some (.slice C0 m c0):=HX.out.row.2 5;have v6:wr.cell? ⟨w.heap.size,6,none⟩=some (I ho):=HX.out.row.2 6;have v7:wr.cell? ⟨w.heap.size,7,none⟩=some (.slice D0 q d0):=HX.out.row.2 7;clear hkm Ox;go_wp2_with fail;clear v0 v1 v2 v3 v4 v5 v6 v7
     go_loopw [5] (fun i wr=>∃k:Nat,k<=q/\i=I (k:Int)/\(∀(j:Nat) (x:Yr),j<k->yr[j]? =some x->U5 n0 x)/\OY w #[I ep,.slice A0 n0 a,I lp,.slice R0 n1 r,I st,.slice C0 m c0,I ho,.slice D0 q d0] wr) (fun i _=>q - (intOf i).toNat)
     case atStart=>exact⟨0,aG _,rfl,(fun _ _ h=>absurd h (fD _)),HX.out⟩
     case round=>
      clear HX hnl;obtain⟨j,hj,rfl,hall,hv⟩:=hrel;have HX:=JJ hv;have Ox:=JJ hall;clear hv hall;by_cases hlt:j<q
      ·as_aux_lemma=>
        obtain⟨x,hx⟩:∃x,yr[j]? =some x:=⟨_,KL (by rw[HQL.out];exact hlt)⟩;obtain⟨yb,yo,hD,hyb,hyc⟩:=HH.out.J6.there (by show 0<(yr.flatMap Yr.cells).length;rw[KW (s:=5) Yr.cells _ fun _ _=>rfl,HQL.out];omega);simp only at hD hyc;subst hD;have hya:=JY (JS.elem (s:=5) (f:=Yr.cells) (xs:=yr) (fun _ _=>rfl) hyc j x hx) HX.out.up hyb;have HXX:=JJ hx;clear hx hyc;obtain⟨mo,wk,wd,mi,of⟩:=x;have Ym:wr.cell? ⟨yb,yo+j*5,none⟩=some (I mo):=hya 0 _ rfl;have Yn:wr.cell? ⟨yb,yo+j*5+1,none⟩=some (I wk):=hya 1 _ rfl;have Yo:wr.cell? ⟨yb,yo+j*5+2,none⟩=some (I wd):=hya 2 _ rfl;have Yp:wr.cell? ⟨yb,yo+j*5+3,none⟩=some (I mi):=hya 3 _ rfl;have Yq:wr.cell? ⟨yb,yo+j*5+4,none⟩=some (I of):=hya 4 _ rfl;have v0:wr.cell? ⟨w.heap.size,0,none⟩=some (I ep):=HX.out.row.2 0;have v1:wr.cell? ⟨w.heap.size,1,none⟩=some (.slice A0 n0 a):=HX.out.row.2 1;have v2:wr.cell? ⟨w.heap.size,2,none⟩=some (I lp):=HX.out.row.2 2;have v3:wr.cell? ⟨w.heap.size,3,none⟩=some (.slice R0 n1 r):=HX.out.row.2 3;have v4:wr.cell? ⟨w.heap.size,4,none⟩=some (I st):=HX.out.row.2 4;have v5:wr.cell? ⟨w.heap.size,5,none⟩=some (.slice C0 m c0):=HX.out.row.2 5;have v6:wr.cell? ⟨w.heap.size,6,none⟩=some (I ho):=HX.out.row.2 6;have v7:wr.cell? ⟨w.heap.size,7,none⟩=some (.slice (some ⟨yb,yo,none⟩) q d0):=HX.out.row.2 7;have i0:(0:Int)<=(j:Int):=by omega
        have i1:(j:Int)<(q:Int):=by omega
        obtain⟨b1,hb1⟩:∃b,wiB of 1080=b:=⟨_,rfl⟩;have HB1:=JJ hb1;have HWO:=JJ (fun W=>Q7 of 1080 b1 W hb1 (by omega) (by omega));have aEz:yb<wr.heap.size:=LK hyb HX.out.up.size;have aEl:w.heap.size<wr.heap.size:=HX.out.row.1;clear hb1 hya hyb;go_wp2_with fail;refine(HWO.out _).mono ?_;rintro e wq ⟨rfl,rfl⟩;have Yy:=JJ (HX.out.alloc (.cells #[I mo,I wk,I wd,I mi,I of] 110));cases b1 with
        |false=>
         have HR:Hid (res=1):=JJ (HBAD.out fun hg=>acR HB1.out (ahG hg.yr j _ HXX.out).of);go_wp2_with fail;go_ret;exact⟨by rw[HR.out];rfl,Yy.out.up⟩
        |true=>
         have hof:=aas HB1.out;have h9:(mo<1)\/(¬mo<1/\(n0:Int)<mo)\/(¬mo<1/\¬(n0:Int)<mo/\wk<1)\/(¬mo<1/\¬(n0:Int)<mo/\¬wk<1/\(5:Int)<wk)\/(¬mo<1/\¬(n0:Int)<mo/\¬wk<1/\¬(5:Int)<wk/\wd<0)\/(¬mo<1/\¬(n0:Int)<mo/\¬wk<1/\¬(5:Int)<wk/\¬wd<0/\(6:Int)<wd)\/(¬mo<1/\¬(n0:Int)<mo/\¬wk<1/\¬(5:Int)<wk/\¬wd<0/\¬(6:Int)<wd/\mi<0)\/(¬mo<1/\¬(n0:Int)<mo/\¬wk<1/\¬(5:Int)<wk/\¬wd<0/\¬(6:Int)<wd/\¬mi<0/\(1439:Int)<mi)\/(¬mo<1/\¬(n0:Int)<mo/\¬wk<1/\¬(5:Int)<wk/\¬wd<0/\¬(6:Int)<wd/\¬mi<0/\¬(1439:Int)<mi):=by omega
         rcases h9 with u0|⟨u0,u1⟩|⟨u0,u1,u2⟩|⟨u0,u1,u2,u3⟩|⟨u0,u1,u2,u3,u4⟩|⟨u0,u1,u2,u3,u4,u5⟩|⟨u0,u1,u2,u3,u4,u5,u6⟩|⟨u0,u1,u2,u3,u4,u5,u6,u7⟩|⟨u0,u1,u2,u3,u4,u5,u6,u7⟩
         iterate 8
          ·have HR:Hid (res=1):=JJ (HBAD.out fun hg=>by
            have hy:=ahG hg.yr j _ HXX.out;have p1:=hy.mo;have p2:=hy.wk;have p3:=hy.wd;have p4:=hy.mi;simp only at p1 p2 p3 p4;rw[HN0.out] at p1;omega)
           go_wp2_with fail;go_ret;exact⟨by rw[HR.out];rfl,Yy.out.up⟩
         have HN:Hid (∀(i:Nat) (x:Yr),i<j+1->yr[i]? =some x->U5 n0 x):=JJ (fun i x hi hx=>by
          rcases fG.1 hi with h|rfl
          ·exact Ox.out i x h hx
          ·rw[HXX.out] at hx;injection hx with hx;rw[<-hx];exact⟨by show 1<=mo/\mo<=_;omega,by show 1<=wk/\wk<=5;omega,by show 0<=wd/\wd<=6;omega,by show 0<=mi/\mi<1440;omega,hof⟩)
         go_wp2_with fail;go_roundw
         case rel=>exact⟨j+1,by omega,by go_num,HN.out,Yy.out⟩
         case measure=>simp[intOf];omega
      ·have hkm:j=q:=by omega
       have hnl:¬(j:Int)<(q:Int):=by omega
       have HYV:Hid (SV ⟨cal,st,tr,ho,yr⟩):=JJ (as3 (by show yr.length=0\/yr.length=2;rw[HQL.out];exact PR.out) (fun i x hx=>by
        have hil:i<yr.length:=by
         rcases lJ i yr.length with h|h
         ·exact h
         ·have hx':yr[i]? =some x:=hx;rw[jP h] at hx';cases hx'
        have h1:=Ox.out i x (by rw[hkm,<-HQL.out];exact hil) hx;show U5 cal.JQ.length x;rw[HN0.out];exact h1))
       have v0:wr.cell? ⟨w.heap.size,0,none⟩=some (I ep):=HX.out.row.2 0;have v1:wr.cell? ⟨w.heap.size,1,none⟩=some (.slice A0 n0 a):=HX.out.row.2 1;have v2:wr.cell? ⟨w.heap.size,2,none⟩=some (I lp):=HX.out.row.2 2;have v3:wr.cell? ⟨w.heap.size,3,none⟩=some (.slice R0 n1 r):=HX.out.row.2 3;have v4:wr.cell? ⟨w.heap.size,4,none⟩=some (I st):=HX.out.row.2 4;have v5:wr.cell? ⟨w.heap.size,5,none⟩=some (.slice C0 m c0):=HX.out.row.2 5;have v6:wr.cell? ⟨w.heap.size,6,none⟩=some (I ho):=HX.out.row.2 6;have v7:wr.cell? ⟨w.heap.size,7,none⟩=some (.slice D0 q d0):=HX.out.row.2 7;clear hkm Ox;go_wp2_with fail;clear v0 v1 v2 v3 v4 v5 v6 v7
       as_aux_lemma=>
        refine(YM.out _ HX.out.up HCG.out HYV.out akN).mono ?_;rintro e w4 ⟨A,n,c,hlen,rfl,hown,hb4⟩;have HY:Hid (YS w #[I ep,.slice A0 n0 a,I lp,.slice R0 n1 r,I st,.slice C0 m c0,I ho,.slice D0 q d0] w4 A n c (VF ⟨cal,st,tr,ho,yr⟩)):=JJ ⟨HX.out.row.keep hb4,hown.lower HX.out.row.1,JL HX.out.up hb4,hlen⟩;have hB:=axC ⟨cal,st,tr,ho,yr⟩ HCG.out HYV.out;have hzc:=Xv ⟨cal,st,tr,ho,yr⟩ HCG.out;have hgs:=amf ⟨cal,st,tr,ho,yr⟩ HCG.out HYV.out (Nr ⟨cal,st,tr,ho,yr⟩*1440);have WU:Hid (Me (UW ⟨cal,st,tr,ho,yr⟩) (Nr ⟨cal,st,tr,ho,yr⟩*1440)=true->VF ⟨cal,st,tr,ho,yr⟩=UW ⟨cal,st,tr,ho,yr⟩):=JJ (fun h=>as4 _ HCG.out HYV.out h);have aqI:=JJ (fun W hb=>TD.out W hb HCG.out);obtain⟨gp,hgp⟩:∃g,Me (VF ⟨cal,st,tr,ho,yr⟩) (Nr ⟨cal,st,tr,ho,yr⟩*1440)=g:=⟨_,rfl⟩;rw[hgp] at hgs⊢;have HGP:=JJ hgs;obtain⟨cyc,arZ⟩:∃v,Nr ⟨cal,st,tr,ho,yr⟩=v:=⟨_,rfl⟩;rw[arZ] at hzc aqI;have ayR:=JJ arZ;obtain⟨ts,hts⟩:∃v,VF ⟨cal,st,tr,ho,yr⟩=v:=⟨_,rfl⟩;rw[hts] at HY hB hlen;have HTS:=JJ hts;have awS:n<=10000000:=by omega
        have HAF:Hid (∀W,YS w #[I ep,.slice A0 n0 a,I lp,.slice R0 n1 r,I st,.slice C0 m c0,I ho,.slice D0 q d0] W A n c ts->Calls Tryz.prog 77 #[.slice A n c,I cyc,I ho] W (Gives (.tuple #[.agg #[I (MH ts (cyc*1440) ho).1.at_,I (MH ts (cyc*1440) ho).1.off],.bool (MH ts (cyc*1440) ho).2]) W)):=
         JJ fun W hY=>als (w.heap.size+1) n c A ts cyc ho W hY.len awS hY.own hB.1 hzc.1 hzc.2 hho.1 hho.2
        have aAi:=JJ hB.1;clear hown hb4 hts arZ hgp hgs hB hlen awS HX YM TD;have TD:=aqI;clear aqI;cases gp with
        |false=>
         have HR:Hid (res=1):=JJ (HBAD.out fun hg=>by
          have h1:=hg.LM;rw[<-HGP.out] at h1;cases h1)
         go_wp2_with fail;go_ret;exact⟨by rw[HR.out];rfl,HY.out.up⟩
        |true=>
         have HES:=JJ (WU.out HGP.out.symm);obtain⟨af,haf⟩:∃v,MH ts (cyc*1440) ho=v:=⟨_,rfl⟩;rw[haf] at HAF;have at1:=JJ haf;clear haf;obtain⟨⟨xat,xof⟩,sm⟩:=af;have aqy:Hid (MH (VF ⟨cal,st,tr,ho,yr⟩) (Nr ⟨cal,st,tr,ho,yr⟩*1440) ho=(⟨xat,xof⟩,sm)):=JJ (by rw[HTS.out,ayR.out];exact at1.out);have HXB:Hid (-10000000000<=xat/\xat<=4000000000000000):=JJ (by have h:=ah9 (t:=ho) (aAi.out) (show 1440<=cyc*1440 by omega) (by omega) hho.1 hho.2;rw[at1.out] at h;exact h);simp only at HAF;have hlt4:w.heap.size<w4.heap.size:=HY.out.row.1;have v0:w4.cell? ⟨w.heap.size,0,none⟩=some (I ep):=HY.out.row.2 0;have v1:w4.cell? ⟨w.heap.size,1,none⟩=some (.slice A0 n0 a):=HY.out.row.2 1;have v2:w4.cell? ⟨w.heap.size,2,none⟩=some (I lp):=HY.out.row.2 2;have v3:w4.cell? ⟨w.heap.size,3,none⟩=some (.slice R0 n1 r):=HY.out.row.2 3;have v4:w4.cell? ⟨w.heap.size,4,none⟩=some (I st):=HY.out.row.2 4;have v5:w4.cell? ⟨w.heap.size,5,none⟩=some (.slice C0 m c0):=HY.out.row.2 5;have v6:w4.cell? ⟨w.heap.size,6,none⟩=some (I ho):=HY.out.row.2 6;have v7:w4.cell? ⟨w.heap.size,7,none⟩=some (.slice D0 q d0):=HY.out.row.2 7;go_upto_region 20 with fail
         go_cut [9,10] (fun p ok wx=>∃b,p=.pointer (some ⟨b,0,none⟩)/\ok=.bool sm/\wx.cell? ⟨b,0,none⟩=some (I xat)/\OY w #[I ep,.slice A0 n0 a,I lp,.slice R0 n1 r,I st,.slice C0 m c0,I ho,.slice D0 q d0] wx)
         case first=>
          go_region_law (first
           |(go_simp;go_at_call 78;refine Calls.mono (TD.out _ ?hcb) ?_;(case hcb=>(first|exact HY.out.up.drew|exact(HY.out.call (JM w4 _)).up.drew));rintro e w5 ⟨rfl,hb5⟩;(first|have UO:=JJ (HY.out.call (JL (aW _ w4).drew hb5))|(have UO:=JJ (HY.out.call (JL (JM w4 (.cells #[I 0,I 0] 108)).drew hb5));have hz5:w5.heap[w4.heap.size]? =some (.cells #[I 0,I 0] 108 (0,0)):=(hb5.block _ (Qk (aF w4 (.cells #[I 0,I 0] 108)))).trans (aF w4 _);have q0:=aC _ _ 0 _ _ _ hz5;have q1:=aC _ _ 1 _ _ _ hz5;have qf:=fun i=>aP _ _ i _ _ hz5));have v6':w5.cell? ⟨w.heap.size,6,none⟩=some (I ho):=UO.out.row.2 6;have awN:w.heap.size<w5.heap.size:=UO.out.row.1)
           |(go_simp;go_at_call 77;refine Calls.mono (HAF.out _ ?hcb) ?_;(case hcb=>(first|exact UO.out|exact UO.out.call (JM w5 _)));rintro e w6 ⟨rfl,hb6⟩;(first|have HS6:=JJ (UO.out.call hb6)|(have HS6:=JJ (UO.out.call (JL (JM w5 (.cells #[I 0,I 0] 108)) hb6));have hz6:w6.heap[w5.heap.size]? =some (.cells #[I 0,I 0] 108 (0,0)):=(hb6.block _ (Qk (aF w5 (.cells #[I 0,I 0] 108)))).trans (aF w5 _);have q0:=aC _ _ 0 _ _ _ hz6;have q1:=aC _ _ 1 _ _ _ hz6;have qf:=fun i=>aP _ _ i _ _ hz6));(try (have aaY:w6.heap[w4.heap.size]? =some (.cells #[I 0,I 0] 108 (0,0)):=(hb6.block _ (Qk hz5)).trans hz5;have q0:=aC _ _ 0 _ _ _ aaY;have q1:=aC _ _ 1 _ _ _ aaY;have qf:=fun i=>aP _ _ i _ _ aaY))))
          all_goals
           go_wp2_with fail;go_meet
           first
            |(have hzz:=aaY;exact⟨w4.heap.size,rfl,rfl,aC _ _ 0 _ _ _ (bJ _ w4.heap.size 1 _ _ _ (bJ _ w4.heap.size 0 _ _ _ hzz)),(HY.out.call (((JL (JL (JM w4 _).drew hb5) hb6).setCell (p:=⟨w4.heap.size,0,none⟩) (ay _) _).setCell (p:=⟨w4.heap.size,1,none⟩) (ay _) _)).row,(HY.out.call (((JL (JL (JM w4 _).drew hb5) hb6).setCell (p:=⟨w4.heap.size,0,none⟩) (ay _) _).setCell (p:=⟨w4.heap.size,1,none⟩) (ay _) _)).up⟩)
            |(have hzz:=hz6;exact⟨w5.heap.size,rfl,rfl,aC _ _ 0 _ _ _ (bJ _ w5.heap.size 1 _ _ _ (bJ _ w5.heap.size 0 _ _ _ hzz)),(UO.out.call (((JL (JM w5 _) hb6).setCell (p:=⟨w5.heap.size,0,none⟩) (ay _) _).setCell (p:=⟨w5.heap.size,1,none⟩) (ay _) _)).row,(UO.out.call (((JL (JM w5 _) hb6).setCell (p:=⟨w5.heap.size,0,none⟩) (ay _) _).setCell (p:=⟨w5.heap.size,1,none⟩) (ay _) _)).up⟩)
            |exact⟨w6.heap.size,rfl,rfl,(Row.new w6 #[I xat,I xof] 108).2 0,(HS6.out.call (JM w6 _)).row,(HS6.out.call (JM w6 _)).up⟩
         case rest=>
          obtain⟨b,rfl,rfl,hx,hcv⟩:=hcut;have HXC:=JJ hx;have HCV:=JJ hcv;clear hx hcv HAF TD HY hlt4;clear v0 v1 v2 v3 v4 v5 v6 v7;have x0:wc.cell? ⟨b,0,none⟩=some (I xat):=HXC.out;have v5:wc.cell? ⟨w.heap.size,5,none⟩=some (.slice C0 m c0):=HCV.out.row.2 5;have HOK:Hid (X3 ⟨cal,st,tr,ho,yr⟩->res=0):=JJ (fun hl=>abd.out ⟨by show tr.length<=512;rw[Qc.out];exact akN,HCG.out,HST.out,hho,fun i hi=>HTR.out i (by rw[<-Qc.out];exact hi),HYV.out,HGP.out.symm,hl⟩);cases sm with
          |false=>
           have HR0:Hid (res=0):=JJ (HOK.out (ak0 HES.out aqy.out));go_wp2_with fail;go_quiet (fail);go_wp2_with fail;go_ret;exact⟨by rw[HR0.out];rfl,JL HCV.out.up (below_drewN' _ _)⟩
          |true=>
           cases m with
           |zero=>
            have HR0:Hid (res=0):=JJ (HOK.out (aiy Qc.out));go_wp2_with fail;go_quiet (fail);go_wp2_with fail;go_ret;exact⟨by rw[HR0.out];rfl,JL HCV.out.up (below_drewN' _ _)⟩
           |succ m'=>
            obtain⟨tb,tf,hC,htc⟩:=Xq HH.out.trans HCV.out.up (by show 0<tr.length;rw[Qc.out];omega);simp only at hC;subst hC;have y0:=(htc m' (by show m'<tr.length;rw[Qc.out];omega)).1;have hpr:=HTR.out m' (by omega);unfold Qo at hpr;simp only at y0 hpr;obtain⟨a1,ha1⟩:∃v,Nz tr m'=v:=⟨_,rfl⟩;rw[ha1] at y0 hpr;have hbd:=hpr.2.1;have HA1:=JJ ha1;clear ha1 htc hpr;have hxb: -10000000000<=xat/\xat<=4000000000000000:=HXB.out;have j0:decide ((0:Int)<(m':Int)+1)=true:=aZ (by omega);have j1:(m':Int)+1 - 1=(m':Int):=by omega
            have j2:(m':Int)<(m':Int)+1:=by omega
            obtain⟨t,ht⟩:∃t,decide (xat - a1<2160)=t:=⟨_,rfl⟩;have HT:=JJ ht;cases t with
            |false=>
             have HR0:Hid (res=0):=JJ (HOK.out (aiz HES.out aqy.out Qc.out (by show¬xat - Nz tr m'<2160;rw[HA1.out];exact oN HT.out)));go_wp2_with fail;go_quiet (fail);go_wp2_with fail;go_ret;exact⟨by rw[HR0.out];rfl,JL HCV.out.up (below_drewN' _ _)⟩
            |true=>
             have HR0:Hid (res=1):=JJ (HBAD.out fun hg=>aix HES.out aqy.out Qc.out (by show xat - Nz tr m'<2160;rw[HA1.out];exact gZ HT.out) hg.late);go_wp2_with fail;go_quiet (fail);go_wp2_with fail;go_ret;exact⟨by rw[HR0.out];rfl,JL HCV.out.up (below_drewN' _ _)⟩
end Go.Proofs.YtbaehbbonkljpaaGreatDoor
