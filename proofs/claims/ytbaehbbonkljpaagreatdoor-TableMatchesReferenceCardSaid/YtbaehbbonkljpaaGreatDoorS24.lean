/- The texts Vg, in this order. -/
import Derived.Test.YtbaehbbonkljpaaGreatDoorS00
import Derived.Test.YtbaehbbonkljpaaGreatDoorS10
import Derived.Test.YtbaehbbonkljpaaGreatDoorS23
set_option maxRecDepth 10000
set_option maxHeartbeats 8000000
namespace Go.Proofs.YtbaehbbonkljpaaGreatDoor
open Go Go.RowKit
theorem Pj {z:Zn} (h:qw z) (k:Nat) (x:Yr) (hx:z.aH[k]? =some x):ui z.cal.au.length x:=by
 rcases h with h|⟨r0,r1,h,h0,h1⟩
 ·rw [h] at hx;cases hx
 ·rw [h] at hx;rcases k with _|_|k
  ·injection hx with hx;rw [<-hx];exact h0
  ·injection hx with hx;rw [<-hx];exact h1
  ·cases hx
theorem YY {z:Zn} (h:qw z):z.aH.length=0\/z.aH.length=2:=by
 rcases h with h|⟨r0,r1,h,_,_⟩
 ·exact .inl (by rw [h];rfl)
 ·exact .inr (by rw [h];rfl)
theorem yrs_of {z:Zn} (hq:z.aH.length=0\/z.aH.length=2) (h:∀(k:Nat) (x:Yr),z.aH[k]? =some x->ui z.cal.au.length x):qw z:=by
 obtain ⟨cal,st,tr,ho,yr⟩:=z;simp only at hq h;rcases yr with _|⟨r0,_|⟨r1,_|⟨r2,l⟩⟩⟩
 ·exact .inl rfl
 ·simp at hq
 ·exact .inr ⟨r0,r1,rfl,h 0 r0 rfl,h 1 r1 rfl⟩
 ·simp at hq
theorem Uj {z:Zn} {a:Tr} (he:uZ z=tJ z) (ha:eY (uZ z) (gy z*1440) z.hor=(a,false)):yZ z:=fun _ h2=>by
 have h:=BA (uZ z) (gy z*1440) z.hor;rw [ha,he] at h;simp only at h;rw [decide_eq_true h2] at h;cases h
theorem Qs {z:Zn} (h:z.trans.length=0):yZ z:=fun h1=>by omega
theorem Qu {z:Zn} {a:Tr} {m:Nat} (he:uZ z=tJ z) (ha:eY (uZ z) (gy z*1440) z.hor=(a,true)) (hm:z.trans.length=m+1) (h:¬a.at_ - gU z.trans m<2160):yZ z:=fun _ _=>by
 rw [<-he,ha,hm,show m+1 - 1=m by omega];show 2160<=a.at_ - _;omega
theorem Qr {z:Zn} {a:Tr} {m:Nat} (he:uZ z=tJ z) (ha:eY (uZ z) (gy z*1440) z.hor=(a,true)) (hm:z.trans.length=m+1) (h:a.at_ - gU z.trans m<2160):¬yZ z:=fun hl=>by
 have h0:=BA (uZ z) (gy z*1440) z.hor;rw [ha] at h0;have h1:(uZ z).length≠0:=of_decide_eq_true h0.symm;have h2:=hl (by omega) (by rw [<-he];exact h1);rw [<-he,ha,hm,show m+1 - 1=m by omega] at h2;have h3:2160<=a.at_ - gU z.trans m:=h2;omega
theorem Jy (z:Zn) (s:Zs) (w:World) (h:iP w w.heap.size s z):Calls Tryz.prog 56 #[.agg (ay z s)] w (Gives (I (vg z)) w):=by
 have KX:Hid (∀W,Below w.heap.size w W->Calls Tryz.prog 74 #[.agg (aI z.cal s.A s.a s.B s.b)] W (Gives (.bool (vC z.cal)) W)):=ae fun W hb=>pU z.cal s.A s.B s.a s.b W ⟨h.au.grow hb,h.rules.grow hb⟩;have KC:Hid (∀W,Below w.heap.size w W->fJ z.cal->qw z->z.trans.length<=512->Calls Tryz.prog 76 #[.agg (ay z s)] W (Xv W (uZ z) (eH (uZ z) (gy z*1440)))):=ae fun W hb h1 h2 h3=>QD z s W h1 (h.grow hb) h2 (by omega);have qX:Hid (∀W,Below w.heap.size w W->fJ z.cal->Calls Tryz.prog 78 #[.agg (ay z s)] W (Gives (I (gy z)) W)):=ae fun W hb h1=>O5 z s W h1 (h.grow hb);have RQ:Hid (512<z.trans.length->vg z=2):=ae Za;have RP:Hid (z.trans.length<=512->¬Ag z->vg z=1):=ae Y9;have Ew:Hid (Ag z->vg z=0):=ae VQ;obtain ⟨res,hres⟩:∃r,vg z=r:=⟨_,rfl⟩;rw [hres] at RQ RP Ew ⊢;have HH:=ae h;clear h hres;obtain ⟨cal,st,tr,ho,yr⟩:=z;obtain ⟨A0,a,R0,r,C0,c0,D0,d0⟩:=s;simp only at KX KC qX RQ RP;obtain ⟨vb,hvb⟩:∃b,vC cal=b:=⟨_,rfl⟩;have Ru:=ae hvb;obtain ⟨m,hmm⟩:∃m,tr.length=m:=⟨_,rfl⟩;obtain ⟨q,hq⟩:∃q,yr.length=q:=⟨_,rfl⟩;obtain ⟨n0,hn0⟩:∃n,cal.au.length=n:=⟨_,rfl⟩;obtain ⟨n1,hn1⟩:∃n,cal.rules.length=n:=⟨_,rfl⟩;obtain ⟨ep,yG⟩:∃ep,cal.bn=ep:=⟨_,rfl⟩;obtain ⟨lp,BQ⟩:∃lp,cal.dA=lp:=⟨_,rfl⟩;have qV:=ae hmm;have HQL:=ae hq;have HN0:=ae hn0;unfold aI at KX;unfold ay at KC qX ⊢;simp only [yG,BQ,hn0,hn1,hmm,hq,hvb] at KC qX KX RQ RP ⊢;have HV:=ae (jD.start w #[I ep, .slice A0 n0 a,I lp, .slice R0 n1 r,I st, .slice C0 m c0,I ho, .slice D0 q d0] 69);clear yG BQ hn0 hn1 hmm hq hvb;by_cases hbig:512<m
 ·have HR:Hid (res=2):=ae (RQ.out hbig);have hb':(512:Int)<(m:Int):=by omega
  go_enter Tryz.func56,Tryz.ntmps56;go_wp2_with fail;go_ret;exact ⟨by rw [HR.out];rfl,HV.out.up⟩
 have TY:m<=512:=by omega
 have hb':¬(512:Int)<(m:Int):=by omega
 have HBAD:Hid (¬Ag ⟨cal,st,tr,ho,yr⟩->res=1):=ae (RP.out TY);clear hbig RQ RP;obtain ⟨b1,hb1⟩:∃b,En st 1080=b:=⟨_,rfl⟩;obtain ⟨b2,hb2⟩:∃b,En ho 2251799813685248=b:=⟨_,rfl⟩;have HB1:=ae hb1;have HB2:=ae hb2;have HWA:=ae (fun W=>nS st 1080 b1 W hb1 (by omega) (by omega));have HWB:=ae (fun W=>nS ho 2251799813685248 b2 W hb2 (by omega) (by omega));clear hb1 hb2;obtain ⟨b3,hb3⟩:∃b,decide (q=0\/q=2)=b:=⟨_,rfl⟩;have HB3:=ae hb3;obtain ⟨g,hg⟩:∃g,(vb&&(b1&&(b2&&b3)))=g:=⟨_,rfl⟩;have HG:=ae hg;clear hg hb3;go_enter Tryz.func56,Tryz.ntmps56;go_upto_region 3 with fail
 go_cut [42] (fun v wx=>v= .bool (!g)/\jD w #[I ep, .slice A0 n0 a,I lp, .slice R0 n1 r,I st, .slice C0 m c0,I ho, .slice D0 q d0] wx)
 case first=>
  as_aux_lemma=>
   go_wp2_with fail;refine (KX.out _ HV.out.up).mono ?_;rintro e w1 ⟨rfl,hb1⟩;have HW:=ae (HV.out.grow hb1);clear hb1;have v0:w1.cell? ⟨w.heap.size,0,none⟩=some (I ep):=HW.out.row.2 0;have v1:w1.cell? ⟨w.heap.size,1,none⟩=some (.slice A0 n0 a):=HW.out.row.2 1;have v2:w1.cell? ⟨w.heap.size,2,none⟩=some (I lp):=HW.out.row.2 2;have v3:w1.cell? ⟨w.heap.size,3,none⟩=some (.slice R0 n1 r):=HW.out.row.2 3;have v4:w1.cell? ⟨w.heap.size,4,none⟩=some (I st):=HW.out.row.2 4;have v5:w1.cell? ⟨w.heap.size,5,none⟩=some (.slice C0 m c0):=HW.out.row.2 5;have v6:w1.cell? ⟨w.heap.size,6,none⟩=some (I ho):=HW.out.row.2 6;have v7:w1.cell? ⟨w.heap.size,7,none⟩=some (.slice D0 q d0):=HW.out.row.2 7;cases vb with
   |false=>
    go_wp2_with fail;go_meet;exact ⟨by rw [<-HG.out];rfl,HW.out⟩
   |true=>
    go_wp2_with fail;refine (HWA.out w1).mono ?_;rintro e w2 ⟨rfl,rfl⟩;cases b1 with
    |false=>
     go_wp2_with fail;go_meet;exact ⟨by rw [<-HG.out];rfl,HW.out⟩
    |true=>
     go_wp2_with fail;refine (HWB.out w2).mono ?_;rintro e w3 ⟨rfl,rfl⟩;cases b2 with
     |false=>
      go_wp2_with fail;go_meet;exact ⟨by rw [<-HG.out];rfl,HW.out⟩
     |true=>
      have hqq:((q:Int) !=0)=false/\b3=true\/((q:Int) !=0)=true/\((q:Int) !=2)=false/\b3=true\/((q:Int) !=0)=true/\((q:Int) !=2)=true/\b3=false:=by
       have h3:=HB3.out;by_cases q0:q=0
       ·exact .inl ⟨by simp [q0],by rw [<-h3];simp [q0]⟩
       ·by_cases q2:q=2
        ·exact .inr (.inl ⟨by simp [q2],by simp [q2],by rw [<-h3];simp [q2]⟩)
        ·exact .inr (.inr ⟨by simp;omega,by simp;omega,by rw [<-h3];simp [q0,q2]⟩)
      rcases hqq with ⟨t0,rfl⟩|⟨t0,t1,rfl⟩|⟨t0,t1,rfl⟩
      all_goals
       go_wp2_with fail;go_meet;exact ⟨by rw [<-HG.out];rfl,HW.out⟩
 case rest=>
  obtain ⟨rfl,hv⟩:=hcut;have HW:=ae hv;clear hv HV KX HWA HWB;cases g with
  |false=>
   have HR:Hid (res=1):=ae (HBAD.out fun hg=>by
    have h1:=Ru.out;have h2:=HB1.out;have h3:=HB2.out;have h4:=HB3.out;have h5:=HG.out;rw [pY hg.cal] at h1;rw [qG hg.st] at h2;rw [qG hg.ho] at h3;have h6:=YY hg.yr;simp only at h6;rw [HQL.out] at h6;rw [decide_eq_true h6] at h4;rw [<-h1,<-h2,<-h3,<-h4] at h5;cases h5)
   go_wp2_with fail;go_ret;exact ⟨by rw [HR.out];rfl,HW.out.up⟩
  |true=>
   have h5:=HG.out;rw [Bool.and_eq_true,Bool.and_eq_true,Bool.and_eq_true] at h5;obtain ⟨e1,e2,e3,e4⟩:=h5;have Rn:Hid (fJ cal):=ae ((CZ cal).1 (Ru.out.trans e1));have HST:Hid (-1080<=st/\st<=1080):=ae (Dh (HB1.out.trans e2));have hho: -2251799813685248<=ho/\ho<=2251799813685248:=Dh (HB2.out.trans e3);have jr:Hid (q=0\/q=2):=ae (of_decide_eq_true (HB3.out.trans e4));have q2:(q:Int)<=2:=by have:=jr.out;omega
   clear e1 e2 e3 e4 Ru HB1 HB2 HB3 HG;go_wp2_with fail
   go_loopw [3] (fun i wr=>∃k:Nat,k<=m/\i=I (k:Int)/\(∀j,j<k->lH ⟨cal,st,tr,ho,yr⟩ j)/\jD w #[I ep, .slice A0 n0 a,I lp, .slice R0 n1 r,I st, .slice C0 m c0,I ho, .slice D0 q d0] wr) (fun i _=>m - (intOf i).toNat)
   case atStart=>exact ⟨0,Nat.zero_le _,rfl,(fun _ h=>absurd h (Nat.not_lt_zero _)),HW.out⟩
   case round=>
    clear HW;obtain ⟨k,hk,rfl,hall,hv⟩:=hrel;have HX:=ae hv;have iq:=ae hall;clear hv hall;by_cases hlt:k<m
    ·as_aux_lemma=>
      have hct:=xN HH.out.trans HX.out.up (by show 0<tr.length;rw [qV.out];omega);obtain ⟨tb,tf,hC,htc⟩:=hct;simp only at hC;subst hC;have v0:wr.cell? ⟨w.heap.size,0,none⟩=some (I ep):=HX.out.row.2 0;have v1:wr.cell? ⟨w.heap.size,1,none⟩=some (.slice A0 n0 a):=HX.out.row.2 1;have v2:wr.cell? ⟨w.heap.size,2,none⟩=some (I lp):=HX.out.row.2 2;have v3:wr.cell? ⟨w.heap.size,3,none⟩=some (.slice R0 n1 r):=HX.out.row.2 3;have v4:wr.cell? ⟨w.heap.size,4,none⟩=some (I st):=HX.out.row.2 4;have v5:wr.cell? ⟨w.heap.size,5,none⟩=some (.slice (some ⟨tb,tf,none⟩) m c0):=HX.out.row.2 5;have v6:wr.cell? ⟨w.heap.size,6,none⟩=some (I ho):=HX.out.row.2 6;have v7:wr.cell? ⟨w.heap.size,7,none⟩=some (.slice D0 q d0):=HX.out.row.2 7;obtain ⟨x0,x1⟩:=htc k (by show k<tr.length;rw [qV.out];exact hlt);simp only at x0 x1;obtain ⟨a1,ha1⟩:∃v,gU tr k=v:=⟨_,rfl⟩;obtain ⟨o1,ho1⟩:∃v,jI tr k=v:=⟨_,rfl⟩;rw [ha1] at x0;rw [ho1] at x1;have HA1:=ae ha1;have FQ:=ae ho1;clear ho1 ha1;have i0:(0:Int)<=(k:Int):=by omega
      have i1:(k:Int)<(m:Int):=by omega
      obtain ⟨b1,hb1⟩:∃b,En o1 1080=b:=⟨_,rfl⟩;obtain ⟨b2,hb2⟩:∃b,En a1 2251799813685248=b:=⟨_,rfl⟩;have HB1:=ae hb1;have HB2:=ae hb2;have ZL:=ae (fun W=>nS o1 1080 b1 W hb1 (by omega) (by omega));have HWT:=ae (fun W=>nS a1 2251799813685248 b2 W hb2 (by omega) (by omega));clear hb1 hb2;go_wp2_with fail;clear v0 v1 v2 v3 v4 v5 v6 v7;have Be:Hid (jD w #[I ep, .slice A0 n0 a,I lp, .slice R0 n1 r,I st, .slice (some ⟨tb,tf,none⟩) m c0,I ho, .slice D0 q d0] (wr.alloc (.cells #[I a1,I o1] 108))):=ae (HX.out.alloc _);have HRW:=(Row.new wr #[I a1,I o1] 108).2;have t0:(wr.alloc (.cells #[I a1,I o1] 108)).cell? ⟨wr.heap.size,0,none⟩=some (I a1):=HRW 0;have t1:(wr.alloc (.cells #[I a1,I o1] 108)).cell? ⟨wr.heap.size,1,none⟩=some (I o1):=HRW 1;clear HRW x0 x1 htc;generalize wr.alloc (.cells #[I a1,I o1] 108)=W1 at Be t0 t1 ⊢;have v0:W1.cell? ⟨w.heap.size,0,none⟩=some (I ep):=Be.out.row.2 0;have v1:W1.cell? ⟨w.heap.size,1,none⟩=some (.slice A0 n0 a):=Be.out.row.2 1;have v2:W1.cell? ⟨w.heap.size,2,none⟩=some (I lp):=Be.out.row.2 2;have v3:W1.cell? ⟨w.heap.size,3,none⟩=some (.slice R0 n1 r):=Be.out.row.2 3;have v4:W1.cell? ⟨w.heap.size,4,none⟩=some (I st):=Be.out.row.2 4;have v5:W1.cell? ⟨w.heap.size,5,none⟩=some (.slice (some ⟨tb,tf,none⟩) m c0):=Be.out.row.2 5;have v6:W1.cell? ⟨w.heap.size,6,none⟩=some (I ho):=Be.out.row.2 6;have v7:W1.cell? ⟨w.heap.size,7,none⟩=some (.slice D0 q d0):=Be.out.row.2 7;cases b1 with
      |false=>
       have HR:Hid (res=1):=ae (HBAD.out fun hg=>by
        have ht:=hg.tr k (by show k<tr.length;rw [qV.out];omega);unfold lH at ht;simp only at ht;rw [HA1.out,FQ.out] at ht;exact G9 HB1.out ht.1
       )
       go_quiet (first|(go_at_call 75;with_reducible refine Calls.quiet_of_same (ZL.out _))|(go_at_call 75;with_reducible refine Calls.quiet_of_same (HWT.out _)));go_wp2_with fail;go_ret;exact ⟨by rw [HR.out];rfl,below_drewN Be.out.up _⟩
      |true=>
       cases b2 with
       |false=>
        have HR:Hid (res=1):=ae (HBAD.out fun hg=>by
         have ht:=hg.tr k (by show k<tr.length;rw [qV.out];omega);unfold lH at ht;simp only at ht;rw [HA1.out,FQ.out] at ht;exact G9 HB2.out ht.2.1
        )
        go_quiet (first|(go_at_call 75;with_reducible refine Calls.quiet_of_same (ZL.out _))|(go_at_call 75;with_reducible refine Calls.quiet_of_same (HWT.out _)));go_wp2_with fail;go_ret;exact ⟨by rw [HR.out];rfl,below_drewN Be.out.up _⟩
       |true=>
        have nZ:=Dh HB1.out;have hba:=Dh HB2.out;by_cases hah:ho<=a1
        ·have hahd:decide (ho<=a1)=true:=decide_eq_true hah;have HR:Hid (res=1):=ae (HBAD.out fun hg=>by
          have ht:=hg.tr k (by show k<tr.length;rw [qV.out];omega);unfold lH at ht;simp only at ht;rw [HA1.out,FQ.out] at ht;omega
         )
         go_quiet (first|(go_at_call 75;with_reducible refine Calls.quiet_of_same (ZL.out _))|(go_at_call 75;with_reducible refine Calls.quiet_of_same (HWT.out _)));go_wp2_with fail;go_ret;exact ⟨by rw [HR.out];rfl,below_drewN Be.out.up _⟩
        ·have hahd:decide (ho<=a1)=false:=decide_eq_false hah;cases k with
         |zero=>
          have HN:Hid (∀j,j<0+1->lH ⟨cal,st,tr,ho,yr⟩ j):=ae (fun j hj=>by
           have hj0:j=0:=by omega
           subst hj0;unfold lH;simp only;rw [HA1.out,FQ.out];exact ⟨by omega,by omega,by omega, .inl trivial⟩)
          go_quiet (first|(go_at_call 75;with_reducible refine Calls.quiet_of_same (ZL.out _))|(go_at_call 75;with_reducible refine Calls.quiet_of_same (HWT.out _)));go_wp2_with fail;go_roundw
          case rel=>exact ⟨0+1,by omega,by go_num,HN.out,Be.out.drewN _⟩
          case measure=>simp [intOf];omega
         |succ k'=>
          obtain ⟨tb2,tf2,hC2,htc2⟩:=xN HH.out.trans Be.out.up (by show 0<tr.length;rw [qV.out];omega);simp only at hC2;injection hC2 with hC2;injection hC2 with e1 e2;subst e1 e2;have x0p:=(htc2 k' (by show k'<tr.length;rw [qV.out];omega)).1;have hpr:=iq.out k' (by omega);unfold lH at hpr;simp only at x0p hpr;obtain ⟨a2,ha2⟩:∃v,gU tr k'=v:=⟨_,rfl⟩;rw [ha2] at x0p hpr;have HA2:=ae ha2;have hbq:=hpr.2.1;clear ha2 hpr htc2;have j0:decide ((0:Int)<(k':Int)+1)=true:=decide_eq_true (by omega);have j1:((k'+1:Nat):Int) - 1=(k':Int):=by omega
          have j2:(k':Int)<(m:Int):=by omega
          by_cases Ig:a1 - a2<2160
          ·have j3:decide (a1 - a2<2160)=true:=decide_eq_true Ig;have HR:Hid (res=1):=ae (HBAD.out fun hg=>by
            have ht:=hg.tr (k'+1) (by show k'+1<tr.length;rw [qV.out];omega);unfold lH at ht;simp only at ht;rw [HA1.out,FQ.out,show k'+1 - 1=k' by omega,HA2.out] at ht;omega
           )
           go_quiet (first|(go_at_call 75;with_reducible refine Calls.quiet_of_same (ZL.out _))|(go_at_call 75;with_reducible refine Calls.quiet_of_same (HWT.out _)));go_wp2_with fail;go_ret;exact ⟨by rw [HR.out];rfl,below_drewN Be.out.up _⟩
          ·have j3:decide (a1 - a2<2160)=false:=decide_eq_false Ig;have HN:Hid (∀j,j<k'+1+1->lH ⟨cal,st,tr,ho,yr⟩ j):=ae (fun j hj=>by
            rcases Nat.lt_succ_iff_lt_or_eq.1 hj with h|rfl
            ·exact iq.out j h
            ·unfold lH;simp only;rw [HA1.out,FQ.out,show k'+1 - 1=k' by omega,HA2.out];exact ⟨by omega,by omega,by omega, .inr (by omega)⟩)
           go_quiet (first|(go_at_call 75;with_reducible refine Calls.quiet_of_same (ZL.out _))|(go_at_call 75;with_reducible refine Calls.quiet_of_same (HWT.out _)));go_wp2_with fail;go_roundw
           case rel=>exact ⟨k'+1+1,by omega,by go_num,HN.out,Be.out.drewN _⟩
           case measure=>simp [intOf];omega
    ·have XW:k=m:=by omega
     have hnl:¬(k:Int)<(m:Int):=by omega
     have HTR:Hid (∀j,j<m->lH ⟨cal,st,tr,ho,yr⟩ j):=ae (by rw [<-XW];exact iq.out);have v0:wr.cell? ⟨w.heap.size,0,none⟩=some (I ep):=HX.out.row.2 0;have v1:wr.cell? ⟨w.heap.size,1,none⟩=some (.slice A0 n0 a):=HX.out.row.2 1;have v2:wr.cell? ⟨w.heap.size,2,none⟩=some (I lp):=HX.out.row.2 2;have v3:wr.cell? ⟨w.heap.size,3,none⟩=some (.slice R0 n1 r):=HX.out.row.2 3;have v4:wr.cell? ⟨w.heap.size,4,none⟩=some (I st):=HX.out.row.2 4;have v5:wr.cell? ⟨w.heap.size,5,none⟩=some (.slice C0 m c0):=HX.out.row.2 5;have v6:wr.cell? ⟨w.heap.size,6,none⟩=some (I ho):=HX.out.row.2 6;have v7:wr.cell? ⟨w.heap.size,7,none⟩=some (.slice D0 q d0):=HX.out.row.2 7;clear XW iq;go_wp2_with fail;clear v0 v1 v2 v3 v4 v5 v6 v7
     go_loopw [5] (fun i wr=>∃k:Nat,k<=q/\i=I (k:Int)/\(∀(j:Nat) (x:Yr),j<k->yr[j]? =some x->ui n0 x)/\jD w #[I ep, .slice A0 n0 a,I lp, .slice R0 n1 r,I st, .slice C0 m c0,I ho, .slice D0 q d0] wr) (fun i _=>q - (intOf i).toNat)
     case atStart=>exact ⟨0,Nat.zero_le _,rfl,(fun _ _ h=>absurd h (Nat.not_lt_zero _)),HX.out⟩
     case round=>
      clear HX hnl;obtain ⟨j,hj,rfl,hall,hv⟩:=hrel;have HX:=ae hv;have iq:=ae hall;clear hv hall;by_cases hlt:j<q
      ·as_aux_lemma=>
        obtain ⟨x,hx⟩:∃x,yr[j]? =some x:=⟨_,bK (by rw [HQL.out];exact hlt)⟩;obtain ⟨yb,yo,hD,hyb,KJ⟩:=HH.out.aH.there (by show 0<(yr.flatMap Yr.cells).length;rw [bZ (s:=5) Yr.cells _ fun _ _=>rfl,HQL.out];omega);simp only at hD KJ;subst hD;have hya:=aS (aA.elem (s:=5) (f:=Yr.cells) (xs:=yr) (fun _ _=>rfl) KJ j x hx) HX.out.up hyb;have HXX:=ae hx;clear hx KJ;obtain ⟨mo,wk,wd,mi,of⟩:=x;have zI:wr.cell? ⟨yb,yo+j*5,none⟩=some (I mo):=hya 0 _ rfl;have zJ:wr.cell? ⟨yb,yo+j*5+1,none⟩=some (I wk):=hya 1 _ rfl;have zK:wr.cell? ⟨yb,yo+j*5+2,none⟩=some (I wd):=hya 2 _ rfl;have zL:wr.cell? ⟨yb,yo+j*5+3,none⟩=some (I mi):=hya 3 _ rfl;have zM:wr.cell? ⟨yb,yo+j*5+4,none⟩=some (I of):=hya 4 _ rfl;have v0:wr.cell? ⟨w.heap.size,0,none⟩=some (I ep):=HX.out.row.2 0;have v1:wr.cell? ⟨w.heap.size,1,none⟩=some (.slice A0 n0 a):=HX.out.row.2 1;have v2:wr.cell? ⟨w.heap.size,2,none⟩=some (I lp):=HX.out.row.2 2;have v3:wr.cell? ⟨w.heap.size,3,none⟩=some (.slice R0 n1 r):=HX.out.row.2 3;have v4:wr.cell? ⟨w.heap.size,4,none⟩=some (I st):=HX.out.row.2 4;have v5:wr.cell? ⟨w.heap.size,5,none⟩=some (.slice C0 m c0):=HX.out.row.2 5;have v6:wr.cell? ⟨w.heap.size,6,none⟩=some (I ho):=HX.out.row.2 6;have v7:wr.cell? ⟨w.heap.size,7,none⟩=some (.slice (some ⟨yb,yo,none⟩) q d0):=HX.out.row.2 7;have i0:(0:Int)<=(j:Int):=by omega
        have i1:(j:Int)<(q:Int):=by omega
        obtain ⟨b1,hb1⟩:∃b,En of 1080=b:=⟨_,rfl⟩;have HB1:=ae hb1;have ZL:=ae (fun W=>nS of 1080 b1 W hb1 (by omega) (by omega));have hybl:yb<wr.heap.size:=dP hyb HX.out.up.size;have hltw:w.heap.size<wr.heap.size:=HX.out.row.1;clear hb1 hya hyb;go_wp2_with fail;refine (ZL.out _).mono ?_;rintro e wq ⟨rfl,rfl⟩;have Be:=ae (HX.out.alloc (.cells #[I mo,I wk,I wd,I mi,I of] 110));cases b1 with
        |false=>
         have HR:Hid (res=1):=ae (HBAD.out fun hg=>G9 HB1.out (Pj hg.yr j _ HXX.out).of);go_wp2_with fail;go_ret;exact ⟨by rw [HR.out];rfl,Be.out.up⟩
        |true=>
         have hof:=Dh HB1.out;have h9:(mo<1)\/(¬mo<1/\(n0:Int)<mo)\/(¬mo<1/\¬(n0:Int)<mo/\wk<1)\/(¬mo<1/\¬(n0:Int)<mo/\¬wk<1/\(5:Int)<wk)\/(¬mo<1/\¬(n0:Int)<mo/\¬wk<1/\¬(5:Int)<wk/\wd<0)\/(¬mo<1/\¬(n0:Int)<mo/\¬wk<1/\¬(5:Int)<wk/\¬wd<0/\(6:Int)<wd)\/(¬mo<1/\¬(n0:Int)<mo/\¬wk<1/\¬(5:Int)<wk/\¬wd<0/\¬(6:Int)<wd/\mi<0)\/(¬mo<1/\¬(n0:Int)<mo/\¬wk<1/\¬(5:Int)<wk/\¬wd<0/\¬(6:Int)<wd/\¬mi<0/\(1439:Int)<mi)\/(¬mo<1/\¬(n0:Int)<mo/\¬wk<1/\¬(5:Int)<wk/\¬wd<0/\¬(6:Int)<wd/\¬mi<0/\¬(1439:Int)<mi):=by omega
         rcases h9 with u0|⟨u0,u1⟩|⟨u0,u1,u2⟩|⟨u0,u1,u2,u3⟩|⟨u0,u1,u2,u3,u4⟩|⟨u0,u1,u2,u3,u4,u5⟩|⟨u0,u1,u2,u3,u4,u5,u6⟩|⟨u0,u1,u2,u3,u4,u5,u6,u7⟩|⟨u0,u1,u2,u3,u4,u5,u6,u7⟩
         iterate 8
          ·have HR:Hid (res=1):=ae (HBAD.out fun hg=>by
            have hy:=Pj hg.yr j _ HXX.out;have p1:=hy.mo;have p2:=hy.wk;have p3:=hy.wd;have p4:=hy.mi;simp only at p1 p2 p3 p4;rw [HN0.out] at p1;omega)
           go_wp2_with fail;go_ret;exact ⟨by rw [HR.out];rfl,Be.out.up⟩
         have HN:Hid (∀(i:Nat) (x:Yr),i<j+1->yr[i]? =some x->ui n0 x):=ae (fun i x hi hx=>by
          rcases Nat.lt_succ_iff_lt_or_eq.1 hi with h|rfl
          ·exact iq.out i x h hx
          ·rw [HXX.out] at hx;injection hx with hx;rw [<-hx];exact ⟨by show 1<=mo/\mo<=_;omega,by show 1<=wk/\wk<=5;omega,by show 0<=wd/\wd<=6;omega,by show 0<=mi/\mi<1440;omega,hof⟩)
         go_wp2_with fail;go_roundw
         case rel=>exact ⟨j+1,by omega,by go_num,HN.out,Be.out⟩
         case measure=>simp [intOf];omega
      ·have XW:j=q:=by omega
       have hnl:¬(j:Int)<(q:Int):=by omega
       have IB:Hid (qw ⟨cal,st,tr,ho,yr⟩):=ae (yrs_of (by show yr.length=0\/yr.length=2;rw [HQL.out];exact jr.out) (fun i x hx=>by
        have hil:i<yr.length:=by
         rcases Nat.lt_or_ge i yr.length with h|h
         ·exact h
         ·have hx':yr[i]? =some x:=hx;rw [List.getElem?_eq_none h] at hx';cases hx'
        have h1:=iq.out i x (by rw [XW,<-HQL.out];exact hil) hx;show ui cal.au.length x;rw [HN0.out];exact h1))
       have v0:wr.cell? ⟨w.heap.size,0,none⟩=some (I ep):=HX.out.row.2 0;have v1:wr.cell? ⟨w.heap.size,1,none⟩=some (.slice A0 n0 a):=HX.out.row.2 1;have v2:wr.cell? ⟨w.heap.size,2,none⟩=some (I lp):=HX.out.row.2 2;have v3:wr.cell? ⟨w.heap.size,3,none⟩=some (.slice R0 n1 r):=HX.out.row.2 3;have v4:wr.cell? ⟨w.heap.size,4,none⟩=some (I st):=HX.out.row.2 4;have v5:wr.cell? ⟨w.heap.size,5,none⟩=some (.slice C0 m c0):=HX.out.row.2 5;have v6:wr.cell? ⟨w.heap.size,6,none⟩=some (I ho):=HX.out.row.2 6;have v7:wr.cell? ⟨w.heap.size,7,none⟩=some (.slice D0 q d0):=HX.out.row.2 7;clear XW iq;go_wp2_with fail;clear v0 v1 v2 v3 v4 v5 v6 v7
       as_aux_lemma=>
        refine (KC.out _ HX.out.up Rn.out IB.out TY).mono ?_;rintro e w4 ⟨A,n,c,hlen,rfl,hown,hb4⟩;have HY:Hid (YS w #[I ep, .slice A0 n0 a,I lp, .slice R0 n1 r,I st, .slice C0 m c0,I ho, .slice D0 q d0] w4 A n c (uZ ⟨cal,st,tr,ho,yr⟩)):=ae ⟨HX.out.row.keep hb4,hown.lower HX.out.row.1,ah HX.out.up hb4,hlen⟩;have hB:=ysR_B ⟨cal,st,tr,ho,yr⟩ Rn.out IB.out;have hzc:=xU ⟨cal,st,tr,ho,yr⟩ Rn.out;have hgs:=VC ⟨cal,st,tr,ho,yr⟩ Rn.out IB.out (gy ⟨cal,st,tr,ho,yr⟩*1440);have vF:Hid (eH (tJ ⟨cal,st,tr,ho,yr⟩) (gy ⟨cal,st,tr,ho,yr⟩*1440)=true->uZ ⟨cal,st,tr,ho,yr⟩=tJ ⟨cal,st,tr,ho,yr⟩):=ae (fun h=>ysR_eq _ Rn.out IB.out h);have HCY2:=ae (fun W hb=>qX.out W hb Rn.out);obtain ⟨gp,Ig⟩:∃g,eH (uZ ⟨cal,st,tr,ho,yr⟩) (gy ⟨cal,st,tr,ho,yr⟩*1440)=g:=⟨_,rfl⟩;rw [Ig] at hgs ⊢;have HGP:=ae hgs;obtain ⟨Mc,hcyc⟩:∃v,gy ⟨cal,st,tr,ho,yr⟩=v:=⟨_,rfl⟩;rw [hcyc] at hzc HCY2;have HCYC:=ae hcyc;obtain ⟨ts,hts⟩:∃v,uZ ⟨cal,st,tr,ho,yr⟩=v:=⟨_,rfl⟩;rw [hts] at HY hB hlen;have ZJ:=ae hts;have hnl2:n<=10000000:=by omega
        have HAF:Hid (∀W,YS w #[I ep, .slice A0 n0 a,I lp, .slice R0 n1 r,I st, .slice C0 m c0,I ho, .slice D0 q d0] W A n c ts->Calls Tryz.prog 77 #[.slice A n c,I Mc,I ho] W (Gives (.tuple #[.agg #[I (eY ts (Mc*1440) ho).1.at_,I (eY ts (Mc*1440) ho).1.off], .bool (eY ts (Mc*1440) ho).2]) W)):=
         ae fun W hY=>UK (w.heap.size+1) n c A ts Mc ho W hY.len hnl2 hY.own hB.1 hzc.1 hzc.2 hho.1 hho.2
        have hbts:=ae hB.1;clear hown hb4 hts hcyc Ig hgs hB hlen hnl2 HX KC qX;have qX:=HCY2;clear HCY2;cases gp with
        |false=>
         have HR:Hid (res=1):=ae (HBAD.out fun hg=>by
          have h1:=hg.dS;rw [<-HGP.out] at h1;cases h1)
         go_wp2_with fail;go_ret;exact ⟨by rw [HR.out];rfl,HY.out.up⟩
        |true=>
         have HES:=ae (vF.out HGP.out.symm);obtain ⟨af,haf⟩:∃v,eY ts (Mc*1440) ho=v:=⟨_,rfl⟩;rw [haf] at HAF;have HAFV:=ae haf;clear haf;obtain ⟨⟨Fq,YX⟩,sm⟩:=af;have HAFZ:Hid (eY (uZ ⟨cal,st,tr,ho,yr⟩) (gy ⟨cal,st,tr,ho,yr⟩*1440) ho=(⟨Fq,YX⟩,sm)):=ae (by rw [ZJ.out,HCYC.out];exact HAFV.out);have HXB:Hid (-10000000000<=Fq/\Fq<=4000000000000000):=ae (by have h:=P6 (t:=ho) (hbts.out) (show 1440<=Mc*1440 by omega) (by omega) hho.1 hho.2;rw [HAFV.out] at h;exact h);simp only at HAF;have hlt4:w.heap.size<w4.heap.size:=HY.out.row.1;have v0:w4.cell? ⟨w.heap.size,0,none⟩=some (I ep):=HY.out.row.2 0;have v1:w4.cell? ⟨w.heap.size,1,none⟩=some (.slice A0 n0 a):=HY.out.row.2 1;have v2:w4.cell? ⟨w.heap.size,2,none⟩=some (I lp):=HY.out.row.2 2;have v3:w4.cell? ⟨w.heap.size,3,none⟩=some (.slice R0 n1 r):=HY.out.row.2 3;have v4:w4.cell? ⟨w.heap.size,4,none⟩=some (I st):=HY.out.row.2 4;have v5:w4.cell? ⟨w.heap.size,5,none⟩=some (.slice C0 m c0):=HY.out.row.2 5;have v6:w4.cell? ⟨w.heap.size,6,none⟩=some (I ho):=HY.out.row.2 6;have v7:w4.cell? ⟨w.heap.size,7,none⟩=some (.slice D0 q d0):=HY.out.row.2 7;go_upto_region 20 with fail
         go_cut [9,10] (fun p ok wx=>∃b,p= .pointer (some ⟨b,0,none⟩)/\ok= .bool sm/\wx.cell? ⟨b,0,none⟩=some (I Fq)/\jD w #[I ep, .slice A0 n0 a,I lp, .slice R0 n1 r,I st, .slice C0 m c0,I ho, .slice D0 q d0] wx)
         case first=>
          go_region_law (first
           |(go_simp;go_at_call 78;refine Calls.mono (qX.out _ ?hcb) ?_;(case hcb=>(first|exact HY.out.up.drew|exact (HY.out.call (ag w4 _)).up.drew));rintro e w5 ⟨rfl,hb5⟩;(first|have ED:=ae (HY.out.call (ah (Below.refl _ w4).drew hb5))|(have ED:=ae (HY.out.call (ah (ag w4 (.cells #[I 0,I 0] 108)).drew hb5));have hz5:w5.heap[w4.heap.size]? =some (.cells #[I 0,I 0] 108 (0,0)):=(hb5.block _ (lu (heap_alloc_last w4 (.cells #[I 0,I 0] 108)))).trans (heap_alloc_last w4 _);have q0:=cell_of_row _ _ 0 _ _ _ hz5;have q1:=cell_of_row _ _ 1 _ _ _ hz5;have qf:=fun i=>frozen_of_row _ _ i _ _ hz5));have v6':w5.cell? ⟨w.heap.size,6,none⟩=some (I ho):=ED.out.row.2 6;have hlt5:w.heap.size<w5.heap.size:=ED.out.row.1)
           |(go_simp;go_at_call 77;refine Calls.mono (HAF.out _ ?hcb) ?_;(case hcb=>(first|exact ED.out|exact ED.out.call (ag w5 _)));rintro e w6 ⟨rfl,hb6⟩;(first|have Xc:=ae (ED.out.call hb6)|(have Xc:=ae (ED.out.call (ah (ag w5 (.cells #[I 0,I 0] 108)) hb6));have MO:w6.heap[w5.heap.size]? =some (.cells #[I 0,I 0] 108 (0,0)):=(hb6.block _ (lu (heap_alloc_last w5 (.cells #[I 0,I 0] 108)))).trans (heap_alloc_last w5 _);have q0:=cell_of_row _ _ 0 _ _ _ MO;have q1:=cell_of_row _ _ 1 _ _ _ MO;have qf:=fun i=>frozen_of_row _ _ i _ _ MO));(try (have Ea:w6.heap[w4.heap.size]? =some (.cells #[I 0,I 0] 108 (0,0)):=(hb6.block _ (lu hz5)).trans hz5;have q0:=cell_of_row _ _ 0 _ _ _ Ea;have q1:=cell_of_row _ _ 1 _ _ _ Ea;have qf:=fun i=>frozen_of_row _ _ i _ _ Ea))))
          all_goals
           go_wp2_with fail;go_meet
           first
            |(have hzz:=Ea;exact ⟨w4.heap.size,rfl,rfl,cell_of_row _ _ 0 _ _ _ (heap_setCell_same _ w4.heap.size 1 _ _ _ (heap_setCell_same _ w4.heap.size 0 _ _ _ hzz)),(HY.out.call (((ah (ah (ag w4 _).drew hb5) hb6).setCell (p:=⟨w4.heap.size,0,none⟩) (Nat.le_refl _) _).setCell (p:=⟨w4.heap.size,1,none⟩) (Nat.le_refl _) _)).row,(HY.out.call (((ah (ah (ag w4 _).drew hb5) hb6).setCell (p:=⟨w4.heap.size,0,none⟩) (Nat.le_refl _) _).setCell (p:=⟨w4.heap.size,1,none⟩) (Nat.le_refl _) _)).up⟩)
            |(have hzz:=MO;exact ⟨w5.heap.size,rfl,rfl,cell_of_row _ _ 0 _ _ _ (heap_setCell_same _ w5.heap.size 1 _ _ _ (heap_setCell_same _ w5.heap.size 0 _ _ _ hzz)),(ED.out.call (((ah (ag w5 _) hb6).setCell (p:=⟨w5.heap.size,0,none⟩) (Nat.le_refl _) _).setCell (p:=⟨w5.heap.size,1,none⟩) (Nat.le_refl _) _)).row,(ED.out.call (((ah (ag w5 _) hb6).setCell (p:=⟨w5.heap.size,0,none⟩) (Nat.le_refl _) _).setCell (p:=⟨w5.heap.size,1,none⟩) (Nat.le_refl _) _)).up⟩)
            |exact ⟨w6.heap.size,rfl,rfl,(Row.new w6 #[I Fq,I YX] 108).2 0,(Xc.out.call (ag w6 _)).row,(Xc.out.call (ag w6 _)).up⟩
         case rest=>
          obtain ⟨b,rfl,rfl,hx,hcv⟩:=hcut;have HXC:=ae hx;have HCV:=ae hcv;clear hx hcv HAF qX HY hlt4;clear v0 v1 v2 v3 v4 v5 v6 v7;have x0:wc.cell? ⟨b,0,none⟩=some (I Fq):=HXC.out;have v5:wc.cell? ⟨w.heap.size,5,none⟩=some (.slice C0 m c0):=HCV.out.row.2 5;have HOK:Hid (yZ ⟨cal,st,tr,ho,yr⟩->res=0):=ae (fun hl=>Ew.out ⟨by show tr.length<=512;rw [qV.out];exact TY,Rn.out,HST.out,hho,fun i hi=>HTR.out i (by rw [<-qV.out];exact hi),IB.out,HGP.out.symm,hl⟩);cases sm with
          |false=>
           have HR0:Hid (res=0):=ae (HOK.out (Uj HES.out HAFZ.out));go_wp2_with fail;go_quiet (fail);go_wp2_with fail;go_ret;exact ⟨by rw [HR0.out];rfl,ah HCV.out.up (below_drewN' _ _)⟩
          |true=>
           cases m with
           |zero=>
            have HR0:Hid (res=0):=ae (HOK.out (Qs qV.out));go_wp2_with fail;go_quiet (fail);go_wp2_with fail;go_ret;exact ⟨by rw [HR0.out];rfl,ah HCV.out.up (below_drewN' _ _)⟩
           |succ m'=>
            obtain ⟨tb,tf,hC,htc⟩:=xN HH.out.trans HCV.out.up (by show 0<tr.length;rw [qV.out];omega);simp only at hC;subst hC;have y0:=(htc m' (by show m'<tr.length;rw [qV.out];omega)).1;have hpr:=HTR.out m' (by omega);unfold lH at hpr;simp only at y0 hpr;obtain ⟨a1,ha1⟩:∃v,gU tr m'=v:=⟨_,rfl⟩;rw [ha1] at y0 hpr;have hbd:=hpr.2.1;have HA1:=ae ha1;clear ha1 htc hpr;have hxb: -10000000000<=Fq/\Fq<=4000000000000000:=HXB.out;have j0:decide ((0:Int)<(m':Int)+1)=true:=decide_eq_true (by omega);have j1:(m':Int)+1 - 1=(m':Int):=by omega
            have j2:(m':Int)<(m':Int)+1:=by omega
            obtain ⟨t,ht⟩:∃t,decide (Fq - a1<2160)=t:=⟨_,rfl⟩;have HT:=ae ht;cases t with
            |false=>
             have HR0:Hid (res=0):=ae (HOK.out (Qu HES.out HAFZ.out qV.out (by show¬Fq - gU tr m'<2160;rw [HA1.out];exact of_decide_eq_false HT.out)));go_wp2_with fail;go_quiet (fail);go_wp2_with fail;go_ret;exact ⟨by rw [HR0.out];rfl,ah HCV.out.up (below_drewN' _ _)⟩
            |true=>
             have HR0:Hid (res=1):=ae (HBAD.out fun hg=>Qr HES.out HAFZ.out qV.out (by show Fq - gU tr m'<2160;rw [HA1.out];exact of_decide_eq_true HT.out) hg.late);go_wp2_with fail;go_quiet (fail);go_wp2_with fail;go_ret;exact ⟨by rw [HR0.out];rfl,ah HCV.out.up (below_drewN' _ _)⟩
end Go.Proofs.YtbaehbbonkljpaaGreatDoor
