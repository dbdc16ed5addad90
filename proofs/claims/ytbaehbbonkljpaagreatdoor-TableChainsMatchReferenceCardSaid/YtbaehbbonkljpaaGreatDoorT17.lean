/- The texts Va, in this order. -/
import Derived.Test.YtbaehbbonkljpaaGreatDoorT06
set_option maxRecDepth 10000
set_option maxHeartbeats 8000000
namespace Go.Proofs.YtbaehbbonkljpaaGreatDoor
open Go Go.RowKit
theorem aeh (a b:Nat)(w:ae)(ha:a<=1000)(hb:b<=1000):Calls Tryz.prog 95 #[I (a:Int),I (b:Int)] w fun e w'=>e=.returned (I (Nat.gcd a b:Int))/\w'=w:=by
 obtain⟨G,hG⟩:∃G,Nat.gcd a b=G:=⟨_,rfl⟩;rw[hG];have HG:=JJ hG;clear hG;go_enter Tryz.func95,Tryz.ntmps95;go_wp2_with fail
 go_loopw [0,1] (fun p q wr=>∃x y:Nat,p=I (x:Int)/\q=I (y:Int)/\x<=1000/\y<=1000/\Nat.gcd x y=G/\wr=w) (fun _ q _=>(intOf q).toNat)
 case atStart=>exact⟨a,b,rfl,rfl,ha,hb,HG.out,rfl⟩
 case round=>
  obtain⟨x,y,rfl,rfl,hx,hy,hg,rfl⟩:=hrel;have HGG:=JJ hg;clear hg;by_cases h0:y=0
  ·subst h0;have HE:Hid (x=G):=JJ (by have h:=HGG.out;rwa [oH] at h);go_wp2_with fail;go_ret;exact⟨by rw[<-HE.out];rfl,rfl⟩
  ·have t0:((y:Int) !=0)=true:=by simp;omega
   have t1:¬(y:Int)=0:=by omega
   have t2:¬(y:Int)= -1:=by omega
   have t3:(y !=0)=true:=by simp;omega
   obtain⟨q,hq⟩:∃q,x%y=q:=⟨_,rfl⟩;have ht:(x:Int).tmod (y:Int)=(q:Int):=by rw[<-hq];simp[Int.tmod_eq_emod_of_nonneg]
   have hql:q<y:=by rw[<-hq];exact jE _ (by omega)
   have HN:Hid (Nat.gcd y q=G):=JJ (by rw[<-hq,mM,<-Nat.gcd_rec,mM];exact HGG.out);clear hq;go_wp2_with fail;go_roundw
   case rel=>exact⟨y,q,rfl,rfl,hy,by omega,HN.out,by first|trivial|rfl⟩
   case measure=>simp[intOf];omega
theorem lcm_div (Y E:Nat):Y / Nat.gcd Y E*E=Nat.lcm Y E:=by
 unfold Nat.lcm;rw[mO (Nat.gcd_dvd_left Y E)]
theorem Sz (c:Cal)(A R:aj Addr)(a r:Nat)(w:ae)(h:Rw w w.heap.size A R c):Calls Tryz.prog 74 #[.agg (J7 c A a R r)] w (Gives (.bool (vC c)) w):=by
 obtain⟨nr,hnr⟩:∃n,c.rules.length=n:=⟨_,rfl⟩;obtain⟨n,hn⟩:∃n,c.JQ.length=n:=⟨_,rfl⟩;have e0:J7 c A a R r= #[I c.KI,.slice A n a,I c.Lm,.slice R nr r]:=by rw[<-hn,<-hnr];rfl
 rw[e0];have HV:=JJ (OY.start w #[I c.KI,.slice A n a,I c.Lm,.slice R nr r] 65);obtain⟨lp,hlp⟩:∃l,c.Lm=l:=⟨_,rfl⟩;obtain⟨ep,QL⟩:∃l,c.KI=l:=⟨_,rfl⟩;rw[hlp,QL] at HV⊢;have HM:=JJ h.JQ;have HRU:=JJ h.rules;have HL3:Hid ((c.rules.flatMap Lr.cells).length=nr*3):=JJ (by rw[KW (s:=3) Lr.cells c.rules (fun _ _=>rfl),hnr]);have WU:=JJ (show c.JQ.length=n/\c.rules.length=nr/\c.Lm=lp/\c.KI=ep from⟨hn,hnr,hlp,QL⟩);obtain⟨vb,hvb⟩:∃b,vC c=b:=⟨_,rfl⟩;rw[hvb];have HVB:=JJ hvb;clear hvb;by_cases hbad:ep<0\/1048576<ep\/n<1\/16<n\/16<nr\/lp< -1\/(n:Int)<=lp\/(lp= -1/\0<nr)
 ·have hF:false=vb:=(aap fun hg=>by
   have h1:=hg.ep;have h2:=hg.ml;have h3:=hg.lp;have h4:=hg.rl;have h5:=hg.nl;omega).symm.trans HVB.out
  subst hF;have hb4:(ep<0)\/(¬ep<0/\(1048576:Int)<ep)\/(¬ep<0/\¬(1048576:Int)<ep/\(n:Int)<1)\/(¬ep<0/\¬(1048576:Int)<ep/\¬(n:Int)<1/\(16:Int)<(n:Int))\/(¬ep<0/\¬(1048576:Int)<ep/\¬(n:Int)<1/\¬(16:Int)<(n:Int)/\(16:Int)<(nr:Int))\/(¬ep<0/\¬(1048576:Int)<ep/\¬(n:Int)<1/\¬(16:Int)<(n:Int)/\¬(16:Int)<(nr:Int)/\lp< -1)\/(¬ep<0/\¬(1048576:Int)<ep/\¬(n:Int)<1/\¬(16:Int)<(n:Int)/\¬(16:Int)<(nr:Int)/\¬lp< -1/\(n:Int)<=lp)\/(¬ep<0/\¬(1048576:Int)<ep/\¬(n:Int)<1/\¬(16:Int)<(n:Int)/\¬(16:Int)<(nr:Int)/\¬lp< -1/\¬(n:Int)<=lp/\lp= -1/\(0:Int)<(nr:Int)):=by omega
  clear hbad h hnr hn hlp QL e0 HM HRU;rcases hb4 with g1|⟨g1,g2⟩|⟨g1,g2,g3⟩|⟨g1,g2,g3,g4⟩|⟨g1,g2,g3,g4,g5⟩|⟨g1,g2,g3,g4,g5,g6⟩|⟨g1,g2,g3,g4,g5,g6,g7⟩|⟨g1,g2,g3,g4,g5,g6,g7,g8,g9⟩
  all_goals
   try subst g8
   go_enter Tryz.func74,Tryz.ntmps74;go_wp2_with fail;go_ret;exact⟨rfl,HV.out.up⟩
 ·have g1:¬ep<0:=fun h=>hbad (.inl h);have g2:¬1048576<ep:=fun h=>hbad (.inr (.inl h));have g3:¬(n:Int)<1:=by omega
  have g4:¬(16:Int)<(n:Int):=by omega
  have g5:¬lp< -1:=by omega
  have g6:¬(n:Int)<=lp:=by omega
  have g7:¬(16:Int)<(nr:Int):=by omega
  have hnb:Hid (nr<=16/\1<=n/\n<=16):=JJ (by omega);have hsp:((lp== -1)=true/\¬(0:Int)<(nr:Int))\/(lp== -1)=false:=by
   by_cases h:lp= -1
   ·exact .inl ⟨by simp[h],by omega⟩
   ·exact .inr (by simpa using h)
  have HGD:Hid (0<=ep/\ep<=1048576/\1<=n/\n<=16/\ -1<=lp/\lp<(n:Int)/\nr<=16/\(lp= -1->nr=0)):=JJ (by omega);clear hbad h hnr hn hlp QL e0;rcases hsp with ⟨t0,g9⟩|t0
  all_goals
   go_enter Tryz.func74,Tryz.ntmps74;go_wp2_with fail
   go_loopw [3] (fun i wr=>∃k:Nat,k<=n/\i=I (k:Int)/\(∀m∈c.JQ.take k,1<=m/\m<=40)/\(Row wr w.heap.size #[I ep,.slice A n a,I lp,.slice R nr r]/\ai w.heap.size w wr)) (fun i _=>n - (intOf i).toNat)
   case atStart=>exact⟨0,aG _,rfl,(fun _ h=>nomatch h),HV.out.row,HV.out.up⟩
   case round=>
    obtain⟨k,hk,rfl,hall,hrow,hb⟩:=hrel;have HB:=JJ hb;have Yw:=JJ hall;have HRW:=JJ hrow;clear hb hall hrow HV;by_cases hlt:k<n
    ·have i0:(0:Int)<=(k:Int):=by omega
     have i1:(k:Int)<(n:Int):=by omega
     obtain⟨x,hx⟩:∃x,c.JQ[k]? =some x:=⟨_,KL (by rw[WU.out.1];exact hlt)⟩;obtain⟨b,off,rfl,hbl,hcl⟩:=HM.out.there (by rw[aI,WU.out.1];omega);have f0:wr.cell? ⟨b,off+k,none⟩=some (I x):=(HB.out.cell (p:=⟨b,off+k,none⟩) hbl).trans (hcl k _ (by rw[aJ,hx];rfl));have v1:wr.cell? ⟨w.heap.size,1,none⟩=some (.slice (some ⟨b,off,none⟩) n a):=HRW.out.2 1;have HX:=JJ hx;clear hx hcl;by_cases hxb:x<1\/40<x
     ·have hF:false=vb:=(aap fun hg=>by
       have h1:=hg.mo x (LQ HX.out);omega).symm.trans HVB.out
      subst hF;have hx4:x<1\/(¬x<1/\40<x):=by omega
      clear hxb;rcases hx4 with q1|⟨q1,q2⟩
      all_goals
       go_wp2_with fail;go_ret;exact⟨rfl,HB.out⟩
     ·have q1:¬x<1:=fun h=>hxb (.inl h);have q2:¬40<x:=fun h=>hxb (.inr h);have HN:Hid (∀m∈c.JQ.take (k+1),1<=m/\m<=40):=JJ (by
       rw[Oq c.JQ k x HX.out];intro m hm;rcases dm.1 hm with h1|h1
       ·exact Yw.out m h1
       ·rw[aY.1 h1];omega)
      clear hxb;go_wp2_with fail;go_roundw
      case rel=>exact⟨k+1,by omega,by have h16:=hnb.out;go_num,HN.out,HRW.out,HB.out⟩
      case measure=>simp[intOf];have h16:=hnb.out;omega
    ·have hkn:k=n:=by omega
     have hlt':¬(k:Int)<(n:Int):=by omega
     have HAM:Hid (∀m∈c.JQ,1<=m/\m<=40):=JJ (by
      have h:=Yw.out
      rwa [aU (by rw[WU.out.1];omega)] at h)
     have v1:wr.cell? ⟨w.heap.size,1,none⟩=some (.slice A n a):=HRW.out.2 1;clear hlt hkn Yw;go_wp2_with fail;clear v1
     go_loopw [4,5] (fun y i wr=>∃k Y:Nat,k<=nr/\y=I (Y:Int)/\i=I (k:Int)/\1<=Y/\Y<=400/\PK c.rules 1=PK (c.rules.drop k) Y/\(Row wr w.heap.size #[I ep,.slice A n a,I lp,.slice R nr r]/\ai w.heap.size w wr)) (fun _ i _=>nr - (intOf i).toNat)
     case atStart=>exact⟨0,1,aG _,rfl,rfl,by omega,by omega,rfl,HRW.out,HB.out⟩
     case round=>
      clear HRW HB hlt';obtain⟨k,Y,hk,rfl,rfl,hy1,hy2,hp,hrow,hb⟩:=hrel;have HB:=JJ hb;have HP:=JJ hp;have HRW:=JJ hrow;clear hb hp hrow;by_cases hlt:k<nr
      ·try (exfalso;omega)
       all_goals
        have i0:(0:Int)<=(k:Int):=by omega
        have i1:(k:Int)<(nr:Int):=by omega
        obtain⟨x,hx⟩:∃x,c.rules[k]? =some x:=⟨_,KL (by rw[WU.out.2.1];exact hlt)⟩;obtain⟨b,off,rfl,hbl,hcl⟩:=HRU.out.there (by rw[HL3.out];omega);have hr:=JY (JS.elem (s:=3) (f:=Lr.cells) (fun _ _=>rfl) hcl k x hx) HB.out hbl;have hd:c.rules.drop k=x::c.rules.drop (k+1):=by
         rw[eF (by rw[WU.out.2.1];exact hlt)];rw[KL (by rw[WU.out.2.1];exact hlt)] at hx;injection hx with hx;rw[hx]
        rw[hd] at HP;obtain⟨ev,re,ye⟩:=x;have f0:wr.cell? ⟨b,off+k*3,none⟩=some (I ev):=hr 0 _ rfl;have f1:wr.cell? ⟨b,off+k*3+1,none⟩=some (I re):=hr 1 _ rfl;have f2:wr.cell? ⟨b,off+k*3+2,none⟩=some (.bool ye):=hr 2 _ rfl;have v3:wr.cell? ⟨w.heap.size,3,none⟩=some (.slice (some ⟨b,off,none⟩) nr r):=HRW.out.2 3;have hne:¬b=wr.heap.size:=by have:=HB.out.size;omega
        have hlt0:w.heap.size<wr.heap.size:=HRW.out.1;have HB2:=JJ (JL HB.out (JM wr (.cells #[I ev,I re,.bool ye] 118)));have HR2:=JJ (HRW.out.keep (JM wr (.cells #[I ev,I re,.bool ye] 118)));by_cases hbad:ev<1\/400<ev\/re<0\/ev<=re
        ·have hF:false=vb:=(aap fun hg=>by
          have h1:=hg.per;rw[HP.out] at h1;unfold PK at h1;rw[bD hbad] at h1;cases h1).symm.trans HVB.out
         subst hF;have hb4:ev<1\/(¬ev<1/\400<ev)\/(¬ev<1/\¬400<ev/\re<0)\/(¬ev<1/\¬400<ev/\¬re<0/\ev<=re):=by omega
         clear hbad hd hr hcl hx;rcases hb4 with g1|⟨g1,g2⟩|⟨g1,g2,g3⟩|⟨g1,g2,g3,g4⟩
         all_goals
          go_wp2_with fail;go_ret;exact⟨rfl,HB2.out⟩
        ·have g1:¬ev<1:=fun h=>hbad (.inl h);have g2:¬400<ev:=fun h=>hbad (.inr (.inl h));have g3:¬re<0:=fun h=>hbad (.inr (.inr (.inl h)));have g4:¬ev<=re:=fun h=>hbad (.inr (.inr (.inr h)));obtain⟨E,rfl⟩:∃E:Nat,ev=(E:Int):=⟨ev.toNat,by omega⟩;obtain⟨L,hL⟩:∃L,Nat.lcm Y E=L:=⟨_,rfl⟩;obtain⟨G,hG⟩:∃G,Nat.gcd Y E=G:=⟨_,rfl⟩;obtain⟨Q,hQ⟩:∃Q,Y / G=Q:=⟨_,rfl⟩;have hG1:0<G:=by rw[<-hG];exact kF _ (by omega)
         have hL1:1<=L:=by rw[<-hL];exact nI (by omega) (by omega)
         have hQE:Q*E=L:=by rw[<-hQ,<-hG,<-hL];exact lcm_div Y E
         have hQ4:Q<=400:=by rw[<-hQ];exact aO (lq _ _) hy2
         have hLb:L<=160000:=by rw[<-hQE];exact Nat.mul_le_mul hQ4 (show E<=400 by omega)
         have hqi:(Y:Int).tdiv (G:Int)=(Q:Int):=by rw[<-hQ,gK (by omega)];rfl
         have hqe:(Q:Int)*(E:Int)=(L:Int):=by rw[<-hQE];simp
         have hg0:¬(G:Int)=0:=by omega
         have hg1:¬(G:Int)= -1:=by omega
         have HGC:=JJ (fun W=>aeh Y E W (by omega) (by omega));rw[hG] at HGC;have hP2:PK c.rules 1=if 400<L then none else PK (c.rules.drop (k+1)) L:=by
          rw[HP.out];show(if _ then _ else _)=_;rw[bP hbad,jo,hL]
         have HP2:=JJ hP2;clear hbad hd hr hcl hx hP2 hL HP hG hQ hQE;go_upto_region 17 with fail;go_quiet (first|(go_at_call 95;refine dY (HGC.out _)));by_cases hL4:400<L
         ·have hF:false=vb:=(aap fun hg=>by
           have h1:=hg.per;rw[HP2.out,bD hL4] at h1;cases h1).symm.trans HVB.out
          subst hF;have g5:(400:Int)<(L:Int):=by omega
          go_wp2_with fail;go_ret;exact⟨rfl,jQ HB2.out _⟩
         ·have g5:¬(400:Int)<(L:Int):=by omega
          go_wp2_with fail;go_roundw
          case rel=>exact⟨k+1,L,by omega,rfl,by have h16:=hnb.out;go_num,hL1,by omega,by rw[HP2.out,bP hL4],⟨HR2.out.1,HR2.out.2⟩,jQ HB2.out _⟩
          case measure=>simp[intOf];have h16:=hnb.out;omega
      ·have hkn:k=nr:=by omega
       have hlt':¬(k:Int)<(nr:Int):=by omega
       have v3:wr.cell? ⟨w.heap.size,3,none⟩=some (.slice R nr r):=HRW.out.2 3;have hF:true=vb:=(SB (by
        have h1:=HGD.out;have h2:=WU.out;exact⟨by omega,by omega,by omega,by omega,fun h=>by omega,HAM.out,by rw[HP.out,dW (by omega)];rfl⟩)).symm.trans HVB.out
       subst hF;clear hlt hkn;go_wp2_with fail;go_ret;exact⟨rfl,HB.out⟩
end Go.Proofs.YtbaehbbonkljpaaGreatDoor
