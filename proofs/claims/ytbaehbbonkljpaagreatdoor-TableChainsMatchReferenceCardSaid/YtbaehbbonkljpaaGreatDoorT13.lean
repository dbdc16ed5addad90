/- The texts Jl, in this order. -/
import Derived.Test.YtbaehbbonkljpaaGreatDoorT12
set_option maxRecDepth 10000
set_option maxHeartbeats 8000000
namespace Go.Proofs.YtbaehbbonkljpaaGreatDoor
open Go Go.RowKit
theorem NY (n l:Int)(b:Bool)(w:ae)(hb:wiB n l=b)(hl:0<=l/\l<=4503599627370496)(k:Nat):Calls Tryz.prog 89 #[I n,I l] (w.drewN k) fun e w'=>e=.returned (.bool b)/\∃m,w'=w.drewN m:=by
 rw[<-hb];exact aeP n l w hl k
theorem akk {W:ae}{tb:Nat}{f:ag aj9->Prop}:OL W.heap.size tb (fun (pre:ag aj9) X=>f pre/\W.grownBy X (some tb)):=fun _ _ _ _ hs hg hr=>
 ⟨hs.1,hs.2.andThen hg (fun j e=>by
  rcases hr j e with h|h
  ·exact .inl h
  ·exact .inr (by rw[h]))⟩
def apd (w w8:ae)(tb kb:Nat)(tl:Int)(c:Code)(pre:ag aj9)(X:ae):Prop:=
 ∃x:aj9,pre= [x]/\c=.ret/\X.heap[w.heap.size+1]? =some (.cells #[pt kb] 140 (0,0))/\X.heap[w.heap.size+2]? =some (.cells #[.bool (decide (2160<=x.1.at_ - tl))] 4 (0,0))/\ai w.heap.size w X/\
  ∀k,k<w8.heap.size->k≠tb->k≠w.heap.size+1->k≠w.heap.size+2->X.heap[k]? =w8.heap[k]?
theorem aku {w w8:ae}{B tb kb:Nat}{tl:Int}(h8:w8.heap.size<=B)(hB:w.heap.size+2<B)(htb:w.heap.size+2<tb)(c:Code):OL B tb (apd w w8 tb kb tl c):=by
 rintro s X Y row ⟨x,h1,h2,h3,h4,h5,h6⟩ hg hr;have key:∀k,k<=w.heap.size+2->k<X.heap.size->Y.heap[k]? =X.heap[k]? :=fun k hk hl=>hg.block k hl (fun e=>by rcases hr k e.symm with h|h<;>omega);exact⟨x,h1,h2,(key _ (by omega) (KY.1 h3).1).trans h3,(key _ (by omega) (KY.1 h4).1).trans h4,h5.grown hg h5.size (fun k e=>by rcases hr k e with h|h<;>omega),fun k hk hn q1 q2=>
  (hg.block k (KY.1 ((h6 k hk hn q1 q2).trans (fC hk))).1 (fun e=>by rcases hr k e.symm with h|h<;>omega)).trans (h6 k hk hn q1 q2)⟩
theorem as6 (z:Zn)(s:Zs)(w:ae)(h:N7 w w.heap.size s z):Calls Tryz.prog 71 #[.agg (JV z s)] w fun e w'=>(∃v,e=.returned (.tuple #[v,.bool (ZW z)]))/\ai w.heap.size w w':=by
 have HKK:=JJ (fun (hc:MR z.cal) (hy:SV z) (W:ae) (hb:ai w.heap.size w W)=>aoK z s W hc (h.grow hb) hy);have HV:=JJ (fun (W:ae) (hb:ai w.heap.size w W)=>RF z.cal s.A s.B s.a s.b W ⟨h.JQ.grow hb,h.rules.grow hb⟩);have HAT:=JJ (fun (W:ae) (hb:ai w.heap.size w W) (h0:0<z.trans.length)=>Xq h.trans hb h0);have HYS:=JJ h.J6;have avk:=JJ (h.trans);clear h;obtain⟨cal,st,tr,ho,yr⟩:=z;obtain⟨A0,a,R0,r,C,c0,D0,d0⟩:=s;simp only at HKK HV HAT HYS avk⊢;obtain⟨ep,QL⟩:∃ep,cal.KI=ep:=⟨_,rfl⟩;obtain⟨lp,hlp⟩:∃lp,cal.Lm=lp:=⟨_,rfl⟩;obtain⟨nm,hnm⟩:∃n,cal.JQ.length=n:=⟨_,rfl⟩;obtain⟨n1,hn1⟩:∃n,cal.rules.length=n:=⟨_,rfl⟩;obtain⟨m,hmm⟩:∃n,tr.length=n:=⟨_,rfl⟩;obtain⟨ny,hny⟩:∃n,yr.length=n:=⟨_,rfl⟩;rw[hmm] at HAT;have Qc:=JJ hmm;have HNY:=JJ hny;have HNM:=JJ hnm;have e0:JV ⟨cal,st,tr,ho,yr⟩ ⟨A0,a,R0,r,C,c0,D0,d0⟩= #[I ep,.slice A0 nm a,I lp,.slice R0 n1 r,I st,.slice C m c0,I ho,.slice D0 ny d0]:=by rw[<-hn1,<-hmm,<-hny,<-QL,<-hlp,<-hnm];rfl
 have e1:J7 cal A0 a R0 r= #[I ep,.slice A0 nm a,I lp,.slice R0 n1 r]:=by rw[<-hn1,<-QL,<-hlp,<-hnm];rfl
 rw[e0] at HKK⊢;rw[e1] at HV;have HZ0:=JJ (amo w #[I ep,.slice A0 nm a,I lp,.slice R0 n1 r,I st,.slice C m c0,I ho,.slice D0 ny d0]);have HW1:=JJ (fun W=>UF st 1080 W (by omega));have HW2:=JJ (fun W=>UF ho 2251799813685248 W (by omega));obtain⟨vb,hvb⟩:∃b,vC cal=b:=⟨_,rfl⟩;obtain⟨b1,arT⟩:∃b,wiB st 1080=b:=⟨_,rfl⟩;obtain⟨b2,arU⟩:∃b,wiB ho 2251799813685248=b:=⟨_,rfl⟩;rw[hvb] at HV;rw[arT] at HW1;rw[arU] at HW2;have HVB:=JJ hvb;have HB1:=JJ arT;have HB2:=JJ arU;clear e0 e1 hn1 hny QL hlp hnm hmm hvb arT arU;refine adK Tryz.func71 rfl ?_;simp only[Tryz.ntmps71,bZ,bG,dE,Nat.reduceAdd,Nat.reduceSub,df,dh,dL,dw,bU,dn];go_upto_region 1 with fail;generalize ((w.alloc (.cells #[I ep,.slice A0 nm a,I lp,.slice R0 n1 r,I st,.slice C m c0,I ho,.slice D0 ny d0] 69)).alloc (.cells #[.pointer none] 140)).alloc (.cells #[.bool false] 4)=W0 at HZ0⊢;have k0:=HZ0.out.row.2;by_cases aDV:512<m
 ·have awm:(512:Int)<(m:Int):=by omega
  have HF:Hid (ZW ⟨cal,st,tr,ho,yr⟩=false):=JJ (Sr fun hg=>by
   have h1:=hg.trl;have h2:=Qc.out;simp only at h1;omega)
  have c1:W0.cell? ⟨w.heap.size+1,0,none⟩=some (.pointer none):=aC W0 _ 0 _ _ _ HZ0.out.r1;have c2:W0.cell? ⟨w.heap.size+1+1,0,none⟩=some (.bool false):=aC W0 (w.heap.size+2) 0 _ _ _ HZ0.out.r2;have f1:W0.frozen? ⟨w.heap.size+1,0,none⟩=false:=aP W0 _ 0 _ _ HZ0.out.r1;have f2:W0.frozen? ⟨w.heap.size+1+1,0,none⟩=false:=aP W0 (w.heap.size+2) 0 _ _ HZ0.out.r2;go_wp2_with fail;refine OM (v:=.tuple #[.pointer none,.bool false]) rfl (MO rfl _ _ ⟨w.heap.size+1,0,none⟩ ⟨w.heap.size+1+1,0,none⟩ (.pointer none) (.bool false) rfl (Qv _ _ _ ?_) rfl (PI _ _ _ ?_)) ⟨⟨_,by rw[HF.out]⟩,?_⟩
  ·go_simp
  ·go_simp
  ·exact(HZ0.out.up.setCell (p:=⟨w.heap.size+1,0,none⟩) (bV _) _).setCell (p:=⟨w.heap.size+1+1,0,none⟩) (by show w.heap.size<=w.heap.size+1+1;omega) _
 ·have awm:¬(512:Int)<(m:Int):=by omega
  go_wp2_with fail;refine(HV.out _ HZ0.out.up).mono ?_;rintro e w1 ⟨rfl,hb1⟩;have HZ1:=JJ (HZ0.out.below hb1);clear hb1 HZ0 HV k0;cases vb with
  |false=>
   have HF:Hid (ZW ⟨cal,st,tr,ho,yr⟩=false):=JJ (Sr fun hg=>by
    have h1:=SB hg.cal;rw[HVB.out] at h1;cases h1)
   have c1:w1.cell? ⟨w.heap.size+1,0,none⟩=some (.pointer none):=aC w1 _ 0 _ _ _ HZ1.out.r1;have c2:w1.cell? ⟨w.heap.size+1+1,0,none⟩=some (.bool false):=aC w1 (w.heap.size+2) 0 _ _ _ HZ1.out.r2;have f1:w1.frozen? ⟨w.heap.size+1,0,none⟩=false:=aP w1 _ 0 _ _ HZ1.out.r1;have f2:w1.frozen? ⟨w.heap.size+1+1,0,none⟩=false:=aP w1 (w.heap.size+2) 0 _ _ HZ1.out.r2;go_wp2_with fail;refine OM (v:=.tuple #[.pointer none,.bool false]) rfl (MO rfl _ _ ⟨w.heap.size+1,0,none⟩ ⟨w.heap.size+1+1,0,none⟩ (.pointer none) (.bool false) rfl (Qv _ _ _ ?_) rfl (PI _ _ _ ?_)) ⟨⟨_,by rw[HF.out]⟩,?_⟩
   ·go_simp
   ·go_simp
   ·exact(HZ1.out.up.setCell (p:=⟨w.heap.size+1,0,none⟩) (bV _) _).setCell (p:=⟨w.heap.size+1+1,0,none⟩) (by show w.heap.size<=w.heap.size+1+1;omega) _
  |true=>
   have HCG:Hid (MR cal):=JJ ((aao cal).1 HVB.out);have k1:=HZ1.out.row.2;go_wp2_with fail;refine(HW1.out _).mono ?_;rintro e w1 ⟨rfl,rfl⟩;cases b1 with
   |false=>
    have HF:Hid (ZW ⟨cal,st,tr,ho,yr⟩=false):=JJ (Sr fun hg=>by
     have h1:=Tn hg.st;rw[HB1.out] at h1;cases h1)
    have c1:w1.cell? ⟨w.heap.size+1,0,none⟩=some (.pointer none):=aC w1 _ 0 _ _ _ HZ1.out.r1;have c2:w1.cell? ⟨w.heap.size+1+1,0,none⟩=some (.bool false):=aC w1 (w.heap.size+2) 0 _ _ _ HZ1.out.r2;have f1:w1.frozen? ⟨w.heap.size+1,0,none⟩=false:=aP w1 _ 0 _ _ HZ1.out.r1;have f2:w1.frozen? ⟨w.heap.size+1+1,0,none⟩=false:=aP w1 (w.heap.size+2) 0 _ _ HZ1.out.r2;go_wp2_with fail;refine OM (v:=.tuple #[.pointer none,.bool false]) rfl (MO rfl _ _ ⟨w.heap.size+1,0,none⟩ ⟨w.heap.size+1+1,0,none⟩ (.pointer none) (.bool false) rfl (Qv _ _ _ ?_) rfl (PI _ _ _ ?_)) ⟨⟨_,by rw[HF.out]⟩,?_⟩
    ·go_simp
    ·go_simp
    ·exact(HZ1.out.up.setCell (p:=⟨w.heap.size+1,0,none⟩) (bV _) _).setCell (p:=⟨w.heap.size+1+1,0,none⟩) (by show w.heap.size<=w.heap.size+1+1;omega) _
   |true=>
    have hst: -1080<=st/\st<=1080:=by
     by_cases h: -1080<=st/\st<=1080
     ·exact h
     ·have h1:=aar (l:=1080) h;rw[HB1.out] at h1;cases h1
    go_wp2_with fail;refine(HW2.out _).mono ?_;rintro e w1 ⟨rfl,rfl⟩;cases b2 with
    |false=>
     have HF:Hid (ZW ⟨cal,st,tr,ho,yr⟩=false):=JJ (Sr fun hg=>by
      have h1:=Tn hg.ho;rw[HB2.out] at h1;cases h1)
     have c1:w1.cell? ⟨w.heap.size+1,0,none⟩=some (.pointer none):=aC w1 _ 0 _ _ _ HZ1.out.r1;have c2:w1.cell? ⟨w.heap.size+1+1,0,none⟩=some (.bool false):=aC w1 (w.heap.size+2) 0 _ _ _ HZ1.out.r2;have f1:w1.frozen? ⟨w.heap.size+1,0,none⟩=false:=aP w1 _ 0 _ _ HZ1.out.r1;have f2:w1.frozen? ⟨w.heap.size+1+1,0,none⟩=false:=aP w1 (w.heap.size+2) 0 _ _ HZ1.out.r2;go_wp2_with fail;refine OM (v:=.tuple #[.pointer none,.bool false]) rfl (MO rfl _ _ ⟨w.heap.size+1,0,none⟩ ⟨w.heap.size+1+1,0,none⟩ (.pointer none) (.bool false) rfl (Qv _ _ _ ?_) rfl (PI _ _ _ ?_)) ⟨⟨_,by rw[HF.out]⟩,?_⟩
     ·go_simp
     ·go_simp
     ·exact(HZ1.out.up.setCell (p:=⟨w.heap.size+1,0,none⟩) (bV _) _).setCell (p:=⟨w.heap.size+1+1,0,none⟩) (by show w.heap.size<=w.heap.size+1+1;omega) _
    |true=>
     have hho: -2251799813685248<=ho/\ho<=2251799813685248:=by
      by_cases h: -2251799813685248<=ho/\ho<=2251799813685248
      ·exact h
      ·have h1:=aar (l:=2251799813685248) h;rw[HB2.out] at h1;cases h1
     go_wp2_with fail;clear k1 HW1 HW2
     go_loopw [37] (fun i wr=>∃k:Nat,k<=m/\i=I (k:Nat)/\(∀j,j<k->Qo ⟨cal,st,tr,ho,yr⟩ j)/\ZO w #[I ep,.slice A0 nm a,I lp,.slice R0 n1 r,I st,.slice C m c0,I ho,.slice D0 ny d0] wr) (fun i _=>m - (intOf i).toNat)
     case atStart=>exact⟨0,aG _,rfl,(fun j hj=>by omega),HZ1.out⟩
     case round=>
      clear HZ1;obtain⟨k,hkm,rfl,htok,hzo⟩:=hrel;have HZ:=JJ hzo;have HTO:=JJ htok;clear hzo htok;by_cases hk:k<m
      ·have i1:(k:Int)<(m:Int):=by omega
       have i0:(0:Int)<=(k:Int):=by omega
       obtain⟨b,off,hC,hcl⟩:=HAT.out wr HZ.out.up (by omega);subst hC;have Ov:=JJ (fun (W:ae) (hb:ai w.heap.size w W)=>HAT.out W hb (by omega));obtain⟨e0,e1⟩:=hcl k hk;clear hcl;obtain⟨xa,hxa⟩:∃x,Nz tr k=x:=⟨_,rfl⟩;obtain⟨xo,hxo⟩:∃x,Pn tr k=x:=⟨_,rfl⟩;have PU:=JJ hxa;have HXO:=JJ hxo;rw[hxa] at e0;rw[hxo] at e1;clear hxa hxo;go_upto_region 6 with (first
        |((with_reducible refine Kz 108 ?_);refine JW rfl 108 rfl #[I 0,I 0] (by kernel_rfl) ?_)
        |((with_reducible refine Lj 108 ?_);refine aB rfl _ _ _ rfl wr.heap.size #[I xa,I xo] rfl rfl 108 #[I 0,I 0] (aF wr _) (by kernel_rfl) rfl (by simp[Value.oneCell']) ?_))
       clear e0 e1;have hb2:ai wr.heap.size wr ((wr.alloc (.cells #[I 0,I 0] 108)).setRow wr.heap.size #[I xa,I xo]):=JR (JM wr _) (ay _) _;have HX:=JJ (AV.SA (AV.new wr #[I 0,I 0] 108) #[I xa,I xo]);have HZ2:=JJ (HZ.out.below hb2);clear hb2 HZ;generalize (wr.alloc (.cells #[I 0,I 0] 108)).setRow wr.heap.size #[I xa,I xo]=W2 at HZ2 HX⊢;generalize wr.heap.size=xb at HX⊢;try simp only[Act.put]
       obtain⟨q1,hq1⟩:∃b,wiB xo 1080=b:=⟨_,rfl⟩;obtain⟨q2,hq2⟩:∃b,wiB xa 2251799813685248=b:=⟨_,rfl⟩;have Ri:=JJ hq1;have PR:=JJ hq2;have HNA:Hid (¬(-2251799813685248<=xa/\xa<=2251799813685248)->q2=false):=JJ (fun h=>by rw[<-hq2];exact aar h);have Za:Hid (¬(-1080<=xo/\xo<=1080)->q1=false):=JJ (fun h=>by rw[<-hq1];exact aar h);have HYA:Hid ((-2251799813685248<=xa/\xa<=2251799813685248)->q2=true):=JJ (fun h=>by rw[<-hq2];exact Tn h);have XZ:Hid ((-1080<=xo/\xo<=1080)->q1=true):=JJ (fun h=>by rw[<-hq1];exact Tn h);clear hq1 hq2;rcases jJ k with hk0|hk0
       ·subst hk0;clear i0;obtain⟨fb,hfb⟩:∃b,(!Tm ⟨cal,st,tr,ho,yr⟩ 0)=b:=⟨_,rfl⟩;have QN:=JJ hfb;clear hfb
        go_cut [75] from 42 to 75 (fun p wx=>p=.bool fb/\ZO w #[I ep,.slice A0 nm a,I lp,.slice R0 n1 r,I st,.slice (some ⟨b,off,none⟩) m c0,I ho,.slice D0 ny d0] wx)
        case first=>
         have x0:W2.cell? ⟨xb,0,none⟩=some (I xa):=HX.out.cell 0;have x1:W2.cell? ⟨xb,1,none⟩=some (I xo):=HX.out.cell 1;have k5:W2.cell? ⟨w.heap.size,5,none⟩=some (.slice (some ⟨b,off,none⟩) m c0):=HZ2.out.row.2 5;have k6:W2.cell? ⟨w.heap.size,6,none⟩=some (I ho):=HZ2.out.row.2 6;cases q1 with
         |false=>
          have HT:Hid (fb=true):=JJ (by
           rw[<-QN.out];cases e:Tm ⟨cal,st,tr,ho,yr⟩ 0 with
           |false=>rfl
           |true=>
            have h2:=(Ns _ _).1 e;unfold Qo at h2;simp only at h2;rw[PU.out,HXO.out] at h2;obtain⟨g1,g2,g3,g4⟩:=h2;exfalso;have h3:=XZ.out g1;cases h3)
          go_quiet ((go_at_call 89;exact NY _ _ _ W2 (by first|exact Ri.out|exact PR.out) (by omega) _));obtain⟨W3,hW3⟩:∃W,W2.drewN nq=W:=⟨_,rfl⟩;rw[hW3];have HZ3:Hid (ZO w #[I ep,.slice A0 nm a,I lp,.slice R0 n1 r,I st,.slice (some ⟨b,off,none⟩) m c0,I ho,.slice D0 ny d0] W3):=JJ (by rw[<-hW3];exact HZ2.out.drewN nq);clear x0 x1 k5 k6;go_wp2_with fail;go_meet;exact⟨by rw[HT.out],HZ3.out⟩
         |true=>
          cases q2 with
          |false=>
           have HT:Hid (fb=true):=JJ (by
            rw[<-QN.out];cases e:Tm ⟨cal,st,tr,ho,yr⟩ 0 with
            |false=>rfl
            |true=>
             have h2:=(Ns _ _).1 e;unfold Qo at h2;simp only at h2;rw[PU.out,HXO.out] at h2;obtain⟨g1,g2,g3,g4⟩:=h2;exfalso;have h3:=HYA.out g2;cases h3)
           go_quiet ((go_at_call 89;exact NY _ _ _ W2 (by first|exact Ri.out|exact PR.out) (by omega) _));obtain⟨W3,hW3⟩:∃W,W2.drewN nq=W:=⟨_,rfl⟩;rw[hW3];have HZ3:Hid (ZO w #[I ep,.slice A0 nm a,I lp,.slice R0 n1 r,I st,.slice (some ⟨b,off,none⟩) m c0,I ho,.slice D0 ny d0] W3):=JJ (by rw[<-hW3];exact HZ2.out.drewN nq);clear x0 x1 k5 k6;go_wp2_with fail;go_meet;exact⟨by rw[HT.out],HZ3.out⟩
          |true=>
           have hxb: -2251799813685248<=xa/\xa<=2251799813685248:=fZ fun h=>by
            have h3:=HNA.out h;cases h3
           by_cases hge:ho<=xa
           ·have ar1:decide (ho<=xa)=true:=aZ hge;have HT:Hid (fb=true):=JJ (by
             rw[<-QN.out];cases e:Tm ⟨cal,st,tr,ho,yr⟩ 0 with
             |false=>rfl
             |true=>
              have h2:=(Ns _ _).1 e;unfold Qo at h2;simp only at h2;rw[PU.out,HXO.out] at h2;obtain⟨g1,g2,g3,g4⟩:=h2;exfalso;omega)
            go_quiet ((go_at_call 89;exact NY _ _ _ W2 (by first|exact Ri.out|exact PR.out) (by omega) _));obtain⟨W3,hW3⟩:∃W,W2.drewN nq=W:=⟨_,rfl⟩;rw[hW3];have HZ3:Hid (ZO w #[I ep,.slice A0 nm a,I lp,.slice R0 n1 r,I st,.slice (some ⟨b,off,none⟩) m c0,I ho,.slice D0 ny d0] W3):=JJ (by rw[<-hW3];exact HZ2.out.drewN nq);clear x0 x1 k5 k6;go_wp2_with fail;go_meet;exact⟨by rw[HT.out],HZ3.out⟩
           ·have HT:Hid (fb=false):=JJ (by
             rw[<-QN.out];have h2:Qo ⟨cal,st,tr,ho,yr⟩ 0:=by
              unfold Qo;simp only;rw[PU.out,HXO.out];refine⟨fZ fun h=>?_,hxb,by omega,by first|exact .inl trivial|exact .inl rfl⟩;have h3:=Za.out h;cases h3
             rw[(Ns _ _).2 h2];rfl)
            go_quiet ((go_at_call 89;exact NY _ _ _ W2 (by first|exact Ri.out|exact PR.out) (by omega) _));obtain⟨W3,hW3⟩:∃W,W2.drewN nq=W:=⟨_,rfl⟩;rw[hW3];have HZ3:Hid (ZO w #[I ep,.slice A0 nm a,I lp,.slice R0 n1 r,I st,.slice (some ⟨b,off,none⟩) m c0,I ho,.slice D0 ny d0] W3):=JJ (by rw[<-hW3];exact HZ2.out.drewN nq);clear x0 x1 k5 k6;go_wp2_with fail;go_meet;exact⟨by rw[HT.out],HZ3.out⟩
        case rest=>
         obtain⟨rfl,hz⟩:=hcut;have HZ3:=JJ hz;clear hz HZ2 HX PU HXO Ri PR HNA Za HYA XZ;cases fb with
         |true=>
          have HF:Hid (ZW ⟨cal,st,tr,ho,yr⟩=false):=JJ (Sr fun hg=>by
           have h2:=(Ns _ _).2 (hg.tr (0) (by show 0<tr.length;rw[Qc.out];omega));have h3:=QN.out;rw[h2] at h3;cases h3)
          have c1:wc.cell? ⟨w.heap.size+1,0,none⟩=some (.pointer none):=aC wc _ 0 _ _ _ HZ3.out.r1;have c2:wc.cell? ⟨w.heap.size+1+1,0,none⟩=some (.bool false):=aC wc (w.heap.size+2) 0 _ _ _ HZ3.out.r2;have f1:wc.frozen? ⟨w.heap.size+1,0,none⟩=false:=aP wc _ 0 _ _ HZ3.out.r1;have f2:wc.frozen? ⟨w.heap.size+1+1,0,none⟩=false:=aP wc (w.heap.size+2) 0 _ _ HZ3.out.r2;go_wp2_with fail;refine OM (v:=.tuple #[.pointer none,.bool false]) rfl (MO rfl _ _ ⟨w.heap.size+1,0,none⟩ ⟨w.heap.size+1+1,0,none⟩ (.pointer none) (.bool false) rfl (Qv _ _ _ ?_) rfl (PI _ _ _ ?_)) ⟨⟨_,by rw[HF.out]⟩,?_⟩
          ·go_simp
          ·go_simp
          ·exact(HZ3.out.up.setCell (p:=⟨w.heap.size+1,0,none⟩) (bV _) _).setCell (p:=⟨w.heap.size+1+1,0,none⟩) (by show w.heap.size<=w.heap.size+1+1;omega) _
         |false=>
          have HT3:Hid (∀j',j'<0+1->Qo ⟨cal,st,tr,ho,yr⟩ j'):=JJ (fun j' hj'=>by
           by_cases h:j'<0
           ·exact HTO.out j' h
           ·have h4:j'=0:=by omega
            rw[h4];refine(Ns _ _).1 ?_;have h3:=QN.out;cases e:Tm ⟨cal,st,tr,ho,yr⟩ (0) with
            |true=>rfl
            |false=>rw[e] at h3;cases h3)
          go_wp2_with fail;go_roundw
          case rel=>exact⟨0+1,by omega,by go_num,HT3.out,HZ3.out⟩
          case measure=>simp[intOf];omega
       ·obtain⟨j,rfl⟩:∃j,k=j+1:=⟨k - 1,by omega⟩;obtain⟨fb,hfb⟩:∃b,(!Tm ⟨cal,st,tr,ho,yr⟩ (j+1))=b:=⟨_,rfl⟩;have QN:=JJ hfb;clear hfb
        go_cut [75] from 42 to 75 (fun p wx=>p=.bool fb/\ZO w #[I ep,.slice A0 nm a,I lp,.slice R0 n1 r,I st,.slice (some ⟨b,off,none⟩) m c0,I ho,.slice D0 ny d0] wx)
        case first=>
         have x0:W2.cell? ⟨xb,0,none⟩=some (I xa):=HX.out.cell 0;have x1:W2.cell? ⟨xb,1,none⟩=some (I xo):=HX.out.cell 1;have k5:W2.cell? ⟨w.heap.size,5,none⟩=some (.slice (some ⟨b,off,none⟩) m c0):=HZ2.out.row.2 5;have k6:W2.cell? ⟨w.heap.size,6,none⟩=some (I ho):=HZ2.out.row.2 6;obtain⟨b2,YA,e2,hcl⟩:=Ov.out W2 HZ2.out.up;injection e2 with e2;injection e2 with e2 e3;subst e2 e3;have ej:=(hcl j (by omega)).1;obtain⟨xj,hxj⟩:∃x,Nz tr j=x:=⟨_,rfl⟩;have hbj:=(HTO.out j (by omega)).2.1;have HXJ:=JJ hxj;simp only at hbj;rw[hxj] at ej hbj;have iz:(0:Int)<(j:Int)+1:=by omega
         have ij:(j:Int)<(m:Int):=by omega
         have ij0:(0:Int)<=(j:Int):=by omega
         clear hcl hxj;cases q1 with
         |false=>
          have HT:Hid (fb=true):=JJ (by
           rw[<-QN.out];cases e:Tm ⟨cal,st,tr,ho,yr⟩ (j+1) with
           |false=>rfl
           |true=>
            have h2:=(Ns _ _).1 e;unfold Qo at h2;simp only at h2;rw[PU.out,HXO.out] at h2;obtain⟨g1,g2,g3,g4⟩:=h2;exfalso;have h3:=XZ.out g1;cases h3)
          go_quiet ((go_at_call 89;exact NY _ _ _ W2 (by first|exact Ri.out|exact PR.out) (by omega) _));obtain⟨W3,hW3⟩:∃W,W2.drewN nq=W:=⟨_,rfl⟩;rw[hW3];have HZ3:Hid (ZO w #[I ep,.slice A0 nm a,I lp,.slice R0 n1 r,I st,.slice (some ⟨b,off,none⟩) m c0,I ho,.slice D0 ny d0] W3):=JJ (by rw[<-hW3];exact HZ2.out.drewN nq);clear x0 x1 k5 k6;go_wp2_with fail;go_meet;exact⟨by rw[HT.out],HZ3.out⟩
         |true=>
          cases q2 with
          |false=>
           have HT:Hid (fb=true):=JJ (by
            rw[<-QN.out];cases e:Tm ⟨cal,st,tr,ho,yr⟩ (j+1) with
            |false=>rfl
            |true=>
             have h2:=(Ns _ _).1 e;unfold Qo at h2;simp only at h2;rw[PU.out,HXO.out] at h2;obtain⟨g1,g2,g3,g4⟩:=h2;exfalso;have h3:=HYA.out g2;cases h3)
           go_quiet ((go_at_call 89;exact NY _ _ _ W2 (by first|exact Ri.out|exact PR.out) (by omega) _));obtain⟨W3,hW3⟩:∃W,W2.drewN nq=W:=⟨_,rfl⟩;rw[hW3];have HZ3:Hid (ZO w #[I ep,.slice A0 nm a,I lp,.slice R0 n1 r,I st,.slice (some ⟨b,off,none⟩) m c0,I ho,.slice D0 ny d0] W3):=JJ (by rw[<-hW3];exact HZ2.out.drewN nq);clear x0 x1 k5 k6;go_wp2_with fail;go_meet;exact⟨by rw[HT.out],HZ3.out⟩
          |true=>
           have hxb: -2251799813685248<=xa/\xa<=2251799813685248:=fZ fun h=>by
            have h3:=HNA.out h;cases h3
           by_cases hge:ho<=xa
           ·have ar1:decide (ho<=xa)=true:=aZ hge;have HT:Hid (fb=true):=JJ (by
             rw[<-QN.out];cases e:Tm ⟨cal,st,tr,ho,yr⟩ (j+1) with
             |false=>rfl
             |true=>
              have h2:=(Ns _ _).1 e;unfold Qo at h2;simp only at h2;rw[PU.out,HXO.out] at h2;obtain⟨g1,g2,g3,g4⟩:=h2;exfalso;omega)
            go_quiet ((go_at_call 89;exact NY _ _ _ W2 (by first|exact Ri.out|exact PR.out) (by omega) _));obtain⟨W3,hW3⟩:∃W,W2.drewN nq=W:=⟨_,rfl⟩;rw[hW3];have HZ3:Hid (ZO w #[I ep,.slice A0 nm a,I lp,.slice R0 n1 r,I st,.slice (some ⟨b,off,none⟩) m c0,I ho,.slice D0 ny d0] W3):=JJ (by rw[<-hW3];exact HZ2.out.drewN nq);clear x0 x1 k5 k6;go_wp2_with fail;go_meet;exact⟨by rw[HT.out],HZ3.out⟩
           ·by_cases hgp:xa - xj<2160
            ·have HT:Hid (fb=true):=JJ (by
              rw[<-QN.out];cases e:Tm ⟨cal,st,tr,ho,yr⟩ (j+1) with
              |false=>rfl
              |true=>
               have h2:=(Ns _ _).1 e;unfold Qo at h2;simp only at h2;rw[PU.out,HXO.out] at h2;obtain⟨g1,g2,g3,g4⟩:=h2;exfalso;rcases g4 with g4|g4
               ·omega
               ·rw[iC,HXJ.out] at g4;omega)
             go_quiet ((go_at_call 89;exact NY _ _ _ W2 (by first|exact Ri.out|exact PR.out) (by omega) _));obtain⟨W3,hW3⟩:∃W,W2.drewN nq=W:=⟨_,rfl⟩;rw[hW3];have HZ3:Hid (ZO w #[I ep,.slice A0 nm a,I lp,.slice R0 n1 r,I st,.slice (some ⟨b,off,none⟩) m c0,I ho,.slice D0 ny d0] W3):=JJ (by rw[<-hW3];exact HZ2.out.drewN nq);clear x0 x1 k5 k6;go_wp2_with fail;go_meet;exact⟨by rw[HT.out],HZ3.out⟩
            ·have HT:Hid (fb=false):=JJ (by
              rw[<-QN.out];have h2:Qo ⟨cal,st,tr,ho,yr⟩ (j+1):=by
               unfold Qo;simp only;rw[PU.out,HXO.out];refine⟨fZ fun h=>?_,hxb,by omega,.inr (by rw[iC,HXJ.out];omega)⟩;have h3:=Za.out h;cases h3
              rw[(Ns _ _).2 h2];rfl)
             go_quiet ((go_at_call 89;exact NY _ _ _ W2 (by first|exact Ri.out|exact PR.out) (by omega) _));obtain⟨W3,hW3⟩:∃W,W2.drewN nq=W:=⟨_,rfl⟩;rw[hW3];have HZ3:Hid (ZO w #[I ep,.slice A0 nm a,I lp,.slice R0 n1 r,I st,.slice (some ⟨b,off,none⟩) m c0,I ho,.slice D0 ny d0] W3):=JJ (by rw[<-hW3];exact HZ2.out.drewN nq);clear x0 x1 k5 k6;go_wp2_with fail;go_meet;exact⟨by rw[HT.out],HZ3.out⟩
        case rest=>
         obtain⟨rfl,hz⟩:=hcut;have HZ3:=JJ hz;clear hz HZ2 HX PU HXO Ri PR HNA Za HYA XZ;cases fb with
         |true=>
          have HF:Hid (ZW ⟨cal,st,tr,ho,yr⟩=false):=JJ (Sr fun hg=>by
           have h2:=(Ns _ _).2 (hg.tr ((j+1)) (by show(j+1)<tr.length;rw[Qc.out];omega));have h3:=QN.out;rw[h2] at h3;cases h3)
          have c1:wc.cell? ⟨w.heap.size+1,0,none⟩=some (.pointer none):=aC wc _ 0 _ _ _ HZ3.out.r1;have c2:wc.cell? ⟨w.heap.size+1+1,0,none⟩=some (.bool false):=aC wc (w.heap.size+2) 0 _ _ _ HZ3.out.r2;have f1:wc.frozen? ⟨w.heap.size+1,0,none⟩=false:=aP wc _ 0 _ _ HZ3.out.r1;have f2:wc.frozen? ⟨w.heap.size+1+1,0,none⟩=false:=aP wc (w.heap.size+2) 0 _ _ HZ3.out.r2;go_wp2_with fail;refine OM (v:=.tuple #[.pointer none,.bool false]) rfl (MO rfl _ _ ⟨w.heap.size+1,0,none⟩ ⟨w.heap.size+1+1,0,none⟩ (.pointer none) (.bool false) rfl (Qv _ _ _ ?_) rfl (PI _ _ _ ?_)) ⟨⟨_,by rw[HF.out]⟩,?_⟩
          ·go_simp
          ·go_simp
          ·exact(HZ3.out.up.setCell (p:=⟨w.heap.size+1,0,none⟩) (bV _) _).setCell (p:=⟨w.heap.size+1+1,0,none⟩) (by show w.heap.size<=w.heap.size+1+1;omega) _
         |false=>
          have HT3:Hid (∀j',j'<(j+1)+1->Qo ⟨cal,st,tr,ho,yr⟩ j'):=JJ (fun j' hj'=>by
           by_cases h:j'<(j+1)
           ·exact HTO.out j' h
           ·have h4:j'=(j+1):=by omega
            rw[h4];refine(Ns _ _).1 ?_;have h3:=QN.out;cases e:Tm ⟨cal,st,tr,ho,yr⟩ ((j+1)) with
            |true=>rfl
            |false=>rw[e] at h3;cases h3)
          go_wp2_with fail;go_roundw
          case rel=>exact⟨(j+1)+1,by omega,by go_num,HT3.out,HZ3.out⟩
          case measure=>simp[intOf];omega
      ·have awH:k=m:=by omega
       have i1:¬(k:Int)<(m:Int):=by omega
       have aq6:Hid (∀i,i<m->Qo ⟨cal,st,tr,ho,yr⟩ i):=JJ (by rw[<-awH];exact HTO.out);clear awH hk HTO;have k7:wr.cell? ⟨w.heap.size,7,none⟩=some (.slice D0 ny d0):=HZ.out.row.2 7;by_cases hny:ny=0\/ny=2
       case neg=>
        have HF:Hid (ZW ⟨cal,st,tr,ho,yr⟩=false):=JJ (Sr fun hg=>by
         have h2:=HNY.out;rcases hg.yr with h|⟨r0,r1,h,_,_⟩
         ·simp only at h;rw[h] at h2;exact hny (.inl h2.symm)
         ·simp only at h;rw[h] at h2;exact hny (.inr h2.symm))
        have t0:((ny:Int) !=0)=true:=by simp;omega
        have t1:(ny !=0)=true:=by simp;omega
        have t2:((ny:Int) !=2)=true:=by simp;omega
        have t3:(ny !=2)=true:=by simp;omega
        have t4:¬(ny:Int)=0:=by omega
        have t5:¬(ny:Int)=2:=by omega
        clear hny;have c1:wr.cell? ⟨w.heap.size+1,0,none⟩=some (.pointer none):=aC wr _ 0 _ _ _ HZ.out.r1;have c2:wr.cell? ⟨w.heap.size+1+1,0,none⟩=some (.bool false):=aC wr (w.heap.size+2) 0 _ _ _ HZ.out.r2;have f1:wr.frozen? ⟨w.heap.size+1,0,none⟩=false:=aP wr _ 0 _ _ HZ.out.r1;have f2:wr.frozen? ⟨w.heap.size+1+1,0,none⟩=false:=aP wr (w.heap.size+2) 0 _ _ HZ.out.r2;go_wp2_with fail;refine OM (v:=.tuple #[.pointer none,.bool false]) rfl (MO rfl _ _ ⟨w.heap.size+1,0,none⟩ ⟨w.heap.size+1+1,0,none⟩ (.pointer none) (.bool false) rfl (Qv _ _ _ ?_) rfl (PI _ _ _ ?_)) ⟨⟨_,by rw[HF.out]⟩,?_⟩
        ·go_simp
        ·go_simp
        ·exact(HZ.out.up.setCell (p:=⟨w.heap.size+1,0,none⟩) (bV _) _).setCell (p:=⟨w.heap.size+1+1,0,none⟩) (by show w.heap.size<=w.heap.size+1+1;omega) _
       have HNE:=JJ hny;clear hny k7;go_upto_region 9 with fail
       go_cut [86] from 77 to 86 (fun p wx=>p=.bool false/\ZO w #[I ep,.slice A0 nm a,I lp,.slice R0 n1 r,I st,.slice C m c0,I ho,.slice D0 ny d0] wx)
       case first=>
        have k7:wr.cell? ⟨w.heap.size,7,none⟩=some (.slice D0 ny d0):=HZ.out.row.2 7;rcases HNE.out with h0|h0
        ·subst h0;go_wp2_with fail;go_meet;exact⟨rfl,HZ.out⟩
        ·subst h0;go_wp2_with fail;go_meet;exact⟨rfl,HZ.out⟩
       case rest=>
        obtain⟨rfl,hz⟩:=hcut;have HZ':=JJ hz;clear hz HZ i1;have HZ:=HZ';have aEr:ny<=2:=by have:=HNE.out;omega
        have k7:wc.cell? ⟨w.heap.size,7,none⟩=some (.slice D0 ny d0):=HZ.out.row.2 7;go_wp2_with fail;clear k7
        go_loopw [90] (fun i wr=>∃k:Nat,k<=ny/\i=I (k:Nat)/\(∀j y,j<k->yr[j]? =some y->U5 nm y)/\ZO w #[I ep,.slice A0 nm a,I lp,.slice R0 n1 r,I st,.slice C m c0,I ho,.slice D0 ny d0] wr) (fun i _=>ny - (intOf i).toNat)
        case atStart=>exact⟨0,aG _,rfl,(fun j y hj=>by omega),HZ.out⟩
        case round=>
         clear HZ HZ';obtain⟨k,hkn,rfl,hyo,hzo⟩:=hrel;have HZ:=JJ hzo;have XZ:=JJ hyo;clear hzo hyo;by_cases hk:k<ny
         ·have azE:=XZ;clear XZ;have i1:(k:Int)<(ny:Int):=by omega
          have i0:(0:Int)<=(k:Int):=by omega
          have hyl:0<yr.length:=by have:=HNY.out;omega
          obtain⟨yb,yo,hD,hyb,hyc⟩:=HYS.out.there (by rw[KW (s:=5) Yr.cells yr fun _ _=>rfl];omega);obtain⟨x,hx⟩:∃x,yr[k]? =some x:=⟨_,KL (by rw[HNY.out];exact hk)⟩;have HXE:=JJ hx;have LC:Hid (wr.rangeAt yb (yo+k*5) x.cells):=JJ (JY (JS.elem (s:=5) (f:=Yr.cells) (xs:=yr) (fun _ _=>rfl) hyc k x hx) HZ.out.up hyb);clear hyc hx
          (try simp only at hD)
          subst hD;have y0:wr.cell? ⟨yb,yo+k*5,none⟩=some (I x.month):=LC.out 0 _ rfl;have y1:wr.cell? ⟨yb,yo+k*5+1,none⟩=some (I x.La):=LC.out 1 _ rfl;have y2:wr.cell? ⟨yb,yo+k*5+2,none⟩=some (I x.Lh):=LC.out 2 _ rfl;have y3:wr.cell? ⟨yb,yo+k*5+3,none⟩=some (I x.minute):=LC.out 3 _ rfl;have y4:wr.cell? ⟨yb,yo+k*5+4,none⟩=some (I x.off):=LC.out 4 _ rfl;go_upto_region 14 with (first
           |((with_reducible refine Kz 110 ?_);refine JW rfl 110 rfl #[I 0,I 0,I 0,I 0,I 0] (by kernel_rfl) ?_)
           |((with_reducible refine Lj 110 ?_);refine aB rfl _ _ _ rfl wr.heap.size #[I x.month,I x.La,I x.Lh,I x.minute,I x.off] rfl rfl 110 #[I 0,I 0,I 0,I 0,I 0] (aF wr _) (by kernel_rfl) rfl (by simp[Value.oneCell']) ?_))
          clear LC y0 y1 y2 y3 y4;have hb2:ai wr.heap.size wr ((wr.alloc (.cells #[I 0,I 0,I 0,I 0,I 0] 110)).setRow wr.heap.size #[I x.month,I x.La,I x.Lh,I x.minute,I x.off]):=JR (JM wr _) (ay _) _;have Uj:=JJ (AV.SA (AV.new wr #[I 0,I 0,I 0,I 0,I 0] 110) #[I x.month,I x.La,I x.Lh,I x.minute,I x.off]);have HZX:=JJ (HZ.out.below hb2);clear hb2 HZ;generalize (wr.alloc (.cells #[I 0,I 0,I 0,I 0,I 0] 110)).setRow wr.heap.size #[I x.month,I x.La,I x.Lh,I x.minute,I x.off]=X0 at HZX Uj⊢;generalize wr.heap.size=rb0 at Uj⊢;try simp only[Act.put]
          simp only[dB,iy,iQ];obtain⟨q1,hq1⟩:∃b,wiB x.off 1080=b:=⟨_,rfl⟩;have HWY:=JJ (fun W=>UF x.off 1080 W (by omega));rw[hq1] at HWY;have Za:Hid (¬(-1080<=x.off/\x.off<=1080)->q1=false):=JJ (fun h=>by rw[<-hq1];exact aar h);have XZ:Hid ((-1080<=x.off/\x.off<=1080)->q1=true):=JJ (fun h=>by rw[<-hq1];exact Tn h);obtain⟨fb,hfb⟩:∃b,(!WJ nm x)=b:=⟨_,rfl⟩;have QN:=JJ hfb;clear hq1 hfb
          go_cut [141] from 94 to 141 (fun p wx=>p=.bool fb/\ZO w #[I ep,.slice A0 nm a,I lp,.slice R0 n1 r,I st,.slice C m c0,I ho,.slice (some ⟨yb,yo,none⟩) ny d0] wx)
          case first=>
           have u0:X0.cell? ⟨rb0,0,none⟩=some (I x.month):=Uj.out.cell 0;have u1:X0.cell? ⟨rb0,1,none⟩=some (I x.La):=Uj.out.cell 1;have u2:X0.cell? ⟨rb0,2,none⟩=some (I x.Lh):=Uj.out.cell 2;have u3:X0.cell? ⟨rb0,3,none⟩=some (I x.minute):=Uj.out.cell 3;have u4:X0.cell? ⟨rb0,4,none⟩=some (I x.off):=Uj.out.cell 4;have k1:X0.cell? ⟨w.heap.size,1,none⟩=some (.slice A0 nm a):=HZX.out.row.2 1;cases q1 with
           |false=>
            have HT:Hid (fb=true):=JJ (by
             rw[<-QN.out];cases e:WJ nm x with
             |false=>rfl
             |true=>
              have h2:=(NV _ _).1 e;exfalso;have h3:=XZ.out h2.of;cases h3)
            go_wp2_with fail;refine(HWY.out _).mono ?_;rintro e wy0 ⟨rfl,rfl⟩;go_wp2_with fail;go_meet;exact⟨by rw[HT.out],HZX.out⟩
           |true=>
            by_cases m0:x.month<1
            ·have HT:Hid (fb=true):=JJ (by
              rw[<-QN.out];cases e:WJ nm x with
              |false=>rfl
              |true=>
               have h2:=(NV _ _).1 e;exfalso;have h4:=h2.mo;omega)
             go_wp2_with fail;refine(HWY.out _).mono ?_;rintro e wy0 ⟨rfl,rfl⟩;go_wp2_with fail;go_meet;exact⟨by rw[HT.out],HZX.out⟩
            ·by_cases m1:(nm:Int)<x.month
             ·have HT:Hid (fb=true):=JJ (by
               rw[<-QN.out];cases e:WJ nm x with
               |false=>rfl
               |true=>
                have h2:=(NV _ _).1 e;exfalso;have h4:=h2.mo;omega)
              go_wp2_with fail;refine(HWY.out _).mono ?_;rintro e wy0 ⟨rfl,rfl⟩;go_wp2_with fail;go_meet;exact⟨by rw[HT.out],HZX.out⟩
             ·by_cases m2:x.La<1
              ·have HT:Hid (fb=true):=JJ (by
                rw[<-QN.out];cases e:WJ nm x with
                |false=>rfl
                |true=>
                 have h2:=(NV _ _).1 e;exfalso;have h4:=h2.wk;omega)
               go_wp2_with fail;refine(HWY.out _).mono ?_;rintro e wy0 ⟨rfl,rfl⟩;go_wp2_with fail;go_meet;exact⟨by rw[HT.out],HZX.out⟩
              ·by_cases m3:(5:Int)<x.La
               ·have HT:Hid (fb=true):=JJ (by
                 rw[<-QN.out];cases e:WJ nm x with
                 |false=>rfl
                 |true=>
                  have h2:=(NV _ _).1 e;exfalso;have h4:=h2.wk;omega)
                go_wp2_with fail;refine(HWY.out _).mono ?_;rintro e wy0 ⟨rfl,rfl⟩;go_wp2_with fail;go_meet;exact⟨by rw[HT.out],HZX.out⟩
               ·by_cases m4:x.Lh<0
                ·have HT:Hid (fb=true):=JJ (by
                  rw[<-QN.out];cases e:WJ nm x with
                  |false=>rfl
                  |true=>
                   have h2:=(NV _ _).1 e;exfalso;have h4:=h2.wd;omega)
                 go_wp2_with fail;refine(HWY.out _).mono ?_;rintro e wy0 ⟨rfl,rfl⟩;go_wp2_with fail;go_meet;exact⟨by rw[HT.out],HZX.out⟩
                ·by_cases m5:(6:Int)<x.Lh
                 ·have HT:Hid (fb=true):=JJ (by
                   rw[<-QN.out];cases e:WJ nm x with
                   |false=>rfl
                   |true=>
                    have h2:=(NV _ _).1 e;exfalso;have h4:=h2.wd;omega)
                  go_wp2_with fail;refine(HWY.out _).mono ?_;rintro e wy0 ⟨rfl,rfl⟩;go_wp2_with fail;go_meet;exact⟨by rw[HT.out],HZX.out⟩
                 ·by_cases m6:x.minute<0
                  ·have HT:Hid (fb=true):=JJ (by
                    rw[<-QN.out];cases e:WJ nm x with
                    |false=>rfl
                    |true=>
                     have h2:=(NV _ _).1 e;exfalso;have h4:=h2.mi;omega)
                   go_wp2_with fail;refine(HWY.out _).mono ?_;rintro e wy0 ⟨rfl,rfl⟩;go_wp2_with fail;go_meet;exact⟨by rw[HT.out],HZX.out⟩
                  ·by_cases m7:(1440:Int)<=x.minute
                   ·have HT:Hid (fb=true):=JJ (by
                     rw[<-QN.out];cases e:WJ nm x with
                     |false=>rfl
                     |true=>
                      have h2:=(NV _ _).1 e;exfalso;have h4:=h2.mi;omega)
                    go_wp2_with fail;refine(HWY.out _).mono ?_;rintro e wy0 ⟨rfl,rfl⟩;go_wp2_with fail;go_meet;exact⟨by rw[HT.out],HZX.out⟩
                   ·have HT:Hid (fb=false):=JJ (by
                     rw[<-QN.out];have h2:U5 nm x:=by
                      refine⟨by omega,by omega,by omega,by omega,fZ fun h=>?_⟩;have h3:=Za.out h;cases h3
                     rw[(NV _ _).2 h2];rfl)
                    go_wp2_with fail;refine(HWY.out _).mono ?_;rintro e wy0 ⟨rfl,rfl⟩;go_wp2_with fail;go_meet;exact⟨by rw[HT.out];congr 1;simp only[Bool.or_eq_false_iff,decide_eq_false_iff_not];omega,HZX.out⟩
          case rest=>
           obtain⟨rfl,hz⟩:=hcut;have HZ3:=JJ hz;clear hz HZX Uj HWY Za XZ;cases fb with
           |true=>
            have HF:Hid (ZW ⟨cal,st,tr,ho,yr⟩=false):=JJ (Sr fun hg=>by
             have h1:=HXE.out;have h3:=QN.out;have h5:=HNM.out;rcases hg.yr with h|⟨r0,r1,h,h7,h8⟩
             ·simp only at h;rw[h] at h1;cases h1
             ·simp only at h h7 h8;rw[h5] at h7 h8;have h9:U5 nm x:=by
               rw[h] at h1
               match k,h1 with
               |0,h1=>injection h1 with h1;rw[<-h1];exact h7
               |1,h1=>injection h1 with h1;rw[<-h1];exact h8
               |n+2,h1=>cases h1
              rw[(NV _ _).2 h9] at h3;cases h3)
            have c1:wc.cell? ⟨w.heap.size+1,0,none⟩=some (.pointer none):=aC wc _ 0 _ _ _ HZ3.out.r1;have c2:wc.cell? ⟨w.heap.size+1+1,0,none⟩=some (.bool false):=aC wc (w.heap.size+2) 0 _ _ _ HZ3.out.r2;have f1:wc.frozen? ⟨w.heap.size+1,0,none⟩=false:=aP wc _ 0 _ _ HZ3.out.r1;have f2:wc.frozen? ⟨w.heap.size+1+1,0,none⟩=false:=aP wc (w.heap.size+2) 0 _ _ HZ3.out.r2;go_wp2_with fail;refine OM (v:=.tuple #[.pointer none,.bool false]) rfl (MO rfl _ _ ⟨w.heap.size+1,0,none⟩ ⟨w.heap.size+1+1,0,none⟩ (.pointer none) (.bool false) rfl (Qv _ _ _ ?_) rfl (PI _ _ _ ?_)) ⟨⟨_,by rw[HF.out]⟩,?_⟩
            ·go_simp
            ·go_simp
            ·exact(HZ3.out.up.setCell (p:=⟨w.heap.size+1,0,none⟩) (bV _) _).setCell (p:=⟨w.heap.size+1+1,0,none⟩) (by show w.heap.size<=w.heap.size+1+1;omega) _
           |false=>
            have HT3:Hid (∀j y,j<k+1->yr[j]? =some y->U5 nm y):=JJ (fun j y hj hy=>by
             by_cases h:j<k
             ·exact azE.out j y h hy
             ·have h4:j=k:=by omega
              rw[h4,HXE.out] at hy;injection hy with hy;rw[<-hy];refine(NV _ _).1 ?_;have h3:=QN.out;cases e:WJ nm x with
              |true=>rfl
              |false=>rw[e] at h3;cases h3)
            go_wp2_with fail;go_roundw
            case rel=>exact⟨k+1,by omega,by go_num,HT3.out,HZ3.out⟩
            case measure=>simp[intOf];omega
         ·have hkn2:k=ny:=by omega
          have i1:¬(k:Int)<(ny:Int):=by omega
          have HYV:Hid (SV ⟨cal,st,tr,ho,yr⟩):=JJ (by
           have hnl:=HNY.out;have hm1:=HNM.out;unfold SV;simp only[hm1]
           match yr,hnl,XZ.out with
           | [],_,_=>exact .inl rfl
           | [x],hnl,_=>exact absurd hnl (by have:=HNE.out;simp;omega)
           | [x,y],hnl,h=>exact .inr ⟨x,y,rfl,h 0 x (by simp at hnl;omega) rfl,h 1 y (by simp at hnl;omega) rfl⟩
           |_::_::_::_,hnl,_=>exact absurd hnl (by have:=HNE.out;simp;omega))
          clear hkn2 hk XZ;have HK:=JJ (HKK.out HCG.out HYV.out);have avC:=JJ (ame ⟨cal,st,tr,ho,yr⟩ HCG.out HYV.out);have HZC:=JJ (Xv ⟨cal,st,tr,ho,yr⟩ HCG.out);have HBD:Hid (∀k,k<m->True/\ -2251799813685248<=Nz tr k/\Nz tr k<=2251799813685248):=JJ (fun k hk=>⟨trivial,(aq6.out k hk).2.1⟩);have azn:Hid (∀x∈tr,x.at_<ho):=JJ (fun x hx=>by
           obtain⟨i,hi⟩:=fU hx;have hil:i<m:=by rw[<-Qc.out];exact(MF.1 hi).1
           have h1:=(aq6.out i hil).2.2.1;unfold Nz at h1;simp only[hi,mZ,jc] at h1;exact h1)
          have api:Hid (Me (UW ⟨cal,st,tr,ho,yr⟩) (Nr ⟨cal,st,tr,ho,yr⟩*1440)=true->X3 ⟨cal,st,tr,ho,yr⟩->ZW ⟨cal,st,tr,ho,yr⟩=true):=JJ (fun hg hl=>acw ⟨by show tr.length<=512;rw[Qc.out];omega,HCG.out,hst,hho,fun i hi=>aq6.out i (by rw[<-Qc.out];exact hi),HYV.out,hg,hl⟩);go_upto_region 17 with fail;clear i1;go_wp2_with((with_reducible refine Nb 69 ?_);refine J3 rfl _ _ rfl w.heap.size rfl #[I ep,.slice A0 nm a,I lp,.slice R0 n1 r,I st,.slice C m c0,I ho,.slice D0 ny d0] ⟨HZ.out.row.1,HZ.out.row.2⟩ _ cu rfl (by kernel_rfl) ?_);refine(HK.out wr HZ.out.up).mono ?_;rintro e w5 h5;rcases h5.symm with ⟨hgp,rfl,hb5⟩|⟨hgp,rfl,A2,n2,c2,htk⟩
          ·have HF:Hid (ZW ⟨cal,st,tr,ho,yr⟩=false):=JJ (Sr fun hg=>by
            have h1:=hg.LM;rw[hgp] at h1;cases h1)
           have HZ6:=JJ ((HZ.out.below hb5).below (JM w5 (.cells #[.pointer none] 140)));clear hb5 HZ hgp;go_upto_region 18 with fail;generalize w5.alloc (.cells #[.pointer none] 140)=w6 at HZ6⊢;have c1:w6.cell? ⟨w.heap.size+1,0,none⟩=some (.pointer none):=aC w6 _ 0 _ _ _ HZ6.out.r1;have c2:w6.cell? ⟨w.heap.size+1+1,0,none⟩=some (.bool false):=aC w6 (w.heap.size+2) 0 _ _ _ HZ6.out.r2;have f1:w6.frozen? ⟨w.heap.size+1,0,none⟩=false:=aP w6 _ 0 _ _ HZ6.out.r1;have f2:w6.frozen? ⟨w.heap.size+1+1,0,none⟩=false:=aP w6 (w.heap.size+2) 0 _ _ HZ6.out.r2;go_wp2_with fail;refine OM (v:=.tuple #[.pointer none,.bool false]) rfl (MO rfl _ _ ⟨w.heap.size+1,0,none⟩ ⟨w.heap.size+1+1,0,none⟩ (.pointer none) (.bool false) rfl (Qv _ _ _ ?_) rfl (PI _ _ _ ?_)) ⟨⟨_,by rw[HF.out]⟩,?_⟩
           ·go_simp
           ·go_simp
           ·exact(HZ6.out.up.setCell (p:=⟨w.heap.size+1,0,none⟩) (bV _) _).setCell (p:=⟨w.heap.size+1+1,0,none⟩) (by show w.heap.size<=w.heap.size+1+1;omega) _
          have HGP:=JJ hgp;have au2:Hid (m=0\/(UW ⟨cal,st,tr,ho,yr⟩).length=0->ZW ⟨cal,st,tr,ho,yr⟩=true):=JJ (fun h=>api.out HGP.out (by
           unfold X3;simp only[Qc.out];intro h0 h1;rcases h with h|h
           ·omega
           ·exact absurd h h1))
          have aqR:Hid (0<m->(UW ⟨cal,st,tr,ho,yr⟩).length≠0->ZW ⟨cal,st,tr,ho,yr⟩=decide (2160<=(MH (UW ⟨cal,st,tr,ho,yr⟩) (Nr ⟨cal,st,tr,ho,yr⟩*1440) ho).1.at_ - Nz tr (tr.length - 1))):=JJ (fun h0 h1=>by
           by_cases hd:2160<=(MH (UW ⟨cal,st,tr,ho,yr⟩) (Nr ⟨cal,st,tr,ho,yr⟩*1440) ho).1.at_ - Nz tr (tr.length - 1)
           ·rw[aZ hd];exact api.out HGP.out (fun _ _=>hd)
           ·rw[bT hd];exact Sr fun hg=>hd (hg.late (by show 0<tr.length;rw[Qc.out];exact h0) h1))
          clear hgp;have hsz0:w.heap.size+2<wr.heap.size:=(KY.1 HZ.out.r2).1;have hsz5:=htk.k.lt;have HTK:=JJ (htk.grow (JM w5 (.cells #[.pointer (some ⟨wr.heap.size+1,0,none⟩)] 140)));have HZ6:=JJ ((HZ.out.below htk.lo).below (JM w5 (.cells #[.pointer (some ⟨wr.heap.size+1,0,none⟩)] 140)));have HP6:=JJ (aF w5 (.cells #[.pointer (some ⟨wr.heap.size+1,0,none⟩)] 140));clear htk HZ;go_upto_region 20 with fail;generalize w5.alloc (.cells #[.pointer (some ⟨wr.heap.size+1,0,none⟩)] 140)=w6 at HTK HZ6 HP6⊢;generalize w5.heap.size=pb at HP6 hsz5⊢;have k5:w6.cell? ⟨w.heap.size,5,none⟩=some (.slice C m c0):=HZ6.out.row.2 5;have aq5:=JJ (HTK.out.grow (JM w6 (.cells #[I (m:Int)] 3)));have HZ7:=JJ (HZ6.out.below (JM w6 (.cells #[I (m:Int)] 3)));have HP7:=JJ ((aV w6 (.cells #[I (m:Int)] 3) pb (KY.1 HP6.out).1).trans HP6.out);have HN7:=JJ (aF w6 (.cells #[I (m:Int)] 3));have hpn:pb≠w6.heap.size:=by have:=(KY.1 HP6.out).1;omega
          have awV:pb<w6.heap.size:=(KY.1 HP6.out).1;go_upto_region 21 with fail;clear k5 HTK HZ6 HP6;generalize w6.alloc (.cells #[I (m:Int)] 3)=w7 at aq5 HZ7 HP7 HN7⊢;generalize w6.heap.size=nb at HN7 hpn awV⊢;have n0:w7.cell? ⟨nb,0,none⟩=some (I (m:Int)):=aC w7 nb 0 _ _ _ HN7.out;have p0:w7.cell? ⟨pb,0,none⟩=some (.pointer (some ⟨wr.heap.size+1,0,none⟩)):=aC w7 pb 0 _ _ _ HP7.out;rcases jJ m with hm0|hm0
          ·have c1:w7.cell? ⟨w.heap.size+1,0,none⟩=some (.pointer none):=aC w7 _ 0 _ _ _ HZ7.out.r1;have c2:w7.cell? ⟨w.heap.size+1+1,0,none⟩=some (.bool false):=aC w7 (w.heap.size+2) 0 _ _ _ HZ7.out.r2;have f1:w7.frozen? ⟨w.heap.size+1,0,none⟩=false:=aP w7 _ 0 _ _ HZ7.out.r1;have f2:w7.frozen? ⟨w.heap.size+1+1,0,none⟩=false:=aP w7 (w.heap.size+2) 0 _ _ HZ7.out.r2;have q1:¬pb=w.heap.size+1:=by omega
           have q2:¬pb=w.heap.size+1+1:=by omega
           go_wp2_with fail;refine OM (v:=.tuple #[pt (wr.heap.size+1),.bool true]) rfl (MO rfl _ _ ⟨w.heap.size+1,0,none⟩ ⟨w.heap.size+1+1,0,none⟩ (pt (wr.heap.size+1)) (.bool true) rfl (Wp _ _ _ ?_) rfl (Sm _ _ _ ?_)) ⟨⟨_,by rw[au2.out (.inl hm0)]⟩,?_⟩
           ·go_simp
           ·go_simp
           ·exact(HZ7.out.up.setCell (p:=⟨w.heap.size+1,0,none⟩) (bV _) _).setCell (p:=⟨w.heap.size+1+1,0,none⟩) (by show w.heap.size<=w.heap.size+1+1;omega) _
          ·have k6:w7.cell? ⟨w.heap.size,6,none⟩=some (I ho):=HZ7.out.row.2 6;have HFM:=JJ (akA (wr.heap.size+1) ho);go_wp2_with fail;refine(HFM.out _).mono ?_;rintro e w8 ⟨rfl,rfl⟩;clear HFM n0 p0 k6;obtain⟨w8,hw8⟩:∃W,(w7.alloc (.cells #[.pointer (some ⟨wr.heap.size+1,0,none⟩)] 140)).alloc (.cells #[I ho] 3)=W:=⟨_,rfl⟩;have hb8:ai w7.heap.size w7 w8:=by rw[<-hw8];exact JL (JM w7 _) (JM _ _)
           have hcb:w8.heap[w7.heap.size]? =some (.cells #[.pointer (some ⟨wr.heap.size+1,0,none⟩)] 140 (0,0)):=by rw[<-hw8];exact dJ w7 _ _
           have htb:w8.heap[w7.heap.size+1]? =some (.cells #[I ho] 3 (0,0)):=by rw[<-hw8];exact bW w7 _ _
           have hs8:w8.heap.size=w7.heap.size+2:=by rw[<-hw8];simp
           have hs7:nb<w7.heap.size:=(KY.1 HN7.out).1;rw[hw8];clear hw8;have ajS:=JJ (aq5.out.grow hb8);have Zj:=JJ (HZ7.out.below hb8);have HP8:=JJ ((hb8.block _ (KY.1 HP7.out).1).trans HP7.out);have HN8:=JJ ((hb8.block _ (KY.1 HN7.out).1).trans HN7.out);obtain⟨b,off,hCb,hcl⟩:=HAT.out w8 Zj.out.up hm0;have hCB:b<w.heap.size:=by
            rcases avk.out with h0|⟨b',off',e,hb,_⟩
            ·rw[KW (s:=2) Tr.cells _ fun _ _=>rfl] at h0;have:=Qc.out;omega
            ·rw[e] at hCb;injection hCb with e1;injection e1 with e2;omega
           have HFS:=JJ (ajS.out.frs (B:=w8.heap.size) (m:=m) (trs:=tr) (C:=C) rfl (.inr ⟨b,off,hCb,by omega,hcl⟩) hcb htb);have Ov:=JJ hcl;clear aq5 HZ7 HP7 HN7 hb8 hcb htb;generalize w7.heap.size=cb at HFS hs7 hs8⊢;go_wp2_with fail;refine(qC (n:=3)).1 ?_;have HSQ:=afJ 2 w8.heap.size (wr.heap.size+1) cb (cb+1) n2 m nm n1 ny a r c0 d0 c2 A0 R0 A2 C D0 ep lp st ho _ _ tr w8 HFS.out (ay _) ajS.out.len Qc.out (fun x hx=>azn.out x hx) avC.out.1 HZC.out.1 (by have:=HZC.out.2;omega) hho.1 hho.2 (by have:=avC.out.2;have h2:=ajS.out.len;omega) (by omega) (by omega);obtain⟨tl,htl⟩:∃t,Nz tr (m - 1)=t:=⟨_,rfl⟩;have UG:=JJ htl;have aAB:=(HBD.out (m - 1) (by omega)).2;rw[htl] at aAB;have hel:=(Ov.out (m - 1) (by omega)).1;rw[htl] at hel;have HEL:=JJ hel;clear htl hel;have hb7:w.heap.size+2<w8.heap.size:=by omega
           have hb9:w.heap.size+2<cb+1:=by omega
           have aqA:Hid (∀X,w8.grownBy X (some (cb+1))->∀k,k<w8.heap.size->k≠cb+1->X.heap[k]? =w8.heap[k]?):=JJ (fun X hg k hk hn=>hg.block k hk (fun e=>hn (by injection e)));have HUP:Hid (∀X,w8.grownBy X (some (cb+1))->ai w.heap.size w X):=JJ (fun X hg=>Zj.out.up.grown hg Zj.out.up.size (fun k e=>by injection e with e;omega));refine aoP (P:=fun a0=>Code.wpIn _ _ _ _ _ a0 _) (fun a0 ha0=>?_);have WX:=JJ ha0;refine Vr rfl (by omega) (gf:=115) (lb:= #[.pointer (some ⟨cb,0,none⟩),.pointer (some ⟨cb+1,0,none⟩)]) (by rw[ha0];rfl) trivial (lK Tryz.func115 (by kernel_rfl) rfl)
            HSQ (by omega) (ay _) (aW _ _) (fun _=>rfl)
            (fun pre X=>pre= []/\w8.grownBy X (some (cb+1)))
            (fun c pre X=>apd w w8 (cb+1) (wr.heap.size+1) tl c pre X)
            akk (fun c=>aku (ay _) hb7 hb9 c) ⟨rfl,World.grownBy.refl _ _⟩ (fun pre X h=>h.1)
            (fun x a' X=>∃q,w8.heap.size<=q/\X.heap[q]? =some (.cells #[I x.1.at_,I x.1.off] 108 (0,0))/\a'=({tmps:=(a0.tmps.setIfInBounds 159 (.agg #[I x.1.at_,I x.1.off])).setIfInBounds 11 (.pointer (some ⟨q,0,none⟩)),defers:= []}:Act))
            (fun x a' _ X Y row hs hg hr=>by obtain⟨q,h1,h2,h3⟩:=hs;exact⟨q,h1,aca q _ _ () X Y row h2 hg hr,h3⟩)
            ?assign ?body ?done ?stop
           case assign=>
            rintro l pre ⟨⟨xa,xo⟩,hx⟩ X K ⟨hpre,hgr⟩ hK;have HG2:=JJ hgr;have aEw:=hgr.size;clear hgr;rw[ha0] at hK⊢;simp only[List.zip_toArray,List.zip_cons_cons,List.zip_nil_right,List.foldl_toArray,lC,List.foldl_nil,dB,iQ,iy] at hK⊢
            gi_wp2_with (first|((with_reducible refine adT 108 ?_);refine UI rfl _ rfl #[I 0,I 0] (by kernel_rfl) ?_)|((with_reducible refine Xf 108 ?_);refine PH rfl _ _ _ rfl #[I xa,I xo] rfl rfl 108 #[I 0,I 0] rfl (by kernel_rfl) rfl (by kernel_rfl) ?_;intro W5 hb5 hs5 hh5 VX hk5;have VI:=JJ hb5;have HH5:=JJ hh5;have HK5:=JJ hk5;clear hb5 hs5 hh5 VX hk5))
            exact hK _ _ (HK5.out.from _) (VI.out.mono (by omega)) ⟨hpre,HG2.out.andThen (Zw VI.out) (fun j e=>nomatch e)⟩ ⟨X.heap.size,by omega,HH5.out,rfl⟩
           case body=>
            rintro l pre ⟨⟨xa,xo⟩,hx⟩ a' X hl _ ⟨rfl,hgr⟩ ⟨q,hq,hblk,rfl⟩;have HG2:=JJ hgr;have HBK:=JJ hblk;clear hgr hblk;rw[ha0];simp only[dB,iQ,iy] at HBK⊢
            gi_wp2_with fail
            obtain⟨hx1,hx2⟩:=hx;simp only at hx1 hx2;obtain⟨mj,hmj⟩:∃j:Nat,(m:Int) - 1=(j:Nat):=⟨m - 1,by omega⟩;have aAp:m - 1=mj:=by omega
            have mj0:(0:Int)<=(mj:Int):=by omega
            have mj1:(mj:Int)<(m:Int):=by omega
            have wm:IntKind.i64.wrap (mj:Int)=(mj:Int):=by rw[aA];omega
            have wx:IntKind.i64.wrap (xa - tl)=xa - tl:=by rw[aA];omega
            have hbb:=aqA.out X HG2.out;have hS0:(fun Y:ae=>Y.cell? ⟨pb,0,none⟩=some (.pointer (some ⟨wr.heap.size+1,0,none⟩))/\Y.cell? ⟨q,0,none⟩=some (I xa)/\Y.cell? ⟨w.heap.size,5,none⟩=some (.slice (some ⟨b,off,none⟩) m c0)/\Y.cell? ⟨nb,0,none⟩=some (I (m:Int))/\Y.cell? ⟨b,off+mj*2,none⟩=some (I tl)) X.drew:=
             ⟨(QU (hbb pb (by omega) (by omega))).trans (aC w8 pb 0 _ _ _ HP8.out),aC X q 0 _ _ _ HBK.out,(QU (hbb w.heap.size (by omega) (by omega))).trans ((Zj.out.row.2 5).trans (by rw[<-hCb];rfl)),(QU (hbb nb (by omega) (by omega))).trans (aC w8 nb 0 _ _ _ HN8.out),(QU (hbb b (by omega) (by omega))).trans (by rw[<-aAp];exact HEL.out)⟩
            have hr1:X.heap[w.heap.size+1]? =some (.cells #[.pointer none] 140 (0,0)):=(hbb _ (by omega) (by omega)).trans Zj.out.r1;have hr2:X.heap[w.heap.size+2]? =some (.cells #[.bool false] 4 (0,0)):=(hbb _ (by omega) (by omega)).trans Zj.out.r2;have HR1:=JJ hr1;have HR2:=JJ hr2;have HUX:=JJ (HUP.out X HG2.out);have hqx:q<X.heap.size:=(KY.1 HBK.out).1;clear hbb hr1 hr2;refine UC (S:=fun Y:ae=>Y.cell? ⟨pb,0,none⟩=some (.pointer (some ⟨wr.heap.size+1,0,none⟩))/\Y.cell? ⟨q,0,none⟩=some (I xa)/\Y.cell? ⟨w.heap.size,5,none⟩=some (.slice (some ⟨b,off,none⟩) m c0)/\Y.cell? ⟨nb,0,none⟩=some (I (m:Int))/\Y.cell? ⟨b,off+mj*2,none⟩=some (I tl)) (alm (by kernel_rfl)) (by kernel_rfl) (by rintro⟨a,w,h⟩;exact h) ?_;refine JZ 0 (.pointer (some ⟨wr.heap.size+1,0,none⟩)) 160 hS0 ?_;refine JZ 1 (.pointer (some ⟨q,0,none⟩)) 161 hS0 ?_;refine JZ 2 (I xa) 162 hS0 ?_;refine JZ 3 (.pointer (some ⟨w.heap.size,5,none⟩)) 163 hS0 ?_;refine JZ 4 (.slice (some ⟨b,off,none⟩) m c0) 164 hS0 ?_;refine JZ 5 (I (m:Int)) 165 hS0 ?_;refine JZ 6 (I (mj:Int)) 166 hS0 ?_;refine JZ 7 (.pointer (some ⟨b,off+mj*2,none⟩)) 167 hS0 ?_;refine JZ 8 (.pointer (some ⟨b,off+mj*2,none⟩)) 168 hS0 ?_;refine JZ 9 (I tl) 169 hS0 ?_;refine JZ 10 (I (xa - tl)) 170 hS0 ?_;refine JZ 11 (.bool (decide (2160<=xa - tl))) 171 hS0 ?_;refine KX 12 (fun K hK=>?_);have c1:X.drew.cell? ⟨w.heap.size+1,0,none⟩=some (.pointer none):=aC X _ 0 _ _ _ HR1.out;have f1:X.drew.frozen? ⟨w.heap.size+1,0,none⟩=false:=aP X _ 0 _ _ HR1.out;go_simp;obtain⟨s0,s1,s2,s3,s4⟩:=hS0;have hS1:(fun Y:ae=>Y.cell? ⟨pb,0,none⟩=some (.pointer (some ⟨wr.heap.size+1,0,none⟩))/\Y.cell? ⟨q,0,none⟩=some (I xa)/\Y.cell? ⟨w.heap.size,5,none⟩=some (.slice (some ⟨b,off,none⟩) m c0)/\Y.cell? ⟨nb,0,none⟩=some (I (m:Int))/\Y.cell? ⟨b,off+mj*2,none⟩=some (I tl)) (X.drew.setCell ⟨w.heap.size+1,0,none⟩ (.pointer (some ⟨wr.heap.size+1,0,none⟩))):=
             ⟨(cell_far (by omega)).trans s0,(cell_far (by omega)).trans s1,(cell_far (by omega)).trans s2,(cell_far (by omega)).trans s3,(cell_far (by omega)).trans s4⟩
            refine hK.out _ _ hS1 (fun _=>?_);clear hK K;try simp only[Act.put]
            refine KX 13 (fun K hK=>?_);obtain⟨s0,s1,s2,s3,s4⟩:=hS1;have hr3:(X.drew.setCell ⟨w.heap.size+1,0,none⟩ (.pointer (some ⟨wr.heap.size+1,0,none⟩))).heap[w.heap.size+2]? =some (.cells #[.bool false] 4 (0,0)):=(aN X.drew ⟨w.heap.size+1,0,none⟩ _ _ (by show w.heap.size+2≠w.heap.size+1;omega)).trans HR2.out;have c2:(X.drew.setCell ⟨w.heap.size+1,0,none⟩ (.pointer (some ⟨wr.heap.size+1,0,none⟩))).cell? ⟨w.heap.size+1+1,0,none⟩=some (.bool false):=aC _ (w.heap.size+2) 0 _ _ _ hr3;have f2:(X.drew.setCell ⟨w.heap.size+1,0,none⟩ (.pointer (some ⟨wr.heap.size+1,0,none⟩))).frozen? ⟨w.heap.size+1+1,0,none⟩=false:=aP _ (w.heap.size+2) 0 _ _ hr3;have hr4:(X.setCell ⟨w.heap.size+1,0,none⟩ (.pointer (some ⟨wr.heap.size+1,0,none⟩))).heap[w.heap.size+2]? =some (.cells #[.bool false] 4 (0,0)):=hr3;have c3:(X.setCell ⟨w.heap.size+1,0,none⟩ (.pointer (some ⟨wr.heap.size+1,0,none⟩))).cell? ⟨w.heap.size+1+1,0,none⟩=some (.bool false):=aC _ (w.heap.size+2) 0 _ _ _ hr4;have f3:(X.setCell ⟨w.heap.size+1,0,none⟩ (.pointer (some ⟨wr.heap.size+1,0,none⟩))).frozen? ⟨w.heap.size+1+1,0,none⟩=false:=aP _ (w.heap.size+2) 0 _ _ hr4;clear hr4;have HFN:=JJ (ag4 (kb:=wr.heap.size+1) (v:=decide (2160<=xa - tl)) (X:=X.drew) HR1.out HR2.out HUX.out.drew);clear hr3;go_simp;have hS2:(fun Y:ae=>Y.cell? ⟨pb,0,none⟩=some (.pointer (some ⟨wr.heap.size+1,0,none⟩))/\Y.cell? ⟨q,0,none⟩=some (I xa)/\Y.cell? ⟨w.heap.size,5,none⟩=some (.slice (some ⟨b,off,none⟩) m c0)/\Y.cell? ⟨nb,0,none⟩=some (I (m:Int))/\Y.cell? ⟨b,off+mj*2,none⟩=some (I tl)) ((X.drew.setCell ⟨w.heap.size+1,0,none⟩ (.pointer (some ⟨wr.heap.size+1,0,none⟩))).setCell ⟨w.heap.size+1+1,0,none⟩ (.bool (decide (2160<=xa - tl)))):=
             ⟨(cell_far (by omega)).trans s0,(cell_far (by omega)).trans s1,(cell_far (by omega)).trans s2,(cell_far (by omega)).trans s3,(cell_far (by omega)).trans s4⟩
            refine hK.out _ _ hS2 (fun _=>?_);clear hK K;refine dC (by kernel_rfl) ?_ _
            gi_wp2
            exact⟨(((show KeepsOthers X X.drew from⟨ay _,fun _ _ h _=>h⟩).trans (gu _ _ _)).trans (gu _ _ _)).from _,_,rfl,rfl,HFN.out.1,HFN.out.2.1,HFN.out.2.2,fun k hk hn q1 q2=>(alH (by omega)).trans (aqA.out X HG2.out k hk hn)⟩
           case done=>
            rintro D xs Y hD ⟨rfl,hn0⟩ ⟨_,hgr⟩ hDK;have HN0:=JJ hn0;have hbb:=aqA.out Y hgr;have SY:=JJ hbb;have hsy:=hgr.size;have HUY:=JJ (HUP.out Y hgr);have hr1:Y.heap[w.heap.size+1]? =some (.cells #[.pointer none] 140 (0,0)):=(hbb _ (by omega) (by omega)).trans Zj.out.r1;have hr2:Y.heap[w.heap.size+2]? =some (.cells #[.bool false] 4 (0,0)):=(hbb _ (by omega) (by omega)).trans Zj.out.r2;have p0:Y.cell? ⟨pb,0,none⟩=some (.pointer (some ⟨wr.heap.size+1,0,none⟩)):=(QU (hbb pb (by omega) (by omega))).trans (aC w8 pb 0 _ _ _ HP8.out);have c1:Y.cell? ⟨w.heap.size+1,0,none⟩=some (.pointer none):=aC Y _ 0 _ _ _ hr1;have c2:Y.cell? ⟨w.heap.size+1+1,0,none⟩=some (.bool false):=aC Y (w.heap.size+2) 0 _ _ _ hr2;have f1:Y.frozen? ⟨w.heap.size+1,0,none⟩=false:=aP Y _ 0 _ _ hr1;have f2:Y.frozen? ⟨w.heap.size+1+1,0,none⟩=false:=aP Y (w.heap.size+2) 0 _ _ hr2;have HFN:=JJ (ag4 (kb:=wr.heap.size+1) (v:=true) (X:=Y) hr1 hr2 HUY.out);have HDK:=JJ hDK;clear hbb hr1 hr2 hgr hDK hn0;rw[ha0];go_wp2_with fail;obtain⟨g1,g2,g3⟩:=HFN.out;have hd1:D≠w.heap.size+1:=by omega
            have hd2:D≠w.heap.size+1+1:=by omega
            have hDY:((Y.setCell ⟨w.heap.size+1,0,none⟩ (pt (wr.heap.size+1))).setCell ⟨w.heap.size+1+1,0,none⟩ (.bool true)).heap[D]? =some (.deferred (some [])):=(aN _ ⟨w.heap.size+1+1,0,none⟩ _ _ hd2).trans ((aN Y ⟨w.heap.size+1,0,none⟩ _ _ hd1).trans HDK.out);refine X6 (v:=.tuple #[pt (wr.heap.size+1),.bool true]) rfl hDY (MO rfl _ _ ⟨w.heap.size+1,0,none⟩ ⟨w.heap.size+1+1,0,none⟩ (pt (wr.heap.size+1)) (.bool true) rfl (Wp _ _ _ ?_) rfl (Sm _ _ _ ?_)) ⟨⟨_,by rw[au2.out (.inr (ajS.out.len.trans HN0.out))]⟩,?_⟩
            ·exact aC _ _ 0 _ _ _ ((bQ (by omega)).trans g1)
            ·exact aC _ (w.heap.size+2) 0 _ _ _ ((bQ (by omega)).trans g2)
            ·exact g3.grown (ng _ D _) g3.size (fun k e=>by injection e with e;omega)
           case stop=>
            rintro D c pre Y hD ⟨hn0,hpre⟩ ⟨x,rfl,rfl,g1,g2,g3,g4⟩ hDK;have hx1:=hpre;simp only[fF,iR,gm,kz] at hx1;have azg:Hid (ZW ⟨cal,st,tr,ho,yr⟩=decide (2160<=x.1.at_ - tl)):=JJ (by
             have h9:=aqR.out hm0 (by rw[ajS.out.len];exact hn0);rw[h9,Qc.out,UG.out,hx1])
            rw[ha0];refine(qC (n:=3)).2 ?_;go_wp2_with fail;refine X6 (v:=.tuple #[pt (wr.heap.size+1),.bool (decide (2160<=x.1.at_ - tl))]) rfl hDK (MO rfl _ _ ⟨w.heap.size+1,0,none⟩ ⟨w.heap.size+1+1,0,none⟩ (pt (wr.heap.size+1)) (.bool (decide (2160<=x.1.at_ - tl))) rfl (Wp _ _ _ ?_) rfl (Sm _ _ _ ?_)) ⟨⟨_,by rw[azg.out]⟩,?_⟩
            ·exact aC _ _ 0 _ _ _ ((bQ (by omega)).trans g1)
            ·exact aC _ (w.heap.size+2) 0 _ _ _ ((bQ (by omega)).trans g2)
            ·exact g3.grown (ng _ D _) g3.size (fun k e=>by injection e with e;omega)
end Go.Proofs.YtbaehbbonkljpaaGreatDoor
