/- The texts Jl, in this order. -/
import Derived.Test.YtbaehbbonkljpaaGreatDoorS00
import Derived.Test.YtbaehbbonkljpaaGreatDoorS13
import Derived.Test.YtbaehbbonkljpaaGreatDoorS14
set_option maxRecDepth 10000
set_option maxHeartbeats 8000000
namespace Go.Proofs.YtbaehbbonkljpaaGreatDoor
open Go Go.RowKit
theorem iG (n l:Int) (b:Bool) (w:World) (hb:En n l=b) (hl:0<=l/\l<=4503599627370496) (k:Nat):Calls Tryz.prog 89 #[I n,I l] (w.drewN k) fun e w'=>e= .returned (.bool b)/\∃m,w'=w.drewN m:=by
 rw [<-hb];exact Ku n l w hl k
theorem Tj {W:World} {tb:Nat} {f:List SS->Prop}:jl W.heap.size tb (fun (pre:List SS) X=>f pre/\W.grownBy X (some tb)):=fun _ _ _ _ hs hg hr=>
 ⟨hs.1,hs.2.andThen hg (fun j e=>by
  rcases hr j e with h|h
  ·exact .inl h
  ·exact .inr (by rw [h]))⟩
def Zh (w w8:World) (tb kb:Nat) (tl:Int) (c:Code) (pre:List SS) (X:World):Prop:=
 ∃x:SS,pre= [x]/\c= .ret/\X.heap[w.heap.size+1]? =some (.cells #[pt kb] 140 (0,0))/\X.heap[w.heap.size+2]? =some (.cells #[.bool (decide (2160<=x.1.at_ - tl))] 4 (0,0))/\Below w.heap.size w X/\
  ∀k,k<w8.heap.size->k≠tb->k≠w.heap.size+1->k≠w.heap.size+2->X.heap[k]? =w8.heap[k]?
theorem TD {w w8:World} {B tb kb:Nat} {tl:Int} (h8:w8.heap.size<=B) (hB:w.heap.size+2<B) (htb:w.heap.size+2<tb) (c:Code):jl B tb (Zh w w8 tb kb tl c):=by
 rintro s X Y row ⟨x,h1,h2,h3,h4,h5,h6⟩ hg hr;have key:∀k,k<=w.heap.size+2->k<X.heap.size->Y.heap[k]? =X.heap[k]? :=fun k hk hl=>hg.block k hl (fun e=>by rcases hr k e.symm with h|h<;>omega);exact ⟨x,h1,h2,(key _ (by omega) (bV.1 h3).1).trans h3,(key _ (by omega) (bV.1 h4).1).trans h4,h5.grown hg h5.size (fun k e=>by rcases hr k e with h|h<;>omega),fun k hk hn q1 q2=>
  (hg.block k (bV.1 ((h6 k hk hn q1 q2).trans (Array.getElem?_eq_getElem hk))).1 (fun e=>by rcases hr k e.symm with h|h<;>omega)).trans (h6 k hk hn q1 q2)⟩
theorem zopenG (z:Zn) (s:Zs) (w:World) (h:iP w w.heap.size s z):Calls Tryz.prog 71 #[.agg (ay z s)] w fun e w'=>(∃v,e= .returned (.tuple #[v, .bool (Cb z)]))/\Below w.heap.size w w':=by
 have HKK:=ae (fun (hc:fJ z.cal) (hy:qw z) (W:World) (hb:Below w.heap.size w W)=>YM z s W hc (h.grow hb) hy);have HV:=ae (fun (W:World) (hb:Below w.heap.size w W)=>oH z.cal s.A s.B s.a s.b W ⟨h.au.grow hb,h.rules.grow hb⟩);have HAT:=ae (fun (W:World) (hb:Below w.heap.size w W) (h0:0<z.trans.length)=>xN h.trans hb h0);have HYS:=ae h.aH;have HTRB:=ae (h.trans);clear h;obtain ⟨cal,st,tr,ho,yr⟩:=z;obtain ⟨A0,a,R0,r,C,c0,D0,d0⟩:=s;simp only at HKK HV HAT HYS HTRB ⊢;obtain ⟨ep,mJ⟩:∃ep,cal.bn=ep:=⟨_,rfl⟩;obtain ⟨lp,hlp⟩:∃lp,cal.dA=lp:=⟨_,rfl⟩;obtain ⟨nm,hnm⟩:∃n,cal.au.length=n:=⟨_,rfl⟩;obtain ⟨n1,hn1⟩:∃n,cal.rules.length=n:=⟨_,rfl⟩;obtain ⟨m,hmm⟩:∃n,tr.length=n:=⟨_,rfl⟩;obtain ⟨ny,hny⟩:∃n,yr.length=n:=⟨_,rfl⟩;rw [hmm] at HAT;have qV:=ae hmm;have VY:=ae hny;have FO:=ae hnm;have e0:ay ⟨cal,st,tr,ho,yr⟩ ⟨A0,a,R0,r,C,c0,D0,d0⟩= #[I ep, .slice A0 nm a,I lp, .slice R0 n1 r,I st, .slice C m c0,I ho, .slice D0 ny d0]:=by rw [<-hn1,<-hmm,<-hny,<-mJ,<-hlp,<-hnm];rfl
 have e1:aI cal A0 a R0 r= #[I ep, .slice A0 nm a,I lp, .slice R0 n1 r]:=by rw [<-hn1,<-mJ,<-hlp,<-hnm];rfl
 rw [e0] at HKK ⊢;rw [e1] at HV;have HZ0:=ae (VK w #[I ep, .slice A0 nm a,I lp, .slice R0 n1 r,I st, .slice C m c0,I ho, .slice D0 ny d0]);have HW1:=ae (fun W=>sD st 1080 W (by omega));have HW2:=ae (fun W=>sD ho 2251799813685248 W (by omega));obtain ⟨vb,hvb⟩:∃b,vC cal=b:=⟨_,rfl⟩;obtain ⟨b1,hb1e⟩:∃b,En st 1080=b:=⟨_,rfl⟩;obtain ⟨b2,hb2e⟩:∃b,En ho 2251799813685248=b:=⟨_,rfl⟩;rw [hvb] at HV;rw [hb1e] at HW1;rw [hb2e] at HW2;have Ru:=ae hvb;have HB1:=ae hb1e;have HB2:=ae hb2e;clear e0 e1 hn1 hny mJ hlp hnm hmm hvb hb1e hb2e;refine IX Tryz.func71 rfl ?_;simp only [Tryz.ntmps71,List.size_toArray,List.length_cons,List.length_nil,Nat.reduceAdd,Nat.reduceSub,Array.replicate_succ,Array.replicate_zero,List.push_toArray,List.append_toArray,List.nil_append,List.cons_append];go_upto_region 1 with fail;generalize ((w.alloc (.cells #[I ep, .slice A0 nm a,I lp, .slice R0 n1 r,I st, .slice C m c0,I ho, .slice D0 ny d0] 69)).alloc (.cells #[.pointer none] 140)).alloc (.cells #[.bool false] 4)=W0 at HZ0 ⊢;have k0:=HZ0.out.row.2;by_cases h512:512<m
 ·have h512i:(512:Int)<(m:Int):=by omega
  have HF:Hid (Cb ⟨cal,st,tr,ho,yr⟩=false):=ae (pI fun hg=>by
   have h1:=hg.QS;have h2:=qV.out;simp only at h1;omega)
  have c1:W0.cell? ⟨w.heap.size+1,0,none⟩=some (.pointer none):=cell_of_row W0 _ 0 _ _ _ HZ0.out.r1;have c2:W0.cell? ⟨w.heap.size+1+1,0,none⟩=some (.bool false):=cell_of_row W0 (w.heap.size+2) 0 _ _ _ HZ0.out.r2;have f1:W0.frozen? ⟨w.heap.size+1,0,none⟩=false:=frozen_of_row W0 _ 0 _ _ HZ0.out.r1;have f2:W0.frozen? ⟨w.heap.size+1+1,0,none⟩=false:=frozen_of_row W0 (w.heap.size+2) 0 _ _ HZ0.out.r2;go_wp2_with fail;refine jo (v:= .tuple #[.pointer none, .bool false]) rfl (fH rfl _ _ ⟨w.heap.size+1,0,none⟩ ⟨w.heap.size+1+1,0,none⟩ (.pointer none) (.bool false) rfl (lQ _ _ _ ?_) rfl (jT _ _ _ ?_)) ⟨⟨_,by rw [HF.out]⟩,?_⟩
  ·go_simp
  ·go_simp
  ·exact (HZ0.out.up.setCell (p:=⟨w.heap.size+1,0,none⟩) (Nat.le_succ _) _).setCell (p:=⟨w.heap.size+1+1,0,none⟩) (by show w.heap.size<=w.heap.size+1+1;omega) _
 ·have h512i:¬(512:Int)<(m:Int):=by omega
  go_wp2_with fail;refine (HV.out _ HZ0.out.up).mono ?_;rintro e w1 ⟨rfl,hb1⟩;have HZ1:=ae (HZ0.out.below hb1);clear hb1 HZ0 HV k0;cases vb with
  |false=>
   have HF:Hid (Cb ⟨cal,st,tr,ho,yr⟩=false):=ae (pI fun hg=>by
    have h1:=pY hg.cal;rw [Ru.out] at h1;cases h1)
   have c1:w1.cell? ⟨w.heap.size+1,0,none⟩=some (.pointer none):=cell_of_row w1 _ 0 _ _ _ HZ1.out.r1;have c2:w1.cell? ⟨w.heap.size+1+1,0,none⟩=some (.bool false):=cell_of_row w1 (w.heap.size+2) 0 _ _ _ HZ1.out.r2;have f1:w1.frozen? ⟨w.heap.size+1,0,none⟩=false:=frozen_of_row w1 _ 0 _ _ HZ1.out.r1;have f2:w1.frozen? ⟨w.heap.size+1+1,0,none⟩=false:=frozen_of_row w1 (w.heap.size+2) 0 _ _ HZ1.out.r2;go_wp2_with fail;refine jo (v:= .tuple #[.pointer none, .bool false]) rfl (fH rfl _ _ ⟨w.heap.size+1,0,none⟩ ⟨w.heap.size+1+1,0,none⟩ (.pointer none) (.bool false) rfl (lQ _ _ _ ?_) rfl (jT _ _ _ ?_)) ⟨⟨_,by rw [HF.out]⟩,?_⟩
   ·go_simp
   ·go_simp
   ·exact (HZ1.out.up.setCell (p:=⟨w.heap.size+1,0,none⟩) (Nat.le_succ _) _).setCell (p:=⟨w.heap.size+1+1,0,none⟩) (by show w.heap.size<=w.heap.size+1+1;omega) _
  |true=>
   have Rn:Hid (fJ cal):=ae ((CZ cal).1 Ru.out);have k1:=HZ1.out.row.2;go_wp2_with fail;refine (HW1.out _).mono ?_;rintro e w1 ⟨rfl,rfl⟩;cases b1 with
   |false=>
    have HF:Hid (Cb ⟨cal,st,tr,ho,yr⟩=false):=ae (pI fun hg=>by
     have h1:=qG hg.st;rw [HB1.out] at h1;cases h1)
    have c1:w1.cell? ⟨w.heap.size+1,0,none⟩=some (.pointer none):=cell_of_row w1 _ 0 _ _ _ HZ1.out.r1;have c2:w1.cell? ⟨w.heap.size+1+1,0,none⟩=some (.bool false):=cell_of_row w1 (w.heap.size+2) 0 _ _ _ HZ1.out.r2;have f1:w1.frozen? ⟨w.heap.size+1,0,none⟩=false:=frozen_of_row w1 _ 0 _ _ HZ1.out.r1;have f2:w1.frozen? ⟨w.heap.size+1+1,0,none⟩=false:=frozen_of_row w1 (w.heap.size+2) 0 _ _ HZ1.out.r2;go_wp2_with fail;refine jo (v:= .tuple #[.pointer none, .bool false]) rfl (fH rfl _ _ ⟨w.heap.size+1,0,none⟩ ⟨w.heap.size+1+1,0,none⟩ (.pointer none) (.bool false) rfl (lQ _ _ _ ?_) rfl (jT _ _ _ ?_)) ⟨⟨_,by rw [HF.out]⟩,?_⟩
    ·go_simp
    ·go_simp
    ·exact (HZ1.out.up.setCell (p:=⟨w.heap.size+1,0,none⟩) (Nat.le_succ _) _).setCell (p:=⟨w.heap.size+1+1,0,none⟩) (by show w.heap.size<=w.heap.size+1+1;omega) _
   |true=>
    have hst: -1080<=st/\st<=1080:=by
     by_cases h: -1080<=st/\st<=1080
     ·exact h
     ·have h1:=Df (l:=1080) h;rw [HB1.out] at h1;cases h1
    go_wp2_with fail;refine (HW2.out _).mono ?_;rintro e w1 ⟨rfl,rfl⟩;cases b2 with
    |false=>
     have HF:Hid (Cb ⟨cal,st,tr,ho,yr⟩=false):=ae (pI fun hg=>by
      have h1:=qG hg.ho;rw [HB2.out] at h1;cases h1)
     have c1:w1.cell? ⟨w.heap.size+1,0,none⟩=some (.pointer none):=cell_of_row w1 _ 0 _ _ _ HZ1.out.r1;have c2:w1.cell? ⟨w.heap.size+1+1,0,none⟩=some (.bool false):=cell_of_row w1 (w.heap.size+2) 0 _ _ _ HZ1.out.r2;have f1:w1.frozen? ⟨w.heap.size+1,0,none⟩=false:=frozen_of_row w1 _ 0 _ _ HZ1.out.r1;have f2:w1.frozen? ⟨w.heap.size+1+1,0,none⟩=false:=frozen_of_row w1 (w.heap.size+2) 0 _ _ HZ1.out.r2;go_wp2_with fail;refine jo (v:= .tuple #[.pointer none, .bool false]) rfl (fH rfl _ _ ⟨w.heap.size+1,0,none⟩ ⟨w.heap.size+1+1,0,none⟩ (.pointer none) (.bool false) rfl (lQ _ _ _ ?_) rfl (jT _ _ _ ?_)) ⟨⟨_,by rw [HF.out]⟩,?_⟩
     ·go_simp
     ·go_simp
     ·exact (HZ1.out.up.setCell (p:=⟨w.heap.size+1,0,none⟩) (Nat.le_succ _) _).setCell (p:=⟨w.heap.size+1+1,0,none⟩) (by show w.heap.size<=w.heap.size+1+1;omega) _
    |true=>
     have hho: -2251799813685248<=ho/\ho<=2251799813685248:=by
      by_cases h: -2251799813685248<=ho/\ho<=2251799813685248
      ·exact h
      ·have h1:=Df (l:=2251799813685248) h;rw [HB2.out] at h1;cases h1
     go_wp2_with fail;clear k1 HW1 HW2
     go_loopw [37] (fun i wr=>∃k:Nat,k<=m/\i=I (k:Nat)/\(∀j,j<k->lH ⟨cal,st,tr,ho,yr⟩ j)/\ZO w #[I ep, .slice A0 nm a,I lp, .slice R0 n1 r,I st, .slice C m c0,I ho, .slice D0 ny d0] wr) (fun i _=>m - (intOf i).toNat)
     case atStart=>exact ⟨0,Nat.zero_le _,rfl,(fun j hj=>by omega),HZ1.out⟩
     case round=>
      clear HZ1;obtain ⟨k,XW,rfl,htok,hzo⟩:=hrel;have HZ:=ae hzo;have HTO:=ae htok;clear hzo htok;by_cases hk:k<m
      ·have i1:(k:Int)<(m:Int):=by omega
       have i0:(0:Int)<=(k:Int):=by omega
       obtain ⟨b,off,hC,hcl⟩:=HAT.out wr HZ.out.up (by omega);subst hC;have iM:=ae (fun (W:World) (hb:Below w.heap.size w W)=>HAT.out W hb (by omega));obtain ⟨e0,e1⟩:=hcl k hk;clear hcl;obtain ⟨xa,hxa⟩:∃x,gU tr k=x:=⟨_,rfl⟩;obtain ⟨xo,hxo⟩:∃x,jI tr k=x:=⟨_,rfl⟩;have iW:=ae hxa;have Oe:=ae hxo;rw [hxa] at e0;rw [hxo] at e1;clear hxa hxo;go_upto_region 6 with (first
        |((with_reducible refine aZ 108 ?_);refine aG rfl 108 rfl #[I 0,I 0] (by kernel_rfl) ?_)
        |((with_reducible refine bY 108 ?_);go_must (refine wpList_store_row rfl _ _ _ rfl wr.heap.size #[I xa,I xo] rfl rfl 108 #[I 0,I 0] (heap_alloc_last wr _) (by kernel_rfl) rfl (by simp [Value.oneCell']) ?_)))
       clear e0 e1;have hb2:Below wr.heap.size wr ((wr.alloc (.cells #[I 0,I 0] 108)).setRow wr.heap.size #[I xa,I xo]):=aB (ag wr _) (Nat.le_refl _) _;have HX:=ae (AV.qy (AV.new wr #[I 0,I 0] 108) #[I xa,I xo]);have HZ2:=ae (HZ.out.below hb2);clear hb2 HZ;generalize (wr.alloc (.cells #[I 0,I 0] 108)).setRow wr.heap.size #[I xa,I xo]=W2 at HZ2 HX ⊢;generalize wr.heap.size=xb at HX ⊢;try simp only [Act.put]
       obtain ⟨q1,hq1⟩:∃b,En xo 1080=b:=⟨_,rfl⟩;obtain ⟨q2,hq2⟩:∃b,En xa 2251799813685248=b:=⟨_,rfl⟩;have kD:=ae hq1;have jr:=ae hq2;have HNA:Hid (¬(-2251799813685248<=xa/\xa<=2251799813685248)->q2=false):=ae (fun h=>by rw [<-hq2];exact Df h);have FP:Hid (¬(-1080<=xo/\xo<=1080)->q1=false):=ae (fun h=>by rw [<-hq1];exact Df h);have HYA:Hid ((-2251799813685248<=xa/\xa<=2251799813685248)->q2=true):=ae (fun h=>by rw [<-hq2];exact qG h);have Ae:Hid ((-1080<=xo/\xo<=1080)->q1=true):=ae (fun h=>by rw [<-hq1];exact qG h);clear hq1 hq2;rcases Nat.eq_zero_or_pos k with hk0|hk0
       ·subst hk0;clear i0;obtain ⟨fb,hfb⟩:∃b,(!qF ⟨cal,st,tr,ho,yr⟩ 0)=b:=⟨_,rfl⟩;have mQ:=ae hfb;clear hfb
        go_cut [75] from 42 to 75 (fun p wx=>p= .bool fb/\ZO w #[I ep, .slice A0 nm a,I lp, .slice R0 n1 r,I st, .slice (some ⟨b,off,none⟩) m c0,I ho, .slice D0 ny d0] wx)
        case first=>
         have x0:W2.cell? ⟨xb,0,none⟩=some (I xa):=HX.out.cell 0;have x1:W2.cell? ⟨xb,1,none⟩=some (I xo):=HX.out.cell 1;have k5:W2.cell? ⟨w.heap.size,5,none⟩=some (.slice (some ⟨b,off,none⟩) m c0):=HZ2.out.row.2 5;have k6:W2.cell? ⟨w.heap.size,6,none⟩=some (I ho):=HZ2.out.row.2 6;cases q1 with
         |false=>
          have HT:Hid (fb=true):=ae (by
           rw [<-mQ.out];cases e:qF ⟨cal,st,tr,ho,yr⟩ 0 with
           |false=>rfl
           |true=>
            have h2:=(gz _ _).1 e;unfold lH at h2;simp only at h2;rw [iW.out,Oe.out] at h2;obtain ⟨g1,g2,g3,g4⟩:=h2;exfalso;have h3:=Ae.out g1;cases h3)
          go_quiet ((go_at_call 89;exact iG _ _ _ W2 (by first|exact kD.out|exact jr.out) (by omega) _));obtain ⟨W3,hW3⟩:∃W,W2.drewN nq=W:=⟨_,rfl⟩;rw [hW3];have HZ3:Hid (ZO w #[I ep, .slice A0 nm a,I lp, .slice R0 n1 r,I st, .slice (some ⟨b,off,none⟩) m c0,I ho, .slice D0 ny d0] W3):=ae (by rw [<-hW3];exact HZ2.out.drewN nq);clear x0 x1 k5 k6;go_wp2_with fail;go_meet;exact ⟨by rw [HT.out],HZ3.out⟩
         |true=>
          cases q2 with
          |false=>
           have HT:Hid (fb=true):=ae (by
            rw [<-mQ.out];cases e:qF ⟨cal,st,tr,ho,yr⟩ 0 with
            |false=>rfl
            |true=>
             have h2:=(gz _ _).1 e;unfold lH at h2;simp only at h2;rw [iW.out,Oe.out] at h2;obtain ⟨g1,g2,g3,g4⟩:=h2;exfalso;have h3:=HYA.out g2;cases h3)
           go_quiet ((go_at_call 89;exact iG _ _ _ W2 (by first|exact kD.out|exact jr.out) (by omega) _));obtain ⟨W3,hW3⟩:∃W,W2.drewN nq=W:=⟨_,rfl⟩;rw [hW3];have HZ3:Hid (ZO w #[I ep, .slice A0 nm a,I lp, .slice R0 n1 r,I st, .slice (some ⟨b,off,none⟩) m c0,I ho, .slice D0 ny d0] W3):=ae (by rw [<-hW3];exact HZ2.out.drewN nq);clear x0 x1 k5 k6;go_wp2_with fail;go_meet;exact ⟨by rw [HT.out],HZ3.out⟩
          |true=>
           have hxb: -2251799813685248<=xa/\xa<=2251799813685248:=Classical.byContradiction fun h=>by
            have h3:=HNA.out h;cases h3
           by_cases hge:ho<=xa
           ·have hge2:decide (ho<=xa)=true:=decide_eq_true hge;have HT:Hid (fb=true):=ae (by
             rw [<-mQ.out];cases e:qF ⟨cal,st,tr,ho,yr⟩ 0 with
             |false=>rfl
             |true=>
              have h2:=(gz _ _).1 e;unfold lH at h2;simp only at h2;rw [iW.out,Oe.out] at h2;obtain ⟨g1,g2,g3,g4⟩:=h2;exfalso;omega)
            go_quiet ((go_at_call 89;exact iG _ _ _ W2 (by first|exact kD.out|exact jr.out) (by omega) _));obtain ⟨W3,hW3⟩:∃W,W2.drewN nq=W:=⟨_,rfl⟩;rw [hW3];have HZ3:Hid (ZO w #[I ep, .slice A0 nm a,I lp, .slice R0 n1 r,I st, .slice (some ⟨b,off,none⟩) m c0,I ho, .slice D0 ny d0] W3):=ae (by rw [<-hW3];exact HZ2.out.drewN nq);clear x0 x1 k5 k6;go_wp2_with fail;go_meet;exact ⟨by rw [HT.out],HZ3.out⟩
           ·have HT:Hid (fb=false):=ae (by
             rw [<-mQ.out];have h2:lH ⟨cal,st,tr,ho,yr⟩ 0:=by
              unfold lH;simp only;rw [iW.out,Oe.out];refine ⟨Classical.byContradiction fun h=>?_,hxb,by omega,by first|exact .inl trivial|exact .inl rfl⟩;have h3:=FP.out h;cases h3
             rw [(gz _ _).2 h2];rfl)
            go_quiet ((go_at_call 89;exact iG _ _ _ W2 (by first|exact kD.out|exact jr.out) (by omega) _));obtain ⟨W3,hW3⟩:∃W,W2.drewN nq=W:=⟨_,rfl⟩;rw [hW3];have HZ3:Hid (ZO w #[I ep, .slice A0 nm a,I lp, .slice R0 n1 r,I st, .slice (some ⟨b,off,none⟩) m c0,I ho, .slice D0 ny d0] W3):=ae (by rw [<-hW3];exact HZ2.out.drewN nq);clear x0 x1 k5 k6;go_wp2_with fail;go_meet;exact ⟨by rw [HT.out],HZ3.out⟩
        case rest=>
         obtain ⟨rfl,hz⟩:=hcut;have HZ3:=ae hz;clear hz HZ2 HX iW Oe kD jr HNA FP HYA Ae;cases fb with
         |true=>
          have HF:Hid (Cb ⟨cal,st,tr,ho,yr⟩=false):=ae (pI fun hg=>by
           have h2:=(gz _ _).2 (hg.tr (0) (by show 0<tr.length;rw [qV.out];omega));have h3:=mQ.out;rw [h2] at h3;cases h3)
          have c1:wc.cell? ⟨w.heap.size+1,0,none⟩=some (.pointer none):=cell_of_row wc _ 0 _ _ _ HZ3.out.r1;have c2:wc.cell? ⟨w.heap.size+1+1,0,none⟩=some (.bool false):=cell_of_row wc (w.heap.size+2) 0 _ _ _ HZ3.out.r2;have f1:wc.frozen? ⟨w.heap.size+1,0,none⟩=false:=frozen_of_row wc _ 0 _ _ HZ3.out.r1;have f2:wc.frozen? ⟨w.heap.size+1+1,0,none⟩=false:=frozen_of_row wc (w.heap.size+2) 0 _ _ HZ3.out.r2;go_wp2_with fail;refine jo (v:= .tuple #[.pointer none, .bool false]) rfl (fH rfl _ _ ⟨w.heap.size+1,0,none⟩ ⟨w.heap.size+1+1,0,none⟩ (.pointer none) (.bool false) rfl (lQ _ _ _ ?_) rfl (jT _ _ _ ?_)) ⟨⟨_,by rw [HF.out]⟩,?_⟩
          ·go_simp
          ·go_simp
          ·exact (HZ3.out.up.setCell (p:=⟨w.heap.size+1,0,none⟩) (Nat.le_succ _) _).setCell (p:=⟨w.heap.size+1+1,0,none⟩) (by show w.heap.size<=w.heap.size+1+1;omega) _
         |false=>
          have HT3:Hid (∀j',j'<0+1->lH ⟨cal,st,tr,ho,yr⟩ j'):=ae (fun j' hj'=>by
           by_cases h:j'<0
           ·exact HTO.out j' h
           ·have h4:j'=0:=by omega
            rw [h4];refine (gz _ _).1 ?_;have h3:=mQ.out;cases e:qF ⟨cal,st,tr,ho,yr⟩ (0) with
            |true=>rfl
            |false=>rw [e] at h3;cases h3)
          go_wp2_with fail;go_roundw
          case rel=>exact ⟨0+1,by omega,by go_num,HT3.out,HZ3.out⟩
          case measure=>simp [intOf];omega
       ·obtain ⟨j,rfl⟩:∃j,k=j+1:=⟨k - 1,by omega⟩;obtain ⟨fb,hfb⟩:∃b,(!qF ⟨cal,st,tr,ho,yr⟩ (j+1))=b:=⟨_,rfl⟩;have mQ:=ae hfb;clear hfb
        go_cut [75] from 42 to 75 (fun p wx=>p= .bool fb/\ZO w #[I ep, .slice A0 nm a,I lp, .slice R0 n1 r,I st, .slice (some ⟨b,off,none⟩) m c0,I ho, .slice D0 ny d0] wx)
        case first=>
         have x0:W2.cell? ⟨xb,0,none⟩=some (I xa):=HX.out.cell 0;have x1:W2.cell? ⟨xb,1,none⟩=some (I xo):=HX.out.cell 1;have k5:W2.cell? ⟨w.heap.size,5,none⟩=some (.slice (some ⟨b,off,none⟩) m c0):=HZ2.out.row.2 5;have k6:W2.cell? ⟨w.heap.size,6,none⟩=some (I ho):=HZ2.out.row.2 6;obtain ⟨b2,xG,e2,hcl⟩:=iM.out W2 HZ2.out.up;injection e2 with e2;injection e2 with e2 e3;subst e2 e3;have ej:=(hcl j (by omega)).1;obtain ⟨xj,hxj⟩:∃x,gU tr j=x:=⟨_,rfl⟩;have hbj:=(HTO.out j (by omega)).2.1;have HXJ:=ae hxj;simp only at hbj;rw [hxj] at ej hbj;have iz:(0:Int)<(j:Int)+1:=by omega
         have ij:(j:Int)<(m:Int):=by omega
         have ij0:(0:Int)<=(j:Int):=by omega
         clear hcl hxj;cases q1 with
         |false=>
          have HT:Hid (fb=true):=ae (by
           rw [<-mQ.out];cases e:qF ⟨cal,st,tr,ho,yr⟩ (j+1) with
           |false=>rfl
           |true=>
            have h2:=(gz _ _).1 e;unfold lH at h2;simp only at h2;rw [iW.out,Oe.out] at h2;obtain ⟨g1,g2,g3,g4⟩:=h2;exfalso;have h3:=Ae.out g1;cases h3)
          go_quiet ((go_at_call 89;exact iG _ _ _ W2 (by first|exact kD.out|exact jr.out) (by omega) _));obtain ⟨W3,hW3⟩:∃W,W2.drewN nq=W:=⟨_,rfl⟩;rw [hW3];have HZ3:Hid (ZO w #[I ep, .slice A0 nm a,I lp, .slice R0 n1 r,I st, .slice (some ⟨b,off,none⟩) m c0,I ho, .slice D0 ny d0] W3):=ae (by rw [<-hW3];exact HZ2.out.drewN nq);clear x0 x1 k5 k6;go_wp2_with fail;go_meet;exact ⟨by rw [HT.out],HZ3.out⟩
         |true=>
          cases q2 with
          |false=>
           have HT:Hid (fb=true):=ae (by
            rw [<-mQ.out];cases e:qF ⟨cal,st,tr,ho,yr⟩ (j+1) with
            |false=>rfl
            |true=>
             have h2:=(gz _ _).1 e;unfold lH at h2;simp only at h2;rw [iW.out,Oe.out] at h2;obtain ⟨g1,g2,g3,g4⟩:=h2;exfalso;have h3:=HYA.out g2;cases h3)
           go_quiet ((go_at_call 89;exact iG _ _ _ W2 (by first|exact kD.out|exact jr.out) (by omega) _));obtain ⟨W3,hW3⟩:∃W,W2.drewN nq=W:=⟨_,rfl⟩;rw [hW3];have HZ3:Hid (ZO w #[I ep, .slice A0 nm a,I lp, .slice R0 n1 r,I st, .slice (some ⟨b,off,none⟩) m c0,I ho, .slice D0 ny d0] W3):=ae (by rw [<-hW3];exact HZ2.out.drewN nq);clear x0 x1 k5 k6;go_wp2_with fail;go_meet;exact ⟨by rw [HT.out],HZ3.out⟩
          |true=>
           have hxb: -2251799813685248<=xa/\xa<=2251799813685248:=Classical.byContradiction fun h=>by
            have h3:=HNA.out h;cases h3
           by_cases hge:ho<=xa
           ·have hge2:decide (ho<=xa)=true:=decide_eq_true hge;have HT:Hid (fb=true):=ae (by
             rw [<-mQ.out];cases e:qF ⟨cal,st,tr,ho,yr⟩ (j+1) with
             |false=>rfl
             |true=>
              have h2:=(gz _ _).1 e;unfold lH at h2;simp only at h2;rw [iW.out,Oe.out] at h2;obtain ⟨g1,g2,g3,g4⟩:=h2;exfalso;omega)
            go_quiet ((go_at_call 89;exact iG _ _ _ W2 (by first|exact kD.out|exact jr.out) (by omega) _));obtain ⟨W3,hW3⟩:∃W,W2.drewN nq=W:=⟨_,rfl⟩;rw [hW3];have HZ3:Hid (ZO w #[I ep, .slice A0 nm a,I lp, .slice R0 n1 r,I st, .slice (some ⟨b,off,none⟩) m c0,I ho, .slice D0 ny d0] W3):=ae (by rw [<-hW3];exact HZ2.out.drewN nq);clear x0 x1 k5 k6;go_wp2_with fail;go_meet;exact ⟨by rw [HT.out],HZ3.out⟩
           ·by_cases Ig:xa - xj<2160
            ·have HT:Hid (fb=true):=ae (by
              rw [<-mQ.out];cases e:qF ⟨cal,st,tr,ho,yr⟩ (j+1) with
              |false=>rfl
              |true=>
               have h2:=(gz _ _).1 e;unfold lH at h2;simp only at h2;rw [iW.out,Oe.out] at h2;obtain ⟨g1,g2,g3,g4⟩:=h2;exfalso;rcases g4 with g4|g4
               ·omega
               ·rw [Nat.add_sub_cancel,HXJ.out] at g4;omega)
             go_quiet ((go_at_call 89;exact iG _ _ _ W2 (by first|exact kD.out|exact jr.out) (by omega) _));obtain ⟨W3,hW3⟩:∃W,W2.drewN nq=W:=⟨_,rfl⟩;rw [hW3];have HZ3:Hid (ZO w #[I ep, .slice A0 nm a,I lp, .slice R0 n1 r,I st, .slice (some ⟨b,off,none⟩) m c0,I ho, .slice D0 ny d0] W3):=ae (by rw [<-hW3];exact HZ2.out.drewN nq);clear x0 x1 k5 k6;go_wp2_with fail;go_meet;exact ⟨by rw [HT.out],HZ3.out⟩
            ·have HT:Hid (fb=false):=ae (by
              rw [<-mQ.out];have h2:lH ⟨cal,st,tr,ho,yr⟩ (j+1):=by
               unfold lH;simp only;rw [iW.out,Oe.out];refine ⟨Classical.byContradiction fun h=>?_,hxb,by omega, .inr (by rw [Nat.add_sub_cancel,HXJ.out];omega)⟩;have h3:=FP.out h;cases h3
              rw [(gz _ _).2 h2];rfl)
             go_quiet ((go_at_call 89;exact iG _ _ _ W2 (by first|exact kD.out|exact jr.out) (by omega) _));obtain ⟨W3,hW3⟩:∃W,W2.drewN nq=W:=⟨_,rfl⟩;rw [hW3];have HZ3:Hid (ZO w #[I ep, .slice A0 nm a,I lp, .slice R0 n1 r,I st, .slice (some ⟨b,off,none⟩) m c0,I ho, .slice D0 ny d0] W3):=ae (by rw [<-hW3];exact HZ2.out.drewN nq);clear x0 x1 k5 k6;go_wp2_with fail;go_meet;exact ⟨by rw [HT.out],HZ3.out⟩
        case rest=>
         obtain ⟨rfl,hz⟩:=hcut;have HZ3:=ae hz;clear hz HZ2 HX iW Oe kD jr HNA FP HYA Ae;cases fb with
         |true=>
          have HF:Hid (Cb ⟨cal,st,tr,ho,yr⟩=false):=ae (pI fun hg=>by
           have h2:=(gz _ _).2 (hg.tr ((j+1)) (by show (j+1)<tr.length;rw [qV.out];omega));have h3:=mQ.out;rw [h2] at h3;cases h3)
          have c1:wc.cell? ⟨w.heap.size+1,0,none⟩=some (.pointer none):=cell_of_row wc _ 0 _ _ _ HZ3.out.r1;have c2:wc.cell? ⟨w.heap.size+1+1,0,none⟩=some (.bool false):=cell_of_row wc (w.heap.size+2) 0 _ _ _ HZ3.out.r2;have f1:wc.frozen? ⟨w.heap.size+1,0,none⟩=false:=frozen_of_row wc _ 0 _ _ HZ3.out.r1;have f2:wc.frozen? ⟨w.heap.size+1+1,0,none⟩=false:=frozen_of_row wc (w.heap.size+2) 0 _ _ HZ3.out.r2;go_wp2_with fail;refine jo (v:= .tuple #[.pointer none, .bool false]) rfl (fH rfl _ _ ⟨w.heap.size+1,0,none⟩ ⟨w.heap.size+1+1,0,none⟩ (.pointer none) (.bool false) rfl (lQ _ _ _ ?_) rfl (jT _ _ _ ?_)) ⟨⟨_,by rw [HF.out]⟩,?_⟩
          ·go_simp
          ·go_simp
          ·exact (HZ3.out.up.setCell (p:=⟨w.heap.size+1,0,none⟩) (Nat.le_succ _) _).setCell (p:=⟨w.heap.size+1+1,0,none⟩) (by show w.heap.size<=w.heap.size+1+1;omega) _
         |false=>
          have HT3:Hid (∀j',j'<(j+1)+1->lH ⟨cal,st,tr,ho,yr⟩ j'):=ae (fun j' hj'=>by
           by_cases h:j'<(j+1)
           ·exact HTO.out j' h
           ·have h4:j'=(j+1):=by omega
            rw [h4];refine (gz _ _).1 ?_;have h3:=mQ.out;cases e:qF ⟨cal,st,tr,ho,yr⟩ ((j+1)) with
            |true=>rfl
            |false=>rw [e] at h3;cases h3)
          go_wp2_with fail;go_roundw
          case rel=>exact ⟨(j+1)+1,by omega,by go_num,HT3.out,HZ3.out⟩
          case measure=>simp [intOf];omega
      ·have hkm2:k=m:=by omega
       have i1:¬(k:Int)<(m:Int):=by omega
       have HTRO:Hid (∀i,i<m->lH ⟨cal,st,tr,ho,yr⟩ i):=ae (by rw [<-hkm2];exact HTO.out);clear hkm2 hk HTO;have k7:wr.cell? ⟨w.heap.size,7,none⟩=some (.slice D0 ny d0):=HZ.out.row.2 7;by_cases hny:ny=0\/ny=2
       case neg=>
        have HF:Hid (Cb ⟨cal,st,tr,ho,yr⟩=false):=ae (pI fun hg=>by
         have h2:=VY.out;rcases hg.yr with h|⟨r0,r1,h,_,_⟩
         ·simp only at h;rw [h] at h2;exact hny (.inl h2.symm)
         ·simp only at h;rw [h] at h2;exact hny (.inr h2.symm))
        have t0:((ny:Int) !=0)=true:=by simp;omega
        have t1:(ny !=0)=true:=by simp;omega
        have t2:((ny:Int) !=2)=true:=by simp;omega
        have t3:(ny !=2)=true:=by simp;omega
        have t4:¬(ny:Int)=0:=by omega
        have t5:¬(ny:Int)=2:=by omega
        clear hny;have c1:wr.cell? ⟨w.heap.size+1,0,none⟩=some (.pointer none):=cell_of_row wr _ 0 _ _ _ HZ.out.r1;have c2:wr.cell? ⟨w.heap.size+1+1,0,none⟩=some (.bool false):=cell_of_row wr (w.heap.size+2) 0 _ _ _ HZ.out.r2;have f1:wr.frozen? ⟨w.heap.size+1,0,none⟩=false:=frozen_of_row wr _ 0 _ _ HZ.out.r1;have f2:wr.frozen? ⟨w.heap.size+1+1,0,none⟩=false:=frozen_of_row wr (w.heap.size+2) 0 _ _ HZ.out.r2;go_wp2_with fail;refine jo (v:= .tuple #[.pointer none, .bool false]) rfl (fH rfl _ _ ⟨w.heap.size+1,0,none⟩ ⟨w.heap.size+1+1,0,none⟩ (.pointer none) (.bool false) rfl (lQ _ _ _ ?_) rfl (jT _ _ _ ?_)) ⟨⟨_,by rw [HF.out]⟩,?_⟩
        ·go_simp
        ·go_simp
        ·exact (HZ.out.up.setCell (p:=⟨w.heap.size+1,0,none⟩) (Nat.le_succ _) _).setCell (p:=⟨w.heap.size+1+1,0,none⟩) (by show w.heap.size<=w.heap.size+1+1;omega) _
       have Hy:=ae hny;clear hny k7;go_upto_region 9 with fail
       go_cut [86] from 77 to 86 (fun p wx=>p= .bool false/\ZO w #[I ep, .slice A0 nm a,I lp, .slice R0 n1 r,I st, .slice C m c0,I ho, .slice D0 ny d0] wx)
       case first=>
        have k7:wr.cell? ⟨w.heap.size,7,none⟩=some (.slice D0 ny d0):=HZ.out.row.2 7;rcases Hy.out with h0|h0
        ·subst h0;go_wp2_with fail;go_meet;exact ⟨rfl,HZ.out⟩
        ·subst h0;go_wp2_with fail;go_meet;exact ⟨rfl,HZ.out⟩
       case rest=>
        obtain ⟨rfl,hz⟩:=hcut;have HZ':=ae hz;clear hz HZ i1;have HZ:=HZ';have hny2:ny<=2:=by have:=Hy.out;omega
        have k7:wc.cell? ⟨w.heap.size,7,none⟩=some (.slice D0 ny d0):=HZ.out.row.2 7;go_wp2_with fail;clear k7
        go_loopw [90] (fun i wr=>∃k:Nat,k<=ny/\i=I (k:Nat)/\(∀j y,j<k->yr[j]? =some y->ui nm y)/\ZO w #[I ep, .slice A0 nm a,I lp, .slice R0 n1 r,I st, .slice C m c0,I ho, .slice D0 ny d0] wr) (fun i _=>ny - (intOf i).toNat)
        case atStart=>exact ⟨0,Nat.zero_le _,rfl,(fun j y hj=>by omega),HZ.out⟩
        case round=>
         clear HZ HZ';obtain ⟨k,hkn,rfl,hyo,hzo⟩:=hrel;have HZ:=ae hzo;have Ae:=ae hyo;clear hzo hyo;by_cases hk:k<ny
         ·have HYO0:=Ae;clear Ae;have i1:(k:Int)<(ny:Int):=by omega
          have i0:(0:Int)<=(k:Int):=by omega
          have hyl:0<yr.length:=by have:=VY.out;omega
          obtain ⟨yb,yo,hD,hyb,KJ⟩:=HYS.out.there (by rw [bZ (s:=5) Yr.cells yr fun _ _=>rfl];omega);obtain ⟨x,hx⟩:∃x,yr[k]? =some x:=⟨_,bK (by rw [VY.out];exact hk)⟩;have Sz:=ae hx;have dE:Hid (wr.rangeAt yb (yo+k*5) x.cells):=ae (aS (aA.elem (s:=5) (f:=Yr.cells) (xs:=yr) (fun _ _=>rfl) KJ k x hx) HZ.out.up hyb);clear KJ hx
          (try simp only at hD)
          subst hD;have y0:wr.cell? ⟨yb,yo+k*5,none⟩=some (I x.month):=dE.out 0 _ rfl;have y1:wr.cell? ⟨yb,yo+k*5+1,none⟩=some (I x.cZ):=dE.out 1 _ rfl;have y2:wr.cell? ⟨yb,yo+k*5+2,none⟩=some (I x.dh):=dE.out 2 _ rfl;have y3:wr.cell? ⟨yb,yo+k*5+3,none⟩=some (I x.minute):=dE.out 3 _ rfl;have y4:wr.cell? ⟨yb,yo+k*5+4,none⟩=some (I x.off):=dE.out 4 _ rfl;go_upto_region 14 with (first
           |((with_reducible refine aZ 110 ?_);refine aG rfl 110 rfl #[I 0,I 0,I 0,I 0,I 0] (by kernel_rfl) ?_)
           |((with_reducible refine bY 110 ?_);go_must (refine wpList_store_row rfl _ _ _ rfl wr.heap.size #[I x.month,I x.cZ,I x.dh,I x.minute,I x.off] rfl rfl 110 #[I 0,I 0,I 0,I 0,I 0] (heap_alloc_last wr _) (by kernel_rfl) rfl (by simp [Value.oneCell']) ?_)))
          clear dE y0 y1 y2 y3 y4;have hb2:Below wr.heap.size wr ((wr.alloc (.cells #[I 0,I 0,I 0,I 0,I 0] 110)).setRow wr.heap.size #[I x.month,I x.cZ,I x.dh,I x.minute,I x.off]):=aB (ag wr _) (Nat.le_refl _) _;have PY:=ae (AV.qy (AV.new wr #[I 0,I 0,I 0,I 0,I 0] 110) #[I x.month,I x.cZ,I x.dh,I x.minute,I x.off]);have Ls:=ae (HZ.out.below hb2);clear hb2 HZ;generalize (wr.alloc (.cells #[I 0,I 0,I 0,I 0,I 0] 110)).setRow wr.heap.size #[I x.month,I x.cZ,I x.dh,I x.minute,I x.off]=X0 at Ls PY ⊢;generalize wr.heap.size=rb0 at PY ⊢;try simp only [Act.put]
          simp only [List.setIfInBounds_toArray,List.set_cons_zero,List.set_cons_succ];obtain ⟨q1,hq1⟩:∃b,En x.off 1080=b:=⟨_,rfl⟩;have Rw:=ae (fun W=>sD x.off 1080 W (by omega));rw [hq1] at Rw;have FP:Hid (¬(-1080<=x.off/\x.off<=1080)->q1=false):=ae (fun h=>by rw [<-hq1];exact Df h);have Ae:Hid ((-1080<=x.off/\x.off<=1080)->q1=true):=ae (fun h=>by rw [<-hq1];exact qG h);obtain ⟨fb,hfb⟩:∃b,(!wX nm x)=b:=⟨_,rfl⟩;have mQ:=ae hfb;clear hq1 hfb
          go_cut [141] from 94 to 141 (fun p wx=>p= .bool fb/\ZO w #[I ep, .slice A0 nm a,I lp, .slice R0 n1 r,I st, .slice C m c0,I ho, .slice (some ⟨yb,yo,none⟩) ny d0] wx)
          case first=>
           have u0:X0.cell? ⟨rb0,0,none⟩=some (I x.month):=PY.out.cell 0;have u1:X0.cell? ⟨rb0,1,none⟩=some (I x.cZ):=PY.out.cell 1;have u2:X0.cell? ⟨rb0,2,none⟩=some (I x.dh):=PY.out.cell 2;have u3:X0.cell? ⟨rb0,3,none⟩=some (I x.minute):=PY.out.cell 3;have u4:X0.cell? ⟨rb0,4,none⟩=some (I x.off):=PY.out.cell 4;have k1:X0.cell? ⟨w.heap.size,1,none⟩=some (.slice A0 nm a):=Ls.out.row.2 1;cases q1 with
           |false=>
            have HT:Hid (fb=true):=ae (by
             rw [<-mQ.out];cases e:wX nm x with
             |false=>rfl
             |true=>
              have h2:=(iF _ _).1 e;exfalso;have h3:=Ae.out h2.of;cases h3)
            go_wp2_with fail;refine (Rw.out _).mono ?_;rintro e YW ⟨rfl,rfl⟩;go_wp2_with fail;go_meet;exact ⟨by rw [HT.out],Ls.out⟩
           |true=>
            by_cases m0:x.month<1
            ·have HT:Hid (fb=true):=ae (by
              rw [<-mQ.out];cases e:wX nm x with
              |false=>rfl
              |true=>
               have h2:=(iF _ _).1 e;exfalso;have h4:=h2.mo;omega)
             go_wp2_with fail;refine (Rw.out _).mono ?_;rintro e YW ⟨rfl,rfl⟩;go_wp2_with fail;go_meet;exact ⟨by rw [HT.out],Ls.out⟩
            ·by_cases m1:(nm:Int)<x.month
             ·have HT:Hid (fb=true):=ae (by
               rw [<-mQ.out];cases e:wX nm x with
               |false=>rfl
               |true=>
                have h2:=(iF _ _).1 e;exfalso;have h4:=h2.mo;omega)
              go_wp2_with fail;refine (Rw.out _).mono ?_;rintro e YW ⟨rfl,rfl⟩;go_wp2_with fail;go_meet;exact ⟨by rw [HT.out],Ls.out⟩
             ·by_cases m2:x.cZ<1
              ·have HT:Hid (fb=true):=ae (by
                rw [<-mQ.out];cases e:wX nm x with
                |false=>rfl
                |true=>
                 have h2:=(iF _ _).1 e;exfalso;have h4:=h2.wk;omega)
               go_wp2_with fail;refine (Rw.out _).mono ?_;rintro e YW ⟨rfl,rfl⟩;go_wp2_with fail;go_meet;exact ⟨by rw [HT.out],Ls.out⟩
              ·by_cases m3:(5:Int)<x.cZ
               ·have HT:Hid (fb=true):=ae (by
                 rw [<-mQ.out];cases e:wX nm x with
                 |false=>rfl
                 |true=>
                  have h2:=(iF _ _).1 e;exfalso;have h4:=h2.wk;omega)
                go_wp2_with fail;refine (Rw.out _).mono ?_;rintro e YW ⟨rfl,rfl⟩;go_wp2_with fail;go_meet;exact ⟨by rw [HT.out],Ls.out⟩
               ·by_cases m4:x.dh<0
                ·have HT:Hid (fb=true):=ae (by
                  rw [<-mQ.out];cases e:wX nm x with
                  |false=>rfl
                  |true=>
                   have h2:=(iF _ _).1 e;exfalso;have h4:=h2.wd;omega)
                 go_wp2_with fail;refine (Rw.out _).mono ?_;rintro e YW ⟨rfl,rfl⟩;go_wp2_with fail;go_meet;exact ⟨by rw [HT.out],Ls.out⟩
                ·by_cases m5:(6:Int)<x.dh
                 ·have HT:Hid (fb=true):=ae (by
                   rw [<-mQ.out];cases e:wX nm x with
                   |false=>rfl
                   |true=>
                    have h2:=(iF _ _).1 e;exfalso;have h4:=h2.wd;omega)
                  go_wp2_with fail;refine (Rw.out _).mono ?_;rintro e YW ⟨rfl,rfl⟩;go_wp2_with fail;go_meet;exact ⟨by rw [HT.out],Ls.out⟩
                 ·by_cases m6:x.minute<0
                  ·have HT:Hid (fb=true):=ae (by
                    rw [<-mQ.out];cases e:wX nm x with
                    |false=>rfl
                    |true=>
                     have h2:=(iF _ _).1 e;exfalso;have h4:=h2.mi;omega)
                   go_wp2_with fail;refine (Rw.out _).mono ?_;rintro e YW ⟨rfl,rfl⟩;go_wp2_with fail;go_meet;exact ⟨by rw [HT.out],Ls.out⟩
                  ·by_cases m7:(1440:Int)<=x.minute
                   ·have HT:Hid (fb=true):=ae (by
                     rw [<-mQ.out];cases e:wX nm x with
                     |false=>rfl
                     |true=>
                      have h2:=(iF _ _).1 e;exfalso;have h4:=h2.mi;omega)
                    go_wp2_with fail;refine (Rw.out _).mono ?_;rintro e YW ⟨rfl,rfl⟩;go_wp2_with fail;go_meet;exact ⟨by rw [HT.out],Ls.out⟩
                   ·have HT:Hid (fb=false):=ae (by
                     rw [<-mQ.out];have h2:ui nm x:=by
                      refine ⟨by omega,by omega,by omega,by omega,Classical.byContradiction fun h=>?_⟩;have h3:=FP.out h;cases h3
                     rw [(iF _ _).2 h2];rfl)
                    go_wp2_with fail;refine (Rw.out _).mono ?_;rintro e YW ⟨rfl,rfl⟩;go_wp2_with fail;go_meet;exact ⟨by rw [HT.out];congr 1;simp only [Bool.or_eq_false_iff,decide_eq_false_iff_not];omega,Ls.out⟩
          case rest=>
           obtain ⟨rfl,hz⟩:=hcut;have HZ3:=ae hz;clear hz Ls PY Rw FP Ae;cases fb with
           |true=>
            have HF:Hid (Cb ⟨cal,st,tr,ho,yr⟩=false):=ae (pI fun hg=>by
             have h1:=Sz.out;have h3:=mQ.out;have h5:=FO.out;rcases hg.yr with h|⟨r0,r1,h,h7,h8⟩
             ·simp only at h;rw [h] at h1;cases h1
             ·simp only at h h7 h8;rw [h5] at h7 h8;have h9:ui nm x:=by
               rw [h] at h1
               match k,h1 with
               |0,h1=>injection h1 with h1;rw [<-h1];exact h7
               |1,h1=>injection h1 with h1;rw [<-h1];exact h8
               |n+2,h1=>cases h1
              rw [(iF _ _).2 h9] at h3;cases h3)
            have c1:wc.cell? ⟨w.heap.size+1,0,none⟩=some (.pointer none):=cell_of_row wc _ 0 _ _ _ HZ3.out.r1;have c2:wc.cell? ⟨w.heap.size+1+1,0,none⟩=some (.bool false):=cell_of_row wc (w.heap.size+2) 0 _ _ _ HZ3.out.r2;have f1:wc.frozen? ⟨w.heap.size+1,0,none⟩=false:=frozen_of_row wc _ 0 _ _ HZ3.out.r1;have f2:wc.frozen? ⟨w.heap.size+1+1,0,none⟩=false:=frozen_of_row wc (w.heap.size+2) 0 _ _ HZ3.out.r2;go_wp2_with fail;refine jo (v:= .tuple #[.pointer none, .bool false]) rfl (fH rfl _ _ ⟨w.heap.size+1,0,none⟩ ⟨w.heap.size+1+1,0,none⟩ (.pointer none) (.bool false) rfl (lQ _ _ _ ?_) rfl (jT _ _ _ ?_)) ⟨⟨_,by rw [HF.out]⟩,?_⟩
            ·go_simp
            ·go_simp
            ·exact (HZ3.out.up.setCell (p:=⟨w.heap.size+1,0,none⟩) (Nat.le_succ _) _).setCell (p:=⟨w.heap.size+1+1,0,none⟩) (by show w.heap.size<=w.heap.size+1+1;omega) _
           |false=>
            have HT3:Hid (∀j y,j<k+1->yr[j]? =some y->ui nm y):=ae (fun j y hj hy=>by
             by_cases h:j<k
             ·exact HYO0.out j y h hy
             ·have h4:j=k:=by omega
              rw [h4,Sz.out] at hy;injection hy with hy;rw [<-hy];refine (iF _ _).1 ?_;have h3:=mQ.out;cases e:wX nm x with
              |true=>rfl
              |false=>rw [e] at h3;cases h3)
            go_wp2_with fail;go_roundw
            case rel=>exact ⟨k+1,by omega,by go_num,HT3.out,HZ3.out⟩
            case measure=>simp [intOf];omega
         ·have hkn2:k=ny:=by omega
          have i1:¬(k:Int)<(ny:Int):=by omega
          have IB:Hid (qw ⟨cal,st,tr,ho,yr⟩):=ae (by
           have hnl:=VY.out;have hm1:=FO.out;unfold qw;simp only [hm1]
           match yr,hnl,Ae.out with
           | [],_,_=>exact .inl rfl
           | [x],hnl,_=>exact absurd hnl (by have:=Hy.out;simp;omega)
           | [x,y],hnl,h=>exact .inr ⟨x,y,rfl,h 0 x (by simp at hnl;omega) rfl,h 1 y (by simp at hnl;omega) rfl⟩
           |_::_::_::_,hnl,_=>exact absurd hnl (by have:=Hy.out;simp;omega))
          clear hkn2 hk Ae;have HK:=ae (HKK.out Rn.out IB.out);have HYSB:=ae (VB ⟨cal,st,tr,ho,yr⟩ Rn.out IB.out);have HZC:=ae (xU ⟨cal,st,tr,ho,yr⟩ Rn.out);have HBD:Hid (∀k,k<m->True/\ -2251799813685248<=gU tr k/\gU tr k<=2251799813685248):=ae (fun k hk=>⟨trivial,(HTRO.out k hk).2.1⟩);have HTRL:Hid (∀x∈tr,x.at_<ho):=ae (fun x hx=>by
           obtain ⟨i,hi⟩:=List.getElem?_of_mem hx;have hil:i<m:=by rw [<-qV.out];exact (gQ.1 hi).1
           have h1:=(HTRO.out i hil).2.2.1;unfold gU at h1;simp only [hi,Option.map_some,Option.getD_some] at h1;exact h1)
          have Zp:Hid (eH (tJ ⟨cal,st,tr,ho,yr⟩) (gy ⟨cal,st,tr,ho,yr⟩*1440)=true->yZ ⟨cal,st,tr,ho,yr⟩->Cb ⟨cal,st,tr,ho,yr⟩=true):=ae (fun hg hl=>Gy ⟨by show tr.length<=512;rw [qV.out];omega,Rn.out,hst,hho,fun i hi=>HTRO.out i (by rw [<-qV.out];exact hi),IB.out,hg,hl⟩);go_upto_region 17 with fail;clear i1;go_wp2_with ((with_reducible refine dY 69 ?_);go_must (refine aP rfl _ _ rfl w.heap.size rfl #[I ep, .slice A0 nm a,I lp, .slice R0 n1 r,I st, .slice C m c0,I ho, .slice D0 ny d0] ⟨HZ.out.row.1,HZ.out.row.2⟩ _ Tryz.underlying69 rfl (by kernel_rfl) ?_));refine (HK.out wr HZ.out.up).mono ?_;rintro e w5 h5;rcases h5.symm with ⟨Ig,rfl,hb5⟩|⟨Ig,rfl,A2,n2,c2,htk⟩
          ·have HF:Hid (Cb ⟨cal,st,tr,ho,yr⟩=false):=ae (pI fun hg=>by
            have h1:=hg.dS;rw [Ig] at h1;cases h1)
           have Lp:=ae ((HZ.out.below hb5).below (ag w5 (.cells #[.pointer none] 140)));clear hb5 HZ Ig;go_upto_region 18 with fail;generalize w5.alloc (.cells #[.pointer none] 140)=w6 at Lp ⊢;have c1:w6.cell? ⟨w.heap.size+1,0,none⟩=some (.pointer none):=cell_of_row w6 _ 0 _ _ _ Lp.out.r1;have c2:w6.cell? ⟨w.heap.size+1+1,0,none⟩=some (.bool false):=cell_of_row w6 (w.heap.size+2) 0 _ _ _ Lp.out.r2;have f1:w6.frozen? ⟨w.heap.size+1,0,none⟩=false:=frozen_of_row w6 _ 0 _ _ Lp.out.r1;have f2:w6.frozen? ⟨w.heap.size+1+1,0,none⟩=false:=frozen_of_row w6 (w.heap.size+2) 0 _ _ Lp.out.r2;go_wp2_with fail;refine jo (v:= .tuple #[.pointer none, .bool false]) rfl (fH rfl _ _ ⟨w.heap.size+1,0,none⟩ ⟨w.heap.size+1+1,0,none⟩ (.pointer none) (.bool false) rfl (lQ _ _ _ ?_) rfl (jT _ _ _ ?_)) ⟨⟨_,by rw [HF.out]⟩,?_⟩
           ·go_simp
           ·go_simp
           ·exact (Lp.out.up.setCell (p:=⟨w.heap.size+1,0,none⟩) (Nat.le_succ _) _).setCell (p:=⟨w.heap.size+1+1,0,none⟩) (by show w.heap.size<=w.heap.size+1+1;omega) _
          have HGP:=ae Ig;have HOK0:Hid (m=0\/(tJ ⟨cal,st,tr,ho,yr⟩).length=0->Cb ⟨cal,st,tr,ho,yr⟩=true):=ae (fun h=>Zp.out HGP.out (by
           unfold yZ;simp only [qV.out];intro h0 h1;rcases h with h|h
           ·omega
           ·exact absurd h h1))
          have HOK1:Hid (0<m->(tJ ⟨cal,st,tr,ho,yr⟩).length≠0->Cb ⟨cal,st,tr,ho,yr⟩=decide (2160<=(eY (tJ ⟨cal,st,tr,ho,yr⟩) (gy ⟨cal,st,tr,ho,yr⟩*1440) ho).1.at_ - gU tr (tr.length - 1))):=ae (fun h0 h1=>by
           by_cases hd:2160<=(eY (tJ ⟨cal,st,tr,ho,yr⟩) (gy ⟨cal,st,tr,ho,yr⟩*1440) ho).1.at_ - gU tr (tr.length - 1)
           ·rw [decide_eq_true hd];exact Zp.out HGP.out (fun _ _=>hd)
           ·rw [decide_eq_false hd];exact pI fun hg=>hd (hg.late (by show 0<tr.length;rw [qV.out];exact h0) h1))
          clear Ig;have hsz0:w.heap.size+2<wr.heap.size:=(bV.1 HZ.out.r2).1;have hsz5:=htk.k.lt;have HTK:=ae (htk.grow (ag w5 (.cells #[.pointer (some ⟨wr.heap.size+1,0,none⟩)] 140)));have Lp:=ae ((HZ.out.below htk.lo).below (ag w5 (.cells #[.pointer (some ⟨wr.heap.size+1,0,none⟩)] 140)));have PO:=ae (heap_alloc_last w5 (.cells #[.pointer (some ⟨wr.heap.size+1,0,none⟩)] 140));clear htk HZ;go_upto_region 20 with fail;generalize w5.alloc (.cells #[.pointer (some ⟨wr.heap.size+1,0,none⟩)] 140)=w6 at HTK Lp PO ⊢;generalize w5.heap.size=pb at PO hsz5 ⊢;have k5:w6.cell? ⟨w.heap.size,5,none⟩=some (.slice C m c0):=Lp.out.row.2 5;have HTK7:=ae (HTK.out.grow (ag w6 (.cells #[I (m:Int)] 3)));have Ry:=ae (Lp.out.below (ag w6 (.cells #[I (m:Int)] 3)));have HP7:=ae ((Below.heap_alloc w6 (.cells #[I (m:Int)] 3) pb (bV.1 PO.out).1).trans PO.out);have HN7:=ae (heap_alloc_last w6 (.cells #[I (m:Int)] 3));have hpn:pb≠w6.heap.size:=by have:=(bV.1 PO.out).1;omega
          have hsz6:pb<w6.heap.size:=(bV.1 PO.out).1;go_upto_region 21 with fail;clear k5 HTK Lp PO;generalize w6.alloc (.cells #[I (m:Int)] 3)=w7 at HTK7 Ry HP7 HN7 ⊢;generalize w6.heap.size=nb at HN7 hpn hsz6 ⊢;have n0:w7.cell? ⟨nb,0,none⟩=some (I (m:Int)):=cell_of_row w7 nb 0 _ _ _ HN7.out;have p0:w7.cell? ⟨pb,0,none⟩=some (.pointer (some ⟨wr.heap.size+1,0,none⟩)):=cell_of_row w7 pb 0 _ _ _ HP7.out;rcases Nat.eq_zero_or_pos m with hm0|hm0
          ·have c1:w7.cell? ⟨w.heap.size+1,0,none⟩=some (.pointer none):=cell_of_row w7 _ 0 _ _ _ Ry.out.r1;have c2:w7.cell? ⟨w.heap.size+1+1,0,none⟩=some (.bool false):=cell_of_row w7 (w.heap.size+2) 0 _ _ _ Ry.out.r2;have f1:w7.frozen? ⟨w.heap.size+1,0,none⟩=false:=frozen_of_row w7 _ 0 _ _ Ry.out.r1;have f2:w7.frozen? ⟨w.heap.size+1+1,0,none⟩=false:=frozen_of_row w7 (w.heap.size+2) 0 _ _ Ry.out.r2;have q1:¬pb=w.heap.size+1:=by omega
           have q2:¬pb=w.heap.size+1+1:=by omega
           go_wp2_with fail;refine jo (v:= .tuple #[pt (wr.heap.size+1), .bool true]) rfl (fH rfl _ _ ⟨w.heap.size+1,0,none⟩ ⟨w.heap.size+1+1,0,none⟩ (pt (wr.heap.size+1)) (.bool true) rfl (wM _ _ _ ?_) rfl (mY _ _ _ ?_)) ⟨⟨_,by rw [HOK0.out (.inl hm0)]⟩,?_⟩
           ·go_simp
           ·go_simp
           ·exact (Ry.out.up.setCell (p:=⟨w.heap.size+1,0,none⟩) (Nat.le_succ _) _).setCell (p:=⟨w.heap.size+1+1,0,none⟩) (by show w.heap.size<=w.heap.size+1+1;omega) _
          ·have k6:w7.cell? ⟨w.heap.size,6,none⟩=some (I ho):=Ry.out.row.2 6;have HFM:=ae (TL (wr.heap.size+1) ho);go_wp2_with fail;refine (HFM.out _).mono ?_;rintro e w8 ⟨rfl,rfl⟩;clear HFM n0 p0 k6;obtain ⟨w8,hw8⟩:∃W,(w7.alloc (.cells #[.pointer (some ⟨wr.heap.size+1,0,none⟩)] 140)).alloc (.cells #[I ho] 3)=W:=⟨_,rfl⟩;have hb8:Below w7.heap.size w7 w8:=by rw [<-hw8];exact ah (ag w7 _) (ag _ _)
           have hcb:w8.heap[w7.heap.size]? =some (.cells #[.pointer (some ⟨wr.heap.size+1,0,none⟩)] 140 (0,0)):=by rw [<-hw8];exact heap_alloc2_old w7 _ _
           have htb:w8.heap[w7.heap.size+1]? =some (.cells #[I ho] 3 (0,0)):=by rw [<-hw8];exact heap_alloc2_new w7 _ _
           have hs8:w8.heap.size=w7.heap.size+2:=by rw [<-hw8];simp
           have hs7:nb<w7.heap.size:=(bV.1 HN7.out).1;rw [hw8];clear hw8;have Su:=ae (HTK7.out.grow hb8);have Bi:=ae (Ry.out.below hb8);have HP8:=ae ((hb8.block _ (bV.1 HP7.out).1).trans HP7.out);have HN8:=ae ((hb8.block _ (bV.1 HN7.out).1).trans HN7.out);obtain ⟨b,off,hCb,hcl⟩:=HAT.out w8 Bi.out.up hm0;have hCB:b<w.heap.size:=by
            rcases HTRB.out with h0|⟨b',off',e,hb,_⟩
            ·rw [bZ (s:=2) Tr.cells _ fun _ _=>rfl] at h0;have:=qV.out;omega
            ·rw [e] at hCb;injection hCb with e1;injection e1 with e2;omega
           have HFS:=ae (Su.out.frs (B:=w8.heap.size) (m:=m) (trs:=tr) (C:=C) rfl (.inr ⟨b,off,hCb,by omega,hcl⟩) hcb htb);have iM:=ae hcl;clear HTK7 Ry HP7 HN7 hb8 hcb htb;generalize w7.heap.size=cb at HFS hs7 hs8 ⊢;go_wp2_with fail;refine (wpIn_wide (n:=3)).1 ?_;have HSQ:=MC 2 w8.heap.size (wr.heap.size+1) cb (cb+1) n2 m nm n1 ny a r c0 d0 c2 A0 R0 A2 C D0 ep lp st ho _ _ tr w8 HFS.out (Nat.le_refl _) Su.out.len qV.out (fun x hx=>HTRL.out x hx) HYSB.out.1 HZC.out.1 (by have:=HZC.out.2;omega) hho.1 hho.2 (by have:=HYSB.out.2;have h2:=Su.out.len;omega) (by omega) (by omega);obtain ⟨tl,htl⟩:∃t,gU tr (m - 1)=t:=⟨_,rfl⟩;have xY:=ae htl;have htlb:=(HBD.out (m - 1) (by omega)).2;rw [htl] at htlb;have hel:=(iM.out (m - 1) (by omega)).1;rw [htl] at hel;have HEL:=ae hel;clear htl hel;have hb7:w.heap.size+2<w8.heap.size:=by omega
           have DF:w.heap.size+2<cb+1:=by omega
           have HBLK:Hid (∀X,w8.grownBy X (some (cb+1))->∀k,k<w8.heap.size->k≠cb+1->X.heap[k]? =w8.heap[k]?):=ae (fun X hg k hk hn=>hg.block k hk (fun e=>hn (by injection e)));have HUP:Hid (∀X,w8.grownBy X (some (cb+1))->Below w.heap.size w X):=ae (fun X hg=>Bi.out.up.grown hg Bi.out.up.size (fun k e=>by injection e with e;omega));refine YT (P:=fun a0=>Code.wpIn _ _ _ _ _ a0 _) (fun a0 ha0=>?_);have yV:=ae ha0;refine uJ rfl (by omega) (gf:=115) (lb:= #[.pointer (some ⟨cb,0,none⟩), .pointer (some ⟨cb+1,0,none⟩)]) (by rw [ha0];rfl) trivial (enters_of Tryz.func115 (by kernel_rfl) rfl)
            HSQ (by omega) (Nat.le_refl _) (Below.refl _ _) (fun _=>rfl)
            (fun pre X=>pre= []/\w8.grownBy X (some (cb+1)))
            (fun c pre X=>Zh w w8 (cb+1) (wr.heap.size+1) tl c pre X)
            Tj (fun c=>TD (Nat.le_refl _) hb7 DF c) ⟨rfl,World.grownBy.refl _ _⟩ (fun pre X h=>h.1)
            (fun x a' X=>∃q,w8.heap.size<=q/\X.heap[q]? =some (.cells #[I x.1.at_,I x.1.off] 108 (0,0))/\a'=({tmps:=(a0.tmps.setIfInBounds 159 (.agg #[I x.1.at_,I x.1.off])).setIfInBounds 11 (.pointer (some ⟨q,0,none⟩)),defers:= []}:Act))
            (fun x a' _ X Y row hs hg hr=>by obtain ⟨q,h1,h2,h3⟩:=hs;exact ⟨q,h1,F7 q _ _ () X Y row h2 hg hr,h3⟩)
            ?assign ?body ?done ?stop
           case assign=>
            rintro l pre ⟨⟨xa,xo⟩,hx⟩ X K ⟨hpre,hgr⟩ hK;have HG2:=ae hgr;have hszX:=hgr.size;clear hgr;rw [ha0] at hK ⊢;simp only [List.zip_toArray,List.zip_cons_cons,List.zip_nil_right,List.foldl_toArray,List.foldl_cons,List.foldl_nil,List.setIfInBounds_toArray,List.set_cons_succ,List.set_cons_zero] at hK ⊢
            gi_wp2_with (first|((with_reducible refine Jc 108 ?_);refine sJ rfl _ rfl #[I 0,I 0] (by kernel_rfl) ?_)|((with_reducible refine xq 108 ?_);go_must (refine jS rfl _ _ _ rfl #[I xa,I xo] rfl rfl 108 #[I 0,I 0] rfl (by kernel_rfl) rfl (by kernel_rfl) ?_);intro W5 hb5 hs5 hh5 xw hk5;have qU:=ae hb5;have HH5:=ae hh5;have yX:=ae hk5;clear hb5 hs5 hh5 xw hk5))
            exact hK _ _ (yX.out.from _) (qU.out.mono (by omega)) ⟨hpre,HG2.out.andThen (BD qU.out) (fun j e=>nomatch e)⟩ ⟨X.heap.size,by omega,HH5.out,rfl⟩
           case body=>
            rintro l pre ⟨⟨xa,xo⟩,hx⟩ a' X hl _ ⟨rfl,hgr⟩ ⟨q,hq,hblk,rfl⟩;have HG2:=ae hgr;have Zr:=ae hblk;clear hgr hblk;rw [ha0];simp only [List.setIfInBounds_toArray,List.set_cons_succ,List.set_cons_zero] at Zr ⊢
            gi_wp2_with fail
            obtain ⟨hx1,hx2⟩:=hx;simp only at hx1 hx2;obtain ⟨mj,hmj⟩:∃j:Nat,(m:Int) - 1=(j:Nat):=⟨m - 1,by omega⟩;have hmjn:m - 1=mj:=by omega
            have mj0:(0:Int)<=(mj:Int):=by omega
            have mj1:(mj:Int)<(m:Int):=by omega
            have wm:IntKind.i64.wrap (mj:Int)=(mj:Int):=by rw [IntKind.wrap_i64];omega
            have wx:IntKind.i64.wrap (xa - tl)=xa - tl:=by rw [IntKind.wrap_i64];omega
            have hbb:=HBLK.out X HG2.out;have hS0:(fun Y:World=>Y.cell? ⟨pb,0,none⟩=some (.pointer (some ⟨wr.heap.size+1,0,none⟩))/\Y.cell? ⟨q,0,none⟩=some (I xa)/\Y.cell? ⟨w.heap.size,5,none⟩=some (.slice (some ⟨b,off,none⟩) m c0)/\Y.cell? ⟨nb,0,none⟩=some (I (m:Int))/\Y.cell? ⟨b,off+mj*2,none⟩=some (I tl)) X.drew:=
             ⟨(nH (hbb pb (by omega) (by omega))).trans (cell_of_row w8 pb 0 _ _ _ HP8.out),cell_of_row X q 0 _ _ _ Zr.out,(nH (hbb w.heap.size (by omega) (by omega))).trans ((Bi.out.row.2 5).trans (by rw [<-hCb];rfl)),(nH (hbb nb (by omega) (by omega))).trans (cell_of_row w8 nb 0 _ _ _ HN8.out),(nH (hbb b (by omega) (by omega))).trans (by rw [<-hmjn];exact HEL.out)⟩
            have hr1:X.heap[w.heap.size+1]? =some (.cells #[.pointer none] 140 (0,0)):=(hbb _ (by omega) (by omega)).trans Bi.out.r1;have hr2:X.heap[w.heap.size+2]? =some (.cells #[.bool false] 4 (0,0)):=(hbb _ (by omega) (by omega)).trans Bi.out.r2;have HR1:=ae hr1;have HR2:=ae hr2;have HUX:=ae (HUP.out X HG2.out);have hqx:q<X.heap.size:=(bV.1 Zr.out).1;clear hbb hr1 hr2;refine rY (S:=fun Y:World=>Y.cell? ⟨pb,0,none⟩=some (.pointer (some ⟨wr.heap.size+1,0,none⟩))/\Y.cell? ⟨q,0,none⟩=some (I xa)/\Y.cell? ⟨w.heap.size,5,none⟩=some (.slice (some ⟨b,off,none⟩) m c0)/\Y.cell? ⟨nb,0,none⟩=some (I (m:Int))/\Y.cell? ⟨b,off+mj*2,none⟩=some (I tl)) (UC (by kernel_rfl)) (by kernel_rfl) (by rintro ⟨a,w,h⟩;exact h) ?_;refine aN 0 (.pointer (some ⟨wr.heap.size+1,0,none⟩)) 160 hS0 (fun w' hSw=>?_) ?_
            ·obtain ⟨s0,s1,s2,s3,s4⟩:=hSw
             first|(go_simp;done)|(go_simp;with_reducible rfl)
            refine az ?_;refine aN 1 (.pointer (some ⟨q,0,none⟩)) 161 hS0 (fun w' hSw=>?_) ?_
            ·clear hSw
             first|(go_simp;done)|(go_simp;with_reducible rfl)
            refine az ?_;refine aN 2 (I xa) 162 hS0 (fun w' hSw=>?_) ?_
            ·obtain ⟨s0,s1,s2,s3,s4⟩:=hSw
             first|(go_simp;done)|(go_simp;with_reducible rfl)
            refine az ?_;refine aN 3 (.pointer (some ⟨w.heap.size,5,none⟩)) 163 hS0 (fun w' hSw=>?_) ?_
            ·clear hSw
             first|(go_simp;done)|(go_simp;with_reducible rfl)
            refine az ?_;refine aN 4 (.slice (some ⟨b,off,none⟩) m c0) 164 hS0 (fun w' hSw=>?_) ?_
            ·obtain ⟨s0,s1,s2,s3,s4⟩:=hSw
             first|(go_simp;done)|(go_simp;with_reducible rfl)
            refine az ?_;refine aN 5 (I (m:Int)) 165 hS0 (fun w' hSw=>?_) ?_
            ·obtain ⟨s0,s1,s2,s3,s4⟩:=hSw
             first|(go_simp;done)|(go_simp;with_reducible rfl)
            refine az ?_;refine aN 6 (I (mj:Int)) 166 hS0 (fun w' hSw=>?_) ?_
            ·clear hSw
             first|(go_simp;done)|(go_simp;with_reducible rfl)
            refine az ?_;refine aN 7 (.pointer (some ⟨b,off+mj*2,none⟩)) 167 hS0 (fun w' hSw=>?_) ?_
            ·clear hSw
             first|(go_simp;done)|(go_simp;with_reducible rfl)
            refine az ?_;refine aN 8 (.pointer (some ⟨b,off+mj*2,none⟩)) 168 hS0 (fun w' hSw=>?_) ?_
            ·clear hSw
             first|(go_simp;done)|(go_simp;with_reducible rfl)
            refine az ?_;refine aN 9 (I tl) 169 hS0 (fun w' hSw=>?_) ?_
            ·obtain ⟨s0,s1,s2,s3,s4⟩:=hSw
             first|(go_simp;done)|(go_simp;with_reducible rfl)
            refine az ?_;refine aN 10 (I (xa - tl)) 170 hS0 (fun w' hSw=>?_) ?_
            ·clear hSw
             first|(go_simp;done)|(go_simp;with_reducible rfl)
            refine az ?_;refine aN 11 (.bool (decide (2160<=xa - tl))) 171 hS0 (fun w' hSw=>?_) ?_
            ·clear hSw
             first|(go_simp;done)|(go_simp;with_reducible rfl)
            refine az ?_;refine aY 12 (fun K hK=>?_);have c1:X.drew.cell? ⟨w.heap.size+1,0,none⟩=some (.pointer none):=cell_of_row X _ 0 _ _ _ HR1.out;have f1:X.drew.frozen? ⟨w.heap.size+1,0,none⟩=false:=frozen_of_row X _ 0 _ _ HR1.out;go_simp;obtain ⟨s0,s1,s2,s3,s4⟩:=hS0;have hS1:(fun Y:World=>Y.cell? ⟨pb,0,none⟩=some (.pointer (some ⟨wr.heap.size+1,0,none⟩))/\Y.cell? ⟨q,0,none⟩=some (I xa)/\Y.cell? ⟨w.heap.size,5,none⟩=some (.slice (some ⟨b,off,none⟩) m c0)/\Y.cell? ⟨nb,0,none⟩=some (I (m:Int))/\Y.cell? ⟨b,off+mj*2,none⟩=some (I tl)) (X.drew.setCell ⟨w.heap.size+1,0,none⟩ (.pointer (some ⟨wr.heap.size+1,0,none⟩))):=
             ⟨(cell_far (by omega)).trans s0,(cell_far (by omega)).trans s1,(cell_far (by omega)).trans s2,(cell_far (by omega)).trans s3,(cell_far (by omega)).trans s4⟩
            refine hK.out _ _ hS1 (fun _=>?_);clear hK K;try simp only [Act.put]
            refine aY 13 (fun K hK=>?_);obtain ⟨s0,s1,s2,s3,s4⟩:=hS1;have hr3:(X.drew.setCell ⟨w.heap.size+1,0,none⟩ (.pointer (some ⟨wr.heap.size+1,0,none⟩))).heap[w.heap.size+2]? =some (.cells #[.bool false] 4 (0,0)):=(heap_setCell_other X.drew ⟨w.heap.size+1,0,none⟩ _ _ (by show w.heap.size+2≠w.heap.size+1;omega)).trans HR2.out;have c2:(X.drew.setCell ⟨w.heap.size+1,0,none⟩ (.pointer (some ⟨wr.heap.size+1,0,none⟩))).cell? ⟨w.heap.size+1+1,0,none⟩=some (.bool false):=cell_of_row _ (w.heap.size+2) 0 _ _ _ hr3;have f2:(X.drew.setCell ⟨w.heap.size+1,0,none⟩ (.pointer (some ⟨wr.heap.size+1,0,none⟩))).frozen? ⟨w.heap.size+1+1,0,none⟩=false:=frozen_of_row _ (w.heap.size+2) 0 _ _ hr3;have hr4:(X.setCell ⟨w.heap.size+1,0,none⟩ (.pointer (some ⟨wr.heap.size+1,0,none⟩))).heap[w.heap.size+2]? =some (.cells #[.bool false] 4 (0,0)):=hr3;have c3:(X.setCell ⟨w.heap.size+1,0,none⟩ (.pointer (some ⟨wr.heap.size+1,0,none⟩))).cell? ⟨w.heap.size+1+1,0,none⟩=some (.bool false):=cell_of_row _ (w.heap.size+2) 0 _ _ _ hr4;have f3:(X.setCell ⟨w.heap.size+1,0,none⟩ (.pointer (some ⟨wr.heap.size+1,0,none⟩))).frozen? ⟨w.heap.size+1+1,0,none⟩=false:=frozen_of_row _ (w.heap.size+2) 0 _ _ hr4;clear hr4;have HFN:=ae (Ox (kb:=wr.heap.size+1) (v:=decide (2160<=xa - tl)) (X:=X.drew) HR1.out HR2.out HUX.out.drew);clear hr3;go_simp;have hS2:(fun Y:World=>Y.cell? ⟨pb,0,none⟩=some (.pointer (some ⟨wr.heap.size+1,0,none⟩))/\Y.cell? ⟨q,0,none⟩=some (I xa)/\Y.cell? ⟨w.heap.size,5,none⟩=some (.slice (some ⟨b,off,none⟩) m c0)/\Y.cell? ⟨nb,0,none⟩=some (I (m:Int))/\Y.cell? ⟨b,off+mj*2,none⟩=some (I tl)) ((X.drew.setCell ⟨w.heap.size+1,0,none⟩ (.pointer (some ⟨wr.heap.size+1,0,none⟩))).setCell ⟨w.heap.size+1+1,0,none⟩ (.bool (decide (2160<=xa - tl)))):=
             ⟨(cell_far (by omega)).trans s0,(cell_far (by omega)).trans s1,(cell_far (by omega)).trans s2,(cell_far (by omega)).trans s3,(cell_far (by omega)).trans s4⟩
            refine hK.out _ _ hS2 (fun _=>?_);clear hK K;refine wpAnyH_done (by kernel_rfl) ?_ _
            gi_wp2
            exact ⟨(((show KeepsOthers X X.drew from ⟨Nat.le_refl _,fun _ _ h _=>h⟩).trans (KeepsOthers.setCell _ _ _)).trans (KeepsOthers.setCell _ _ _)).from _,_,rfl,rfl,HFN.out.1,HFN.out.2.1,HFN.out.2.2,fun k hk hn q1 q2=>(UZ (by omega)).trans (HBLK.out X HG2.out k hk hn)⟩
           case done=>
            rintro D xs Y hD ⟨rfl,hn0⟩ ⟨_,hgr⟩ hDK;have HN0:=ae hn0;have hbb:=HBLK.out Y hgr;have vk:=ae hbb;have hsy:=hgr.size;have HUY:=ae (HUP.out Y hgr);have hr1:Y.heap[w.heap.size+1]? =some (.cells #[.pointer none] 140 (0,0)):=(hbb _ (by omega) (by omega)).trans Bi.out.r1;have hr2:Y.heap[w.heap.size+2]? =some (.cells #[.bool false] 4 (0,0)):=(hbb _ (by omega) (by omega)).trans Bi.out.r2;have p0:Y.cell? ⟨pb,0,none⟩=some (.pointer (some ⟨wr.heap.size+1,0,none⟩)):=(nH (hbb pb (by omega) (by omega))).trans (cell_of_row w8 pb 0 _ _ _ HP8.out);have c1:Y.cell? ⟨w.heap.size+1,0,none⟩=some (.pointer none):=cell_of_row Y _ 0 _ _ _ hr1;have c2:Y.cell? ⟨w.heap.size+1+1,0,none⟩=some (.bool false):=cell_of_row Y (w.heap.size+2) 0 _ _ _ hr2;have f1:Y.frozen? ⟨w.heap.size+1,0,none⟩=false:=frozen_of_row Y _ 0 _ _ hr1;have f2:Y.frozen? ⟨w.heap.size+1+1,0,none⟩=false:=frozen_of_row Y (w.heap.size+2) 0 _ _ hr2;have HFN:=ae (Ox (kb:=wr.heap.size+1) (v:=true) (X:=Y) hr1 hr2 HUY.out);have HDK:=ae hDK;clear hbb hr1 hr2 hgr hDK hn0;rw [ha0];go_wp2_with fail;obtain ⟨g1,g2,g3⟩:=HFN.out;have hd1:D≠w.heap.size+1:=by omega
            have hd2:D≠w.heap.size+1+1:=by omega
            have hDY:((Y.setCell ⟨w.heap.size+1,0,none⟩ (pt (wr.heap.size+1))).setCell ⟨w.heap.size+1+1,0,none⟩ (.bool true)).heap[D]? =some (.deferred (some [])):=(heap_setCell_other _ ⟨w.heap.size+1+1,0,none⟩ _ _ hd2).trans ((heap_setCell_other Y ⟨w.heap.size+1,0,none⟩ _ _ hd1).trans HDK.out);refine y9 (v:= .tuple #[pt (wr.heap.size+1), .bool true]) rfl hDY (fH rfl _ _ ⟨w.heap.size+1,0,none⟩ ⟨w.heap.size+1+1,0,none⟩ (pt (wr.heap.size+1)) (.bool true) rfl (wM _ _ _ ?_) rfl (mY _ _ _ ?_)) ⟨⟨_,by rw [HOK0.out (.inr (Su.out.len.trans HN0.out))]⟩,?_⟩
            ·exact cell_of_row _ _ 0 _ _ _ ((World.putObj_heap_other (by omega)).trans g1)
            ·exact cell_of_row _ (w.heap.size+2) 0 _ _ _ ((World.putObj_heap_other (by omega)).trans g2)
            ·exact g3.grown (grownBy_putObj' _ D _) g3.size (fun k e=>by injection e with e;omega)
           case stop=>
            rintro D c pre Y hD ⟨hn0,hpre⟩ ⟨x,rfl,rfl,g1,g2,g3,g4⟩ hDK;have hx1:=hpre;simp only [List.map_cons,List.map_nil,List.cons.injEq,and_true] at hx1;have HOKS:Hid (Cb ⟨cal,st,tr,ho,yr⟩=decide (2160<=x.1.at_ - tl)):=ae (by
             have h9:=HOK1.out hm0 (by rw [Su.out.len];exact hn0);rw [h9,qV.out,xY.out,hx1])
            rw [ha0];refine (wpIn_wide (n:=3)).2 ?_;go_wp2_with fail;refine y9 (v:= .tuple #[pt (wr.heap.size+1), .bool (decide (2160<=x.1.at_ - tl))]) rfl hDK (fH rfl _ _ ⟨w.heap.size+1,0,none⟩ ⟨w.heap.size+1+1,0,none⟩ (pt (wr.heap.size+1)) (.bool (decide (2160<=x.1.at_ - tl))) rfl (wM _ _ _ ?_) rfl (mY _ _ _ ?_)) ⟨⟨_,by rw [HOKS.out]⟩,?_⟩
            ·exact cell_of_row _ _ 0 _ _ _ ((World.putObj_heap_other (by omega)).trans g1)
            ·exact cell_of_row _ (w.heap.size+2) 0 _ _ _ ((World.putObj_heap_other (by omega)).trans g2)
            ·exact g3.grown (grownBy_putObj' _ D _) g3.size (fun k e=>by injection e with e;omega)
end Go.Proofs.YtbaehbbonkljpaaGreatDoor
