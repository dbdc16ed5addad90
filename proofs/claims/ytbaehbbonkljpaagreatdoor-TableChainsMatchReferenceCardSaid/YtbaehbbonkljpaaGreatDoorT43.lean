/- The texts Ei, Fc, Wv, in this order. -/
import Derived.Test.YtbaehbbonkljpaaGreatDoorT41
import Derived.Test.YtbaehbbonkljpaaGreatDoorT42
set_option maxRecDepth 10000
set_option maxHeartbeats 8000000
namespace Go.Proofs.YtbaehbbonkljpaaGreatDoor
open Go Go.RowKit
structure ChX (r:OB)(ts:ag Kv):Prop where
 adm:PS Qm r.key ts
 good:∀x∈ts,RV x
 made:∀x∈ts,YP x.t
 QQ:∀x∈ts,x.t.J5=(r.QQ.toNat:Int)%16
 shape:∀x∈ts,TbS x
theorem ChX.nil {r:OB}:ChX r []:=⟨PS.nil,(fun _ h=>nomatch h),(fun _ h=>nomatch h),(fun _ h=>nomatch h),fun _ h=>nomatch h⟩
theorem ChX.snoc {r:OB}{ts:ag Kv}{k:Nat}{y:Kv}{W:ae}{B:Nat}(h:ChX r ts)(hk:ts.length=k)(hM:YP y.t)(hy:Ld W B y)(hi:y.t.J5=(r.QQ.toNat:Int)%16)(hv:y.t.version=(k:Int)+1)(hl:(∀z,ts[k - 1]? =some z->OE Qm (PN z.t++z.t.Ku)=y.t.prev)/\TbS y)
  {d:ag au}(hd:d.length=32)(hq:QR Qm r.key (PN y.t)=d):ChX r (ts++ [⟨{y.t with Ku:=d},y.A,y.c,y.zs⟩]):=by
 have hg:RV ⟨{y.t with Ku:=d},y.A,y.c,y.zs⟩:=⟨(hM.acD d).good hy.prev hd,hM.up hy.names⟩;have he:PN {y.t with Ku:=d}=PN y.t:=by
  unfold PN;rfl
 have ha:Uk Qm r.key ts {y.t with Ku:=d}=0:=by
  refine X5 ?_ ?_ fun z hz=>?_
  ·rw[he,hq]
  ·rw[hk];exact hv
  ·rw[hk] at hz;exact⟨hl.1 z hz,(h.QQ z (LQ hz)).trans hi.symm⟩
 refine⟨h.adm.snoc ha,fun x hx=>?_,fun x hx=>?_,fun x hx=>?_,fun x hx=>?_⟩
 ·rcases dm.1 hx with h1|h1
  ·exact h.good x h1
  ·obtain rfl:=aY.1 h1;exact hg
 ·rcases dm.1 hx with h1|h1
  ·exact h.made x h1
  ·obtain rfl:=aY.1 h1;exact hM.acD d
 ·rcases dm.1 hx with h1|h1
  ·exact h.QQ x h1
  ·obtain rfl:=aY.1 h1;exact hi
 ·rcases dm.1 hx with h1|h1
  ·exact h.shape x h1
  ·obtain rfl:=aY.1 h1;exact hl.2
theorem Wi.cap {w W:ae}{rc:ax ah}{k c:Nat}{A:aj Addr}{ts:ag Kv}(h:Wi w rc k c A ts W):k<=c:=S9 h.own
theorem Wi.form {w W:ae}{rc:ax ah}{k c:Nat}{A:aj Addr}{ts:ag Kv}(h:Wi w rc k c A ts W):(A=none/\k=0/\c=0)\/∃b off,A=some ⟨b,off,none⟩:=by
 rcases h.own.2 with ⟨hv,_⟩|⟨g,cap,cur,hv,_⟩
 ·injection hv with e0 e1 e2;exact .inl ⟨e0,e1,e2⟩
 ·injection hv with e0 _ _;exact .inr ⟨g,0,e0⟩
def aj2 (w:ae)(r:OB)(e:Ending)(w':ae):Prop:=
 ∃A n c ts,e=.returned (.slice A n c)/\ts.length=n/\n<=5/\n<=c/\LJ w' w'.heap.size A ts/\ChX r ts/\(ajy w.heap.size A ts/\((A=none/\n=0/\c=0)\/∃b off,A=some ⟨b,off,none⟩))/\ai w.heap.size w w'
theorem ala (r:OB)(w:ae)(hr:VT w w.heap.size r):
  Calls Tryz.prog 7 #[.agg r.cells.toArray] w (aj2 w r):=by
 have QJ:=JJ hr.key;have hnl:=hr.len;obtain⟨n,hn⟩:∃n,r.its.length=n:=⟨_,rfl⟩;rw[hn] at hnl;have Zi:=JJ hn;have HRR:=JJ hr;have H0:Hid (Wi w r.cells.toArray 0 0 none [] (w.alloc (.cells r.cells.toArray 29))):=JJ ⟨AV.new w _ _,JM w _,dD _ _ _ _,(fun _ h=>nomatch h),(fun _ h=>nomatch h)⟩;clear hr hn;go_enter Tryz.func7,Tryz.ntmps7;go_wp2_with fail;generalize w.alloc (.cells r.cells.toArray 29)=W0 at H0⊢
 go_loopw [3,4] (fun o i wr=>∃(k c:Nat) (A:aj Addr) (ts:ag Kv),k<=5/\k<=n/\o=.slice A k c/\i=I (k:Nat)/\ts.length=k/\ChX r ts/\Wi w r.cells.toArray k c A ts wr) (fun _ i _=>5 - (intOf i).toNat)
 case atStart=>exact⟨0,0,none,[],by omega,by omega,rfl,rfl,rfl,ChX.nil,H0.out⟩
 case round=>
  clear H0;obtain⟨k,c,A,ts,hk5,hkn,rfl,rfl,htl,hcx,hw⟩:=hrel;have HCX:=JJ hcx;clear hcx;have HX0:=JJ hw;have UG:=JJ htl;clear hw htl;have c33:wr.cell? ⟨w.heap.size,33,none⟩=some (.slice r.A n r.c):=(HX0.out.it.cell 33).trans (by rw[ahp r QJ.out,Zi.out]);by_cases hlt:k<n/\k<5
  ·obtain⟨hln,hl5⟩:=hlt;have i1:(k:Int)<(n:Int):=by omega
   have i2:(k:Int)<5:=by omega
   obtain⟨x,hx⟩:∃x,r.its[k]? =some x:=⟨_,KL (by rw[Zi.out];exact hln)⟩;obtain⟨ib,io,hA,hib,hcl⟩:=HRR.out.row.there (by rw[KW (fun x:ItV=>x.cells.toList) r.its (show∀x∈r.its,x.cells.toList.length=2 from fun _ _=>rfl),Zi.out];omega);have HRA:=JJ hA;have HR:Hid (w.rangeAt ib (io+k*2) x.cells.toList):=JJ (JS.elem (s:=2) (f:=fun x:ItV=>x.cells.toList) (fun _ _=>rfl) hcl k x hx);have HIT:=JJ (HRR.out.each x (LQ hx));rw[hA] at c33;have YL:Hid (∀W,Wi w r.cells.toArray k c A ts W->Calls Tryz.prog 13 #[.slice A k c,.int .u8 (r.QQ.toNat:Int),.agg x.cells] W (apS W k r.QQ x ts)):=JJ (fun W h=>alj x r.QQ A c k ts W ((HIT.out.keep h.lo).more h.lo.size) UG.out (by omega) h.chain (fun y hy=>(h.each y hy).made));clear hx hcl hA;go_upto_block 1 with fail
   go_cut [3,4] (fun o p wx=>p=I (k:Nat)/\∃A2 c2 y,o=.slice A2 (k+1) c2/\ChX r (ts++ [y])/\Wi w r.cells.toArray (k+1) c2 A2 (ts++ [y]) wx)
   case first=>
    go_upto_region 5 with fail;obtain⟨V0,hV0⟩:∃V,wr.drew=V:=⟨_,rfl⟩
    go_cut [5] (fun p wx=>∃vb y,p=.pointer (some ⟨vb,0,none⟩)/\ChX r (ts++ [y])/\MdT w r V0 k c A ts vb y wx)
    case first=>
     clear c33;have hS0:XH w r ib io n k x wr.drew:=XH.of QJ.out Zi.out HRA.out HX0.out.drew.it HX0.out.drew.lo HR.out hib;refine dG (S:=XH w r ib io n k x) (by kernel_rfl) hS0 (fun _=>?_);have XF:=JJ HX0.out.drew;have HB0:Hid (ai wr.drew.heap.size wr.drew wr.drew):=JJ (aW _ _);rw[hV0] at XF hS0 HB0⊢;refine JZ 0 (.pointer (some ⟨w.heap.size,1,none⟩)) 19 hS0 ?_;refine JZ 2 (.slice A k c) 21 hS0 ?_;refine JZ 3 (.pointer (some ⟨w.heap.size,0,none⟩)) 22 hS0 ?_;refine JZ 5 (.pointer (some ⟨w.heap.size,33,none⟩)) 24 hS0 ?_;refine JZ 7 (I (k:Int)) 26 hS0 ?_;refine LG 1 (.agg (cD r.key)) 20 rfl rfl hS0 (bF rfl 24 _ rfl w.heap.size (1) rfl (JO r.key) _ (fun _ h=>h.2.2.1) aK rfl (by simp only[JO,aI,QJ.out];kernel_rfl)) ?_;refine JZ 4 (.int .u8 (r.QQ.toNat:Int)) 23 hS0 ?_;refine JZ 6 (.slice (some ⟨ib,io,none⟩) n r.c) 25 hS0 ?_;refine JZ 8 (.pointer (some ⟨ib,io+k*2,none⟩)) 27 hS0 ?_;refine LG 9 (.agg x.cells) 28 rfl rfl hS0 (bF rfl 48 _ rfl ib (io+k*2) rfl x.cells.toList _ (fun _ h=>h.2.2.2) Tryz.underlying48 rfl (by kernel_rfl)) ?_;refine Qz 10 15 (fun K hK=>?_) (fun K hK=>?_)
     ·go_simp;refine(YL.out V0 XF.out).mono ?_;rintro e W1 ⟨y,rfl,hy1,hm1,hm2,hm3,hm4,hm5,hl1,hb1,hkx⟩;have HM:=JJ (aah (by omega) hm1 hm2 hm3 hm4 hm5);have HCS:Hid (∀d:ag au,d.length=32->QR Qm r.key (PN y.t)=d->ChX r (ts++ [⟨{y.t with Ku:=d},y.A,y.c,y.zs⟩])):=JJ (fun d hd hq=>HCX.out.snoc UG.out HM.out hy1 hm1 hm2 hkx hd hq);clear hkx;have anm:=JJ hy1;have SN:=JJ (show VV V0.heap.size y from hl1.mono HB0.out.size);clear hm1 hm2 hm3 hm4 hm5 hy1 hl1;have HB1:Hid (ai V0.heap.size V0 W1):=JJ (JL HB0.out hb1);have Yy:=JJ (XF.out.grow HB1.out);have hS1:XH w r ib io n k x W1:=XH.of QJ.out Zi.out HRA.out Yy.out.it Yy.out.lo HR.out hib;clear hb1;refine hK.out _ _ hS1 (fun _=>?_);clear hK K;refine KG ?_;refine Qz 11 15 (fun K hK=>?_) (fun K hK=>?_)
      ·go_simp;refine(aae r.key QJ.out y W1 anm.out HM.out).mono ?_;rintro e W2 ⟨d,hd,hdq,rfl,hb2⟩;have TD:=JJ (HCS.out d hd hdq);clear hdq;have HD:=JJ hd;have avD:=JJ (anm.out.grow hb2);clear hd;have HB2:Hid (ai V0.heap.size V0 W2):=JJ (JL HB1.out hb2);have HX2:=JJ (XF.out.grow HB2.out);have hS2:XH w r ib io n k x W2:=XH.of QJ.out Zi.out HRA.out HX2.out.it HX2.out.lo HR.out hib;clear hb2;refine hK.out _ _ hS2 (fun _=>?_);clear hK K;refine KG ?_;refine JZ 12 (.tuple #[.agg (JK {y.t with Ku:=d} (.slice y.A y.zs.length y.c)),.int .i64 0]) 18 hS2 ?_;refine JZ 13 (.agg (JK {y.t with Ku:=d} (.slice y.A y.zs.length y.c))) 31 hS2 ?_;refine JZ 14 (.int .i64 0) 32 hS2 ?_;refine KX 15 (fun K hK=>?_);refine MP (o:=⟨some 5,.alloc 26,_,_,_,none⟩) rfl 26 rfl (JK J8 (.slice none 0 0)) KQ ?_;have HB3:Hid (ai V0.heap.size V0 (W2.alloc (.cells (JK J8 (.slice none 0 0)) 26))):=JJ (JL HB2.out (JM W2 _));have Xz:=JJ (XF.out.grow HB3.out);have hS3:XH w r ib io n k x (W2.alloc (.cells (JK J8 (.slice none 0 0)) 26)):=XH.of QJ.out Zi.out HRA.out Xz.out.it Xz.out.lo HR.out hib;have TF:Hid (AV W2.heap.size 26 (JK J8 (.slice none 0 0)) (W2.alloc (.cells (JK J8 (.slice none 0 0)) 26))):=JJ (AV.new W2 _ _);obtain⟨vb3,aw0,aAE⟩:∃b,W2.heap.size=b/\V0.heap.size<=b:=⟨_,rfl,HB2.out.size⟩;have ars:Hid (MX V0.heap.size (.slice (some ⟨W2.heap.size,0,none⟩) 1 1) (W2.alloc (.cells (JK J8 (.slice none 0 0)) 26)) y):=JJ (MX.of (avD.out.keep (JM W2 _)) (JM W2 (.cells (JK J8 (.slice none 0 0)) 26)).size SN.out (ay _) (ahh W2.heap.size));have ann:=JJ (avD.out.grow (JM W2 (.cells (JK J8 (.slice none 0 0)) 26)));refine hK.out _ _ hS3 (fun _=>?_);clear hK K;refine KG ?_;generalize (W2.alloc (.cells (JK J8 (.slice none 0 0)) 26))=W3 at HB3 Xz hS3 TF ars ann⊢;rw[aw0] at TF ars⊢;clear aw0;have HDI:Hid ((Tryz.prog.info? 26).map (·.size)=some (JK {y.t with Ku:=d} (.slice y.A y.zs.length y.c)).size):=JJ (Ky {y.t with Ku:=d} _ ann.out.prev HD.out);have HDE:Hid ((JK J8 (.slice none 0 0)).size=(JK {y.t with Ku:=d} (.slice y.A y.zs.length y.c)).size):=JJ ((Kq J8 _ rfl rfl).trans (Kq {y.t with Ku:=d} _ ann.out.prev HD.out).symm);refine KX 16 (fun K hK=>?_);refine MQ (o:=⟨none,.store 26 (.tmp 5) (.tmp 31),_,_,_,none⟩) rfl 26 _ _ rfl vb3 (JK {y.t with Ku:=d} (.slice y.A y.zs.length y.c)) rfl rfl 26 (JK J8 (.slice none 0 0)) TF.out.var HDI.out HDE.out (J9 _ _ _ _) ?_;have Y7:Hid (ai V0.heap.size V0 (W3.setRow vb3 (JK {y.t with Ku:=d} (.slice y.A y.zs.length y.c)))):=JJ (JR HB3.out aAE _);have HXF:=JJ (XF.out.grow Y7.out);have hSF:XH w r ib io n k x (W3.setRow vb3 (JK {y.t with Ku:=d} (.slice y.A y.zs.length y.c))):=XH.of QJ.out Zi.out HRA.out HXF.out.it HXF.out.lo HR.out hib;refine hK.out _ _ hSF (fun _=>?_);clear hK K;try simp only[Act.put]
       refine WB 17 (.int .i64 0) 6 hSF ?_;try simp only[Act.put]
       refine dC (by kernel_rfl) ?_ _;have ajJ:Hid (MdT w r V0 k c A ts vb3 ⟨{y.t with Ku:=d},y.A,y.c,y.zs⟩ (W3.setRow vb3 (JK {y.t with Ku:=d} (.slice y.A y.zs.length y.c)))):=JJ (MdT.of XF.out Y7.out (TF.out.SA _) ars.out ann.out HM.out HD.out);go_wp2_with fail;go_meet;exact⟨_,_,rfl,TD.out,ajJ.out⟩
      ·refine MP (o:=⟨some 5,.alloc 26,_,_,_,none⟩) rfl 26 rfl (JK J8 (.slice none 0 0)) KQ ?_;have HB4:Hid (ai V0.heap.size V0 (W1.alloc (.cells (JK J8 (.slice none 0 0)) 26))):=JJ (JL HB1.out (JM W1 _));have HX4:=JJ (XF.out.grow HB4.out);have hS4:XH w r ib io n k x (W1.alloc (.cells (JK J8 (.slice none 0 0)) 26)):=XH.of QJ.out Zi.out HRA.out HX4.out.it HX4.out.lo HR.out hib;have HV4:Hid (AV W1.heap.size 26 (JK J8 (.slice none 0 0)) (W1.alloc (.cells (JK J8 (.slice none 0 0)) 26))):=JJ (AV.new W1 _ _);obtain⟨vb4,aw1,aAF⟩:∃b,W1.heap.size=b/\V0.heap.size<=b:=⟨_,rfl,HB1.out.size⟩;have art:Hid (MX V0.heap.size (.slice (some ⟨W1.heap.size,0,none⟩) 1 1) (W1.alloc (.cells (JK J8 (.slice none 0 0)) 26)) y):=JJ (MX.of (anm.out.keep (JM W1 _)) (JM W1 (.cells (JK J8 (.slice none 0 0)) 26)).size SN.out (ay _) (ahh W1.heap.size));have aro:=JJ (anm.out.grow (JM W1 (.cells (JK J8 (.slice none 0 0)) 26)));refine hK.out _ _ hS4 (fun _=>?_);clear hK K;refine KG ?_;generalize (W1.alloc (.cells (JK J8 (.slice none 0 0)) 26))=W4 at HB4 HX4 hS4 HV4 art aro⊢;rw[aw1] at HV4 art⊢;clear aw1;refine KX 11 (fun K hK=>?_);go_simp;refine(aae r.key QJ.out y W4 aro.out HM.out).mono ?_;rintro e W5 ⟨d,hd,hdq,rfl,hb5⟩;have TD:=JJ (HCS.out d hd hdq);clear hdq;have HD:=JJ hd;have arp:=JJ (aro.out.grow hb5);have azF:=JJ (art.out.grow hb5);clear hd;have VI:Hid (ai V0.heap.size V0 W5):=JJ (JL HB4.out hb5);have Ui:=JJ (XF.out.grow VI.out);have hS5:XH w r ib io n k x W5:=XH.of QJ.out Zi.out HRA.out Ui.out.it Ui.out.lo HR.out hib;have HV5:=JJ (HV4.out.below hb5);clear hb5;refine hK.out _ _ hS5 (fun _=>?_);clear hK K;refine KG ?_;refine JZ 12 (.tuple #[.agg (JK {y.t with Ku:=d} (.slice y.A y.zs.length y.c)),.int .i64 0]) 18 hS5 ?_;refine JZ 13 (.agg (JK {y.t with Ku:=d} (.slice y.A y.zs.length y.c))) 31 hS5 ?_;refine JZ 14 (.int .i64 0) 32 hS5 ?_;have HDI:Hid ((Tryz.prog.info? 26).map (·.size)=some (JK {y.t with Ku:=d} (.slice y.A y.zs.length y.c)).size):=JJ (Ky {y.t with Ku:=d} _ arp.out.prev HD.out);have HDE:Hid ((JK J8 (.slice none 0 0)).size=(JK {y.t with Ku:=d} (.slice y.A y.zs.length y.c)).size):=JJ ((Kq J8 _ rfl rfl).trans (Kq {y.t with Ku:=d} _ arp.out.prev HD.out).symm);refine KX 16 (fun K hK=>?_);refine MQ (o:=⟨none,.store 26 (.tmp 5) (.tmp 31),_,_,_,none⟩) rfl 26 _ _ rfl vb4 (JK {y.t with Ku:=d} (.slice y.A y.zs.length y.c)) rfl rfl 26 (JK J8 (.slice none 0 0)) HV5.out.var HDI.out HDE.out (J9 _ _ _ _) ?_;have Y7:Hid (ai V0.heap.size V0 (W5.setRow vb4 (JK {y.t with Ku:=d} (.slice y.A y.zs.length y.c)))):=JJ (JR VI.out aAF _);have HXF:=JJ (XF.out.grow Y7.out);have hSF:XH w r ib io n k x (W5.setRow vb4 (JK {y.t with Ku:=d} (.slice y.A y.zs.length y.c))):=XH.of QJ.out Zi.out HRA.out HXF.out.it HXF.out.lo HR.out hib;refine hK.out _ _ hSF (fun _=>?_);clear hK K;try simp only[Act.put]
       refine WB 17 (.int .i64 0) 6 hSF ?_;try simp only[Act.put]
       refine dC (by kernel_rfl) ?_ _;have ajJ:Hid (MdT w r V0 k c A ts vb4 ⟨{y.t with Ku:=d},y.A,y.c,y.zs⟩ (W5.setRow vb4 (JK {y.t with Ku:=d} (.slice y.A y.zs.length y.c)))):=JJ (MdT.of XF.out Y7.out (HV5.out.SA _) azF.out arp.out HM.out HD.out);go_wp2_with fail;go_meet;exact⟨_,_,rfl,TD.out,ajJ.out⟩
     ·refine MP (o:=⟨some 5,.alloc 26,_,_,_,none⟩) rfl 26 rfl (JK J8 (.slice none 0 0)) KQ ?_;have HB6:Hid (ai V0.heap.size V0 (V0.alloc (.cells (JK J8 (.slice none 0 0)) 26))):=JJ (JL HB0.out (JM V0 _));have HX6:=JJ (XF.out.grow HB6.out);have hS6:XH w r ib io n k x (V0.alloc (.cells (JK J8 (.slice none 0 0)) 26)):=XH.of QJ.out Zi.out HRA.out HX6.out.it HX6.out.lo HR.out hib;have HV6:Hid (AV V0.heap.size 26 (JK J8 (.slice none 0 0)) (V0.alloc (.cells (JK J8 (.slice none 0 0)) 26))):=JJ (AV.new V0 _ _);obtain⟨vb6,aw2,aAG⟩:∃b,V0.heap.size=b/\V0.heap.size<=b:=⟨_,rfl,HB0.out.size⟩;refine hK.out _ _ hS6 (fun _=>?_);clear hK K;refine KG ?_;generalize (V0.alloc (.cells (JK J8 (.slice none 0 0)) 26))=W6 at HB6 HX6 hS6 HV6⊢;rw[aw2] at HV6⊢;clear aw2;refine KX 10 (fun K hK=>?_);go_simp;refine(YL.out W6 HX6.out).mono ?_;rintro e W7 ⟨y,rfl,hy7,hm1,hm2,hm3,hm4,hm5,hl7,hb7,hkx⟩;have HM:=JJ (aah (by omega) hm1 hm2 hm3 hm4 hm5);have HCS:Hid (∀d:ag au,d.length=32->QR Qm r.key (PN y.t)=d->ChX r (ts++ [⟨{y.t with Ku:=d},y.A,y.c,y.zs⟩])):=JJ (fun d hd hq=>HCX.out.snoc UG.out HM.out hy7 hm1 hm2 hkx hd hq);clear hkx;have avE:=JJ hy7;have SN:=JJ (show VV V0.heap.size y from hl7.mono HB6.out.size);have azG:Hid (MX V0.heap.size (.slice (some ⟨vb6,0,none⟩) 1 1) W7 y):=JJ (MX.of hy7 (ay _) hl7 HB6.out.size (aof HV6.out.lt));clear hm1 hm2 hm3 hm4 hm5 hy7 hl7;have Uf:Hid (ai V0.heap.size V0 W7):=JJ (JL HB6.out hb7);have HX7:=JJ (XF.out.grow Uf.out);have hS7:XH w r ib io n k x W7:=XH.of QJ.out Zi.out HRA.out HX7.out.it HX7.out.lo HR.out hib;have HV7:=JJ (HV6.out.below hb7);clear hb7;refine hK.out _ _ hS7 (fun _=>?_);clear hK K;refine KG ?_;refine KX 11 (fun K hK=>?_);go_simp;refine(aae r.key QJ.out y W7 avE.out HM.out).mono ?_;rintro e W8 ⟨d,hd,hdq,rfl,hb8⟩;have TD:=JJ (HCS.out d hd hdq);clear hdq;have HD:=JJ hd;have arq:=JJ (avE.out.grow hb8);have azH:=JJ (azG.out.grow hb8);clear hd;have HB8:Hid (ai V0.heap.size V0 W8):=JJ (JL Uf.out hb8);have HX8:=JJ (XF.out.grow HB8.out);have hS8:XH w r ib io n k x W8:=XH.of QJ.out Zi.out HRA.out HX8.out.it HX8.out.lo HR.out hib;have HV8:=JJ (HV7.out.below hb8);clear hb8;refine hK.out _ _ hS8 (fun _=>?_);clear hK K;refine KG ?_;refine JZ 12 (.tuple #[.agg (JK {y.t with Ku:=d} (.slice y.A y.zs.length y.c)),.int .i64 0]) 18 hS8 ?_;refine JZ 13 (.agg (JK {y.t with Ku:=d} (.slice y.A y.zs.length y.c))) 31 hS8 ?_;refine JZ 14 (.int .i64 0) 32 hS8 ?_;have HDI:Hid ((Tryz.prog.info? 26).map (·.size)=some (JK {y.t with Ku:=d} (.slice y.A y.zs.length y.c)).size):=JJ (Ky {y.t with Ku:=d} _ arq.out.prev HD.out);have HDE:Hid ((JK J8 (.slice none 0 0)).size=(JK {y.t with Ku:=d} (.slice y.A y.zs.length y.c)).size):=JJ ((Kq J8 _ rfl rfl).trans (Kq {y.t with Ku:=d} _ arq.out.prev HD.out).symm);refine KX 16 (fun K hK=>?_);refine MQ (o:=⟨none,.store 26 (.tmp 5) (.tmp 31),_,_,_,none⟩) rfl 26 _ _ rfl vb6 (JK {y.t with Ku:=d} (.slice y.A y.zs.length y.c)) rfl rfl 26 (JK J8 (.slice none 0 0)) HV8.out.var HDI.out HDE.out (J9 _ _ _ _) ?_;have Y7:Hid (ai V0.heap.size V0 (W8.setRow vb6 (JK {y.t with Ku:=d} (.slice y.A y.zs.length y.c)))):=JJ (JR HB8.out aAG _);have HXF:=JJ (XF.out.grow Y7.out);have hSF:XH w r ib io n k x (W8.setRow vb6 (JK {y.t with Ku:=d} (.slice y.A y.zs.length y.c))):=XH.of QJ.out Zi.out HRA.out HXF.out.it HXF.out.lo HR.out hib;refine hK.out _ _ hSF (fun _=>?_);clear hK K;try simp only[Act.put]
      refine WB 17 (.int .i64 0) 6 hSF ?_;try simp only[Act.put]
      refine dC (by kernel_rfl) ?_ _;have ajJ:Hid (MdT w r V0 k c A ts vb6 ⟨{y.t with Ku:=d},y.A,y.c,y.zs⟩ (W8.setRow vb6 (JK {y.t with Ku:=d} (.slice y.A y.zs.length y.c)))):=JJ (MdT.of XF.out Y7.out (HV8.out.SA _) azH.out arq.out HM.out HD.out);go_wp2_with fail;go_meet;exact⟨_,_,rfl,TD.out,ajJ.out⟩
    case rest=>
     obtain⟨vb,y,rfl,hcy,ht⟩:=hcut;have TD:=JJ hcy;clear hcy;have HT:=JJ ht;have L6:Hid ((Tryz.prog.info? 26).map (·.size)=some (JK y.t (.slice y.A y.zs.length y.c)).size):=JJ (Ky y.t _ ht.each.prev ht.each.Ku);have H68:Hid ((JK y.t (.slice y.A y.zs.length y.c)).size=68):=JJ (Kq y.t _ ht.each.prev ht.each.Ku);have hlt:=ht.md.lt;obtain⟨i0,hi,hq0,hq1,hq2⟩:=dN Sl;have HI:=JJ hi;have Yx:=JJ hq0;have Ri:=JJ hq1;have PR:=JJ hq2;have azC:=JJ ht.each.size;clear ht hi hq0 hq1 hq2 HX0 c33 hV0;go_wp2_with(first
      |((with_reducible refine KO 26 ?_);refine J3 rfl _ _ rfl vb rfl (JK y.t (.slice y.A y.zs.length y.c)) HT.out.var.Nc _ az rfl L6.out ?_)
      |((with_reducible refine Uu 32 ?_);refine WI rfl _ rfl (JK y.t (.slice y.A y.zs.length y.c)) H68.out rfl ?_)
      |(at_builtin;refine jf _ rfl _ _ 32 rfl (w.heap.size+1) 26 i0 (.agg (JK J8 (.slice none 0 0))) 68 112 dM HI.out Yx.out Ri.out PR.out rfl (by decide) (.slice A k c) k (ts.flatMap Kv.cells) rfl (own_below HT.out.md.own (JM wc _)) ⟨wc.heap.size,0,none⟩ 1 1 y.cells rfl azC.out (NM _ _ _ _ rfl) (QW y) (by omega) (by unfold maxLen;omega) (by omega) (by simp;omega) _ rfl ?_;intro gg cap w6 hown6 hgrow6 SX _;have HN:Hid (Wi w r.cells.toArray (k+1) cap (some ⟨gg,0,none⟩) (ts++ [y]) w6):=JJ (HT.out.md.add HT.out.mem HT.out.each rfl hown6 hgrow6 SX);clear hown6 hgrow6 SX))
     go_meet;exact⟨rfl,some ⟨gg,0,none⟩,cap,y,rfl,TD.out,HN.out⟩
   case rest=>
    obtain⟨rfl,A2,c2,y,rfl,hcy,hw2⟩:=hcut;have TD:=JJ hcy;clear hcy;have HW2:=JJ hw2;clear hw2 HX0;go_wp2_with fail;go_roundw
    case rel=>exact⟨k+1,c2,A2,_,by omega,by omega,rfl,by go_num,by rw[KN,UG.out];rfl,TD.out,HW2.out⟩
    case measure=>simp[intOf];omega
  ·have hex:¬(k:Int)<(n:Int)\/((k:Int)<(n:Int)/\¬(k:Int)<5):=by omega
   rcases hex with h1|⟨h1,h2⟩
   all_goals
    go_wp2_with fail;go_ret;exact⟨A,k,c,ts,rfl,UG.out,hk5,HX0.out.cap,HX0.out.chain,HCX.out,⟨HX0.out.fin,HX0.out.form⟩,HX0.out.lo⟩
theorem O3.take {w:ae}{B:Nat}{A:aj Addr}{zs:ag L9}(h:O3 w B A zs)(k:Nat):O3 w B A (zs.take k):=by
 refine⟨JS.pre (ds:=KC (zs.drop k)) ?_,fun x hx=>h.each x (dP hx)⟩;rw[show KC (zs.take k)++KC (zs.drop k)=KC zs by unfold KC;rw[<-eG,dR]];exact h.row
theorem BtO.start {w w1:ae}{lo g n cap:Nat}{ts:ag Kv}(hb:ai w.heap.size w w1)(hge:w.heap.size<=lo)(hown:w1.ownsRow lo 26 68 (.slice (some ⟨g,0,none⟩) n cap) n (ts.flatMap Kv.cells))(he:∀x∈ts,Ld w w.heap.size x):BtO w g ts w1/\n<=cap:=by
 rcases hown.2 with ⟨h1,_⟩|⟨g',cap',cur,hv,hlo,hh,hnc,hcm,_,ht⟩
 ·cases h1
 ·injection hv with h1 _ h3;injection h1 with h1;injection h1 with h1;subst h1 h3;refine⟨⟨hb,aO hge hlo,⟨cur,_,hh,fun j v hv=>?_⟩,he⟩,hnc⟩;rw[<-ht] at hv;have hj:=(MF.1 hv).1;rw[bn] at hj;rw[dK (by omega)] at hv;simpa using hv
theorem aox (t:Tb)(v:Int)(s:ah):MW {t with J5:=v} s=(MW t s).set 0 (I v):=rfl
theorem aoz (t:Tb)(v:Int)(s:ah):MW {t with version:=v} s=(MW t s).set 1 (I v):=rfl
theorem aoA (t:Tb)(v:Int)(s:ah):MW {t with JU:=v} s=(MW t s).set 2 (I v):=rfl
theorem aoB (t:Tb)(z:ag Ze)(s s':ah):MW {t with JX:=z} s'=(MW t s).set 3 s':=rfl
theorem alI (t:Tb)(j:Nat)(u:au)(s:ah)(hp:t.prev.length=32)(hj:j<32):MW {t with prev:=t.prev.set j u} s=(MW t s).set (4+j) (Extern.Stop.cell u):=by
 rw[Ti,Ti,aH,aH];rw[eY _ _ (by simp),kX _ _ (by simp[JO,hp];omega)];simp[JO,List.map_set]
theorem aoy (t:Tb)(j:Nat)(u:au)(s:ah)(hp:t.prev.length=32):MW {t with Ku:=t.Ku.set j u} s=(MW t s).set (36+j) (Extern.Stop.cell u):=by
 rw[Ti,Ti,eY _ _ (by simp[JO,hp])];simp[JO,hp,List.map_set]
def atQ (w:ae)(e:Ending)(w':ae):Prop:=
 ∃A' n' c' os,e=.returned (.slice A' n' c')/\ai w.heap.size w w'/\os.length=n'/\n'<=5/\n'<=c'/\LJ w' w'.heap.size A' os/\(∀y∈os,Ry y)/\((A'=none/\n'=0/\c'=0)\/∃b off,A'=some ⟨b,off,none⟩)
theorem Zx {ts:ag Kv}{i:Nat}{x y:Kv}(h:∀x∈ts,Ry x)(hx:ts[i]? =some x)(hm:Yz x y):∀z∈ts.set i y,Ry z:=by
 intro z hz;rcases jY hz with h1|rfl
 ·exact h z h1
 ·have h2:=h x (LQ hx);cases hm with
  |J5 v _ _=>exact⟨h2.num,h2.len⟩
  |version v _ _=>exact⟨h2.num,h2.len⟩
  |JU v _ _=>exact⟨h2.num,h2.len⟩
  |prev j u _=>exact⟨h2.num,h2.len⟩
  |Ku j u _=>exact⟨h2.num,h2.len⟩
  |JX k hk=>exact⟨by show(x.zs.take k).length<=6;have:=h2.num;rw[bn];omega,fun u hu=>h2.len u (dP hu)⟩
theorem Xb {ts:ag Kv}{i j:Nat}{z:Kv}(h:z∈ts.take i++ts.drop j):z∈ts:=by
 rcases dm.1 h with h|h
 ·exact dP h
 ·exact kY h
theorem XP {w:ae}{base e size n:Nat}{v:ah}{xs:ag ah}(h:w.ownsRow base e size v n xs):∃A c,v=.slice A n c/\n<=c/\((A=none/\n=0/\c=0)\/∃b off,A=some ⟨b,off,none⟩):=by
 rcases h.2 with ⟨rfl,rfl⟩|⟨g,cap,cur,rfl,_,_,h1,_⟩
 ·exact⟨_,_,rfl,ay _,.inl ⟨rfl,rfl,rfl⟩⟩
 ·exact⟨_,_,rfl,h1,.inr ⟨_,_,rfl⟩⟩
theorem arx (w:ae)(A:aj Addr)(n c:Nat)(ts:ag Kv)(hn:ts.length=n)(hn5:n<=5)(hA:(A=none/\n=0/\c=0)\/∃b off,A=some ⟨b,off,none⟩)(hC:LJ w w.heap.size A ts)(hS:∀x∈ts,TbS x)(hT:∀x∈ts,Ry x)(wh y0 y1:Nat)(hwh:wh<256)(hy0:y0<256)(hy1:y1<256):
  Calls Tryz.prog 9 #[.slice A n c,.int .u8 (wh:Int),.agg #[.int .u8 (y0:Int),.int .u8 (y1:Int)]] w (atQ w):=by
 have YK:=JJ hC.each;have HR0:=JJ hC.row;have HL:=JJ hn;have HTS:=JJ hS;have HTR:=JJ hT;have HFL:Hid ((ts.flatMap Kv.cells).length=n*68):=JJ (by rw[KW (s:=68) Kv.cells ts (fun x hx=>(hC.each x hx).size),hn]);have VS:Hid (∀u∈ts.flatMap Kv.cells,u.oneCell'=true):=JJ (fun u hu=>by
  obtain⟨x,_,hx⟩:=jv.1 hu;exact QW x u hx)
 obtain⟨i0,hi,hq0,hq1,hq2⟩:=dN Sl;have HI:=JJ hi;have Yx:=JJ hq0;have Ri:=JJ hq1;have PR:=JJ hq2;have HX:=JJ (AV.new w #[.int .u8 (y0:Int),.int .u8 (y1:Int)] 38);have HB:=JJ (JM w (.cells #[.int .u8 (y0:Int),.int .u8 (y1:Int)] 38));clear hi hq0 hq1 hq2 hn hC hS hT;go_enter Tryz.func9,Tryz.ntmps9;go_upto_region 1 with fail;generalize w.alloc (.cells #[.int .u8 (y0:Int),.int .u8 (y1:Int)] 38)=W0 at HX HB⊢;have HOE:=JJ (NI W0 26 68);have HB1:Hid (ai w.heap.size w (W0.alloc (.cells #[] 26))):=JJ (JL HB.out (JM W0 _));have Yy:=JJ (HX.out.below (JM W0 (.cells #[] 26)));have hw0:=HX.out.lt;by_cases hn0:n=0
 ·subst hn0;have HTN:Hid (ts= []):=JJ (bu HL.out);rcases hA with ⟨rfl,_,rfl⟩|⟨cb,co,rfl⟩
  ·go_wp2_with(at_builtin;refine wpList_append_own_none rfl _ _ 32 rfl W0.heap.size 26 i0 68 dM HI.out _ 0 [] rfl HOE.out rfl ?_);go_ret;exact⟨_,0,0,[],rfl,HB1.out,rfl,aG _,ay _,⟨.inl rfl,fun _ h=>nomatch h⟩,(fun _ h=>nomatch h),.inr ⟨_,_,rfl⟩⟩
  ·go_wp2_with(at_builtin;refine bK _ rfl _ _ 32 rfl W0.heap.size 26 i0 (.agg (JK J8 (.slice none 0 0))) 68 112 dM HI.out Yx.out Ri.out PR.out rfl (by decide) _ 0 [] rfl HOE.out ⟨cb,co,none⟩ 0 c [] rfl rfl (fun _ _ h=>nomatch h) (fun _ h=>nomatch h) (by unfold maxLen;omega) (by omega) (by simp) ?_);intro v' w1 hown hg _ hat;obtain⟨A3,c3,rfl,anT,hf3⟩:=XP hown;have HB2:Hid (ai w.heap.size w w1):=JJ (JL HB.out (KJ (JM W0 _) HOE.out (by simp) hg));clear hown hg hat;go_wp2_with fail;go_ret;exact⟨_,0,c3,[],rfl,HB2.out,rfl,aG _,aG _,⟨.inl rfl,fun _ h=>nomatch h⟩,(fun _ h=>nomatch h),by simpa using hf3⟩
 ·have t0:((n:Int)==0)=false:=by simp;omega
  have t1:(n==0)=false:=by simp;omega
  obtain⟨cb,co,rfl,hcb,hcl⟩:=HR0.out.there (by rw[HFL.out];omega);have HNW:Hid (∀j u,(ts.flatMap Kv.cells)[j]? =some u->(W0.alloc (.cells #[] 26)).cell? ((⟨cb,co,none⟩:Addr).add j)=some u):=JJ (fun j u hu=>by
   rw[show(⟨cb,co,none⟩:Addr).add j=⟨cb,co+j,none⟩ by unfold Addr.add;split<;>simp_all];exact(HB1.out.cell (p:=⟨cb,co+j,none⟩) hcb).trans (hcl j u hu))
  clear hcl;go_wp2_with(at_builtin;refine bK _ rfl _ _ 32 rfl W0.heap.size 26 i0 (.agg (JK J8 (.slice none 0 0))) 68 112 dM HI.out Yx.out Ri.out PR.out rfl (by decide) _ 0 [] rfl HOE.out ⟨cb,co,none⟩ n c (ts.flatMap Kv.cells) rfl HFL.out HNW.out VS.out (by unfold maxLen;omega) (by omega) (by simp) ?_);intro v' w1 hown hg _ hat;try simp only[aT,bU] at hown⊢
  obtain⟨g,cap,rfl,hgl⟩:=LW hown (by omega);have hb1:ai W0.heap.size W0 w1:=KJ (JM W0 _) HOE.out (by simp) hg;obtain⟨hbt,hcap⟩:=BtO.start (JL HB.out hb1) (Nat.le_of_lt hw0) hown YK.out;have HT:=JJ hbt;have HX2:=JJ (HX.out.below hb1);obtain⟨i,hi⟩:∃i:Nat,wh%n=i:=⟨_,rfl⟩;have hin:i<n:=by rw[<-hi];exact jE _ (by omega)
  have him:Int.tmod (wh:Int) (n:Int)=(i:Int):=by rw[aS (by omega),<-hi,Int.natCast_emod]
  have hne:¬(n:Int)=0:=by omega
  obtain⟨x,hx⟩:∃x,ts[i]? =some x:=⟨_,KL (by rw[HL.out];omega)⟩;have UZ:=JJ hx;have PU:=JJ (YK.out x (LQ hx));obtain⟨q,hqm⟩:∃q:Int,Int.tmod (y0:Int) 7=q:=⟨_,rfl⟩;have hqb:0<=q/\q<7:=by rw[<-hqm,aS (by omega)];omega
  have hq6:q=0\/q=1\/q=2\/q=3\/q=4\/q=5\/q=6:=by omega
  have k0:w1.cell? ⟨w.heap.size,0,none⟩=some (.int .u8 (y0:Int)):=HX2.out.cell 0;have k1:w1.cell? ⟨w.heap.size,1,none⟩=some (.int .u8 (y1:Int)):=HX2.out.cell 1;have i0':(0:Int)<=(i:Int):=by omega
  have i1':(i:Int)<(n:Int):=by omega
  have HCAP:=JJ hcap;have HP:=JJ PU.out.prev;have HM:=JJ PU.out.Ku;clear hown hg hat hb1 hbt hi hx HB1 Yy HOE HNW hqb hcap;rcases hq6 with rfl|rfl|rfl|rfl|rfl|rfl|rfl
  ·obtain⟨v,hv⟩:∃v:Int,Int.tmod (y1:Int) 18=v:=⟨_,rfl⟩;have hvb:0<=v/\v<18:=by rw[<-hv,aS (by omega)];omega
   have hvw:IntKind.i64.wrap v=v:=by rw[aA];omega
   have cc:w1.cell? ⟨g,i*68+0,none⟩=some (I x.t.J5):=HT.out.cell UZ.out (by omega);have cf:w1.frozen? ⟨g,i*68+0,none⟩=false:=HT.out.Oo _;have HS:=JJ (HT.out.set (f:=0) (v:=I v) (y:=⟨{x.t with J5:=v},x.A,x.c,x.zs⟩) UZ.out (by omega) (aox x.t v _) ⟨PU.out.names,HP.out,HM.out,PU.out.JX⟩);have HV:=JJ hvb;try simp only[jX] at cc cf HS
   clear hvb;go_wp2_with fail;go_ret;exact⟨_,n,cap,_,rfl,HS.out.lo,by rw[eu];exact HL.out,hn5,HCAP.out,HS.out.chain,Zx HTR.out UZ.out (.J5 v HV.out.1 HV.out.2),.inr ⟨_,_,rfl⟩⟩
  ·obtain⟨v,hv⟩:∃v:Int,Int.tmod (y1:Int) 8=v:=⟨_,rfl⟩;have hvb:0<=v/\v<8:=by rw[<-hv,aS (by omega)];omega
   have hvw:IntKind.i64.wrap v=v:=by rw[aA];omega
   have cc:w1.cell? ⟨g,i*68+1,none⟩=some (I x.t.version):=HT.out.cell UZ.out (by omega);have cf:w1.frozen? ⟨g,i*68+1,none⟩=false:=HT.out.Oo _;have HS:=JJ (HT.out.set (f:=1) (v:=I v) (y:=⟨{x.t with version:=v},x.A,x.c,x.zs⟩) UZ.out (by omega) (aoz x.t v _) ⟨PU.out.names,HP.out,HM.out,PU.out.JX⟩);have HV:=JJ hvb;try simp only at cc cf HS
   clear hvb;go_wp2_with fail;go_ret;exact⟨_,n,cap,_,rfl,HS.out.lo,by rw[eu];exact HL.out,hn5,HCAP.out,HS.out.chain,Zx HTR.out UZ.out (.version v HV.out.1 HV.out.2),.inr ⟨_,_,rfl⟩⟩
  ·obtain⟨v,hv⟩:∃v:Int,Int.tmod (y1:Int) 8=v:=⟨_,rfl⟩;have hvb:0<=v/\v<8:=by rw[<-hv,aS (by omega)];omega
   have hvw:IntKind.i64.wrap v=v:=by rw[aA];omega
   have cc:w1.cell? ⟨g,i*68+2,none⟩=some (I x.t.JU):=HT.out.cell UZ.out (by omega);have cf:w1.frozen? ⟨g,i*68+2,none⟩=false:=HT.out.Oo _;have HS:=JJ (HT.out.set (f:=2) (v:=I v) (y:=⟨{x.t with JU:=v},x.A,x.c,x.zs⟩) UZ.out (by omega) (aoA x.t v _) ⟨PU.out.names,HP.out,HM.out,PU.out.JX⟩);have HV:=JJ hvb;try simp only at cc cf HS
   clear hvb;go_wp2_with fail;go_ret;exact⟨_,n,cap,_,rfl,HS.out.lo,by rw[eu];exact HL.out,hn5,HCAP.out,HS.out.chain,Zx HTR.out UZ.out (.JU v HV.out.1 HV.out.2),.inr ⟨_,_,rfl⟩⟩
  ·obtain⟨j,hj⟩:∃j:Nat,y1%32=j:=⟨_,rfl⟩;have ais:j<32:=by omega
   have hv:Int.tmod (y1:Int) 32=(j:Int):=by rw[aS (by omega)];omega
   have hj0:(0:Int)<=(j:Int):=by omega
   have hj1:(j:Int)<32:=by omega
   obtain⟨u,hu⟩:∃u,x.t.prev[j]? =some u:=⟨_,KL (by have:=PU.out.prev;omega)⟩;have hxc:x.cells[4+j]? =some (Extern.Stop.cell u):=by
    unfold Kv.cells;rw[Ti];rw[aH,bH (by simp),dZ (by simp[JO,PU.out.prev];omega)];simp[JO,hu]
   obtain⟨uv,huv⟩:∃z:Int,(u.toNat:Int)=z:=⟨_,rfl⟩;have cc:w1.cell? ⟨g,i*68+(4+j),none⟩=some (.int .u8 uv):=by rw[<-huv];exact(HT.out.cell UZ.out (by omega)).trans hxc
   have cf:w1.frozen? ⟨g,i*68+(4+j),none⟩=false:=HT.out.Oo _;have HS:=JJ (HT.out.set (f:=4+j) (v:=.int .u8 (bits BinOp.xor IntKind.u8 uv 1)) (y:=⟨{x.t with prev:=x.t.prev.set j (xb 1 u)},x.A,x.c,x.zs⟩) UZ.out (by omega) (by rw[<-huv,<-Y2];exact alI x.t j _ _ HP.out ais) ⟨PU.out.names,by simp[HP.out],HM.out,PU.out.JX⟩);have HJ:=JJ ais;rw[<-fE] at cc cf HS;clear hu hxc huv hj;go_upto_region 16 with fail;go_still_tail 18,(by kernel_rfl);change wpList _ _ _ _ _ w1.drew;go_wp2_with fail;go_ret;exact⟨_,n,cap,_,rfl,HS.out.lo.drew,by rw[eu];exact HL.out,hn5,HCAP.out,(HS.out.chain.grow ((aW _ _).drew)),Zx HTR.out UZ.out (.prev j _ HJ.out),.inr ⟨_,_,rfl⟩⟩
  ·obtain⟨j,hj⟩:∃j:Nat,y1%32=j:=⟨_,rfl⟩;have ais:j<32:=by omega
   have hv:Int.tmod (y1:Int) 32=(j:Int):=by rw[aS (by omega)];omega
   have hj0:(0:Int)<=(j:Int):=by omega
   have hj1:(j:Int)<32:=by omega
   obtain⟨u,hu⟩:∃u,x.t.Ku[j]? =some u:=⟨_,KL (by have:=PU.out.Ku;omega)⟩;have hxc:x.cells[36+j]? =some (Extern.Stop.cell u):=by
    unfold Kv.cells;rw[Ti];rw[bH (by simp[JO,PU.out.prev])];simp[JO,PU.out.prev,hu]
   obtain⟨uv,huv⟩:∃z:Int,(u.toNat:Int)=z:=⟨_,rfl⟩;have cc:w1.cell? ⟨g,i*68+(36+j),none⟩=some (.int .u8 uv):=by rw[<-huv];exact(HT.out.cell UZ.out (by omega)).trans hxc
   have cf:w1.frozen? ⟨g,i*68+(36+j),none⟩=false:=HT.out.Oo _;have HS:=JJ (HT.out.set (f:=36+j) (v:=.int .u8 (bits BinOp.xor IntKind.u8 uv 1)) (y:=⟨{x.t with Ku:=x.t.Ku.set j (xb 1 u)},x.A,x.c,x.zs⟩) UZ.out (by omega) (by rw[<-huv,<-Y2];exact aoy x.t j _ _ HP.out) ⟨PU.out.names,HP.out,by simp[HM.out],PU.out.JX⟩);have HJ:=JJ ais;rw[<-fE] at cc cf HS;clear hu hxc huv hj;go_upto_region 18 with fail;go_still_tail 18,(by kernel_rfl);change wpList _ _ _ _ _ w1.drew;go_wp2_with fail;go_ret;exact⟨_,n,cap,_,rfl,HS.out.lo.drew,by rw[eu];exact HL.out,hn5,HCAP.out,(HS.out.chain.grow ((aW _ _).drew)),Zx HTR.out UZ.out (.Ku j _ HJ.out),.inr ⟨_,_,rfl⟩⟩
  ·obtain⟨hz0,hz1,hz2⟩:=HTS.out x (LQ UZ.out);obtain⟨xt,xA,xc,xzs⟩:=x;simp only at hz0 hz1 hz2;obtain⟨zl,hzl⟩:∃m,xzs.length=m:=⟨_,rfl⟩;rw[hzl] at hz0 hz1;obtain⟨k,hk⟩:∃k:Nat,y1%(zl+1)=k:=⟨_,rfl⟩;have hkl:k<=zl:=by have:=jE y1 (show 0<zl+1 by omega);omega
   have hkm:Int.tmod (y1:Int) ((zl:Int)+1)=(k:Int):=by rw[aS (by omega),<-hk,Int.natCast_emod];rfl
   have hne1:¬(zl:Int)+1=0:=by omega
   have hw1:IntKind.i64.wrap ((zl:Int)+1)=(zl:Int)+1:=by rw[aA];omega
   have hw2:IntKind.i64.wrap (y1:Int)=(y1:Int):=by rw[aA];omega
   have hw3:IntKind.i64.wrap (k:Int)=(k:Int):=by rw[aA];omega
   have cc:w1.cell? ⟨g,i*68+3,none⟩=some (.slice xA zl xc):=by rw[<-hzl];exact HT.out.cell UZ.out (by omega)
   have cf:w1.frozen? ⟨g,i*68+3,none⟩=false:=HT.out.Oo _;have hyc:(⟨{xt with JX:=xt.JX.take k},xA,xc,xzs.take k⟩:Kv).cells=(⟨xt,xA,xc,xzs⟩:Kv).cells.set 3 (.slice xA k xc):=by
    have:(xzs.take k).length=k:=by rw[bn];omega
    unfold Kv.cells;rw[this];exact aoB xt _ _ _
   have HS:=JJ (HT.out.set (f:=3) (v:=.slice xA k xc) (y:=⟨{xt with JX:=xt.JX.take k},xA,xc,xzs.take k⟩) UZ.out (by omega) hyc ⟨by show xt.JX.take k=_;rw[show xt.JX=xzs.map (·.e) from PU.out.names,lZ],HP.out,HM.out,PU.out.JX.take k⟩);have QJ:Hid (k<=xzs.length):=JJ (by rw[hzl];exact hkl);have q0:(0:Int)<=(k:Int):=by omega
   have q1:(k:Int)<=(zl:Int):=by omega
   have q2:(k:Int)<=(xc:Int):=by omega
   have q3:¬(xc:Int)<(k:Int):=by omega
   clear hk hyc hzl;rcases hz2 with ⟨rfl,rfl⟩|⟨zb,zo,rfl⟩
   ·obtain rfl:zl=0:=by omega
    obtain rfl:k=0:=by omega
    have e1:IntKind.i64.wrap 1=1:=by decide
    have e2:Int.tmod (y1:Int) 1=0:=by simp
    clear hkm hne1 hw1 hw3 q0 q1 q2 q3 hz1 hkl;go_upto_region 20 with fail;go_still_tail 21,(by kernel_rfl);change wpList _ _ _ _ _ w1.drew;go_wp2_with fail;go_ret;exact⟨_,n,cap,_,rfl,HS.out.lo.drew,by rw[eu];exact HL.out,hn5,HCAP.out,(HS.out.chain.grow ((aW _ _).drew)),Zx HTR.out UZ.out (.JX 0 QJ.out),.inr ⟨_,_,rfl⟩⟩
   ·go_upto_region 20 with fail;go_still_tail 21,(by kernel_rfl);change wpList _ _ _ _ _ w1.drew;go_wp2_with fail;go_ret;exact⟨_,n,cap,_,rfl,HS.out.lo.drew,by rw[eu];exact HL.out,hn5,HCAP.out,(HS.out.chain.grow ((aW _ _).drew)),Zx HTR.out UZ.out (.JX k QJ.out),.inr ⟨_,_,rfl⟩⟩
  ·have HTC:=JJ HT.out.chain;have ap4:(ts.take i).length=i:=by rw[bn,HL.out];omega
   have HN7:Hid (((ts.take i).flatMap Kv.cells).length=i*68):=JJ (by rw[KW (s:=68) Kv.cells (ts.take i) (fun x hx=>(YK.out x (dP hx)).size),ap4]);have HC7:Hid (∀W,ai w1.heap.size w1 W->∀j u,((ts.take i).flatMap Kv.cells)[j]? =some u->W.cell? ((⟨g,0,none⟩:Addr).add j)=some u):=JJ (fun W hb j u hu=>by
    have h1:=(JS.pre (ds:=(ts.drop i).flatMap Kv.cells) (by rw[<-eG,dR];exact HTC.out.row)).there (by have:=(MF.1 hu).1;omega);obtain⟨b2,o2,e,hb2,hc2⟩:=h1;injection e with e;injection e with e1 e2;subst e1 e2;rw[show(⟨g,0,none⟩:Addr).add j=⟨g,0+j,none⟩ by unfold Addr.add;split<;>simp_all];exact(hb.cell (p:=⟨g,0+j,none⟩) hb2).trans (hc2 j u hu))
   have HO7:Hid (∀u∈(ts.take i).flatMap Kv.cells,u.oneCell'=true):=JJ (fun u hu=>by
    obtain⟨z,_,hz⟩:=jv.1 hu;exact QW z u hz)
   have i2:(i:Int)<=(cap:Int):=by have:=HCAP.out;omega
   have i3:¬(cap:Int)<(i:Int):=by omega
   clear ap4;go_upto_region 8 with (at_builtin;refine bK _ rfl _ _ 32 rfl w1.heap.size 26 i0 (.agg (JK J8 (.slice none 0 0))) 68 112 dM HI.out Yx.out Ri.out PR.out rfl (by decide) (.slice none 0 0) 0 [] rfl (dD _ _ _ _) ⟨g,0,none⟩ i cap ((ts.take i).flatMap Kv.cells) rfl HN7.out (HC7.out w1 (aW _ _)) HO7.out (by unfold maxLen;omega) (by omega) (ay _) ?_);intro v2 w2 hown2 hg2 _ _;obtain⟨A2,c2,rfl⟩:=LU hown2;have hb2:ai w1.heap.size w1 w2:=⟨hg2.os,hg2.tape,hg2.output,hg2.size,fun k hk=>hg2.block k hk (by simp[Value.ownBlock])⟩;have SI:=JJ hown2;have Rx:=JJ hb2;clear hown2 hg2 hb2 HC7 HN7 HO7;have i4:IntKind.i64.wrap ((i:Int)+1)=(i:Int)+1:=by rw[aA];omega
   have i5:(i:Int)+1<=(n:Int):=by omega
   have i6:¬(n:Int)<(i:Int)+1:=by omega
   have i7:(0:Int)<=(i:Int)+1:=by omega
   have hdl:(ts.drop (i+1)).length=n - (i+1):=by rw[iH,HL.out]
   have HN8:Hid (((ts.drop (i+1)).flatMap Kv.cells).length=(n - (i+1))*68):=JJ (by rw[KW (s:=68) Kv.cells (ts.drop (i+1)) (fun x hx=>(YK.out x (kY hx)).size),hdl]);have HO8:Hid (∀u∈(ts.drop (i+1)).flatMap Kv.cells,u.oneCell'=true):=JJ (fun u hu=>by
    obtain⟨z,_,hz⟩:=jv.1 hu;exact QW z u hz)
   have HC8:Hid (∀j u,((ts.drop (i+1)).flatMap Kv.cells)[j]? =some u->w2.cell? ((⟨g,(i+1)*68,none⟩:Addr).add j)=some u):=JJ (fun j u hu=>by
    have hsp:ts.flatMap Kv.cells=(ts.take (i+1)).flatMap Kv.cells++(ts.drop (i+1)).flatMap Kv.cells:=by rw[<-eG,dR]
    have htk:((ts.take (i+1)).flatMap Kv.cells).length=(i+1)*68:=by rw[KW (s:=68) Kv.cells (ts.take (i+1)) (fun x hx=>(YK.out x (dP hx)).size),bn,HL.out,lD (by omega)]
    have h2:(ts.flatMap Kv.cells)[(i+1)*68+j]? =some u:=by rw[hsp,bH (by omega),htk,Nat.add_sub_cancel_left];exact hu
    obtain⟨b2,o2,e,hb2,hc2⟩:=HTC.out.row.there (by have:=(MF.1 h2).1;omega);injection e with e;injection e with e1 e2;subst e1 e2;have h3:=hc2 _ _ h2;rw[aT] at h3;rw[show(⟨g,(i+1)*68,none⟩:Addr).add j=⟨g,(i+1)*68+j,none⟩ by unfold Addr.add;split<;>simp_all];exact(Rx.out.cell (p:=⟨g,(i+1)*68+j,none⟩) hb2).trans h3)
   clear hdl;by_cases hcc:cap=i+1
   ·have hni:n=i+1:=by have:=HCAP.out;omega
    subst hni;subst hcc;clear HN8 HC8 HO8;go_wp2_with(at_builtin;refine bK _ rfl _ _ 32 rfl w1.heap.size 26 i0 (.agg (JK J8 (.slice none 0 0))) 68 112 dM HI.out Yx.out Ri.out PR.out rfl (by decide) (.slice A2 i c2) i ((ts.take i).flatMap Kv.cells) rfl SI.out ⟨g,0,none⟩ 0 0 [] rfl rfl (fun _ _ h=>nomatch h) (fun _ h=>nomatch h) (by unfold maxLen;omega) (by omega) Rx.out.size ?_);intro v3 w3 hown3 hg3 _ _;obtain⟨A3,c3,rfl,anT,hf3⟩:=XP hown3;have VJ:=JJ hown3;have Y7:Hid (ai w.heap.size w w3):=JJ (KJ (HT.out.lo.trans (Rx.out.mono HT.out.lo.size)) (KD SI.out HT.out.lo.size) (aO HT.out.lo.size Rx.out.size) hg3);clear hown3 hg3;go_wp2_with fail;go_ret;exact⟨A3,_,c3,ts.take i++ts.drop (i+1),rfl,Y7.out,(by first|(simp[HL.out];done)|(simp[HL.out];omega)),by omega,anT,⟨JS.Le (by rw[dW (by rw[HL.out];exact ay _),iq];have h:=VJ.out;simpa using h),fun z hz=>(YK.out z (Xb hz)).grow Y7.out⟩,fun z hz=>HTR.out z (Xb hz),hf3⟩
   ·go_wp2_with(at_builtin;refine bK _ rfl _ _ 32 rfl w1.heap.size 26 i0 (.agg (JK J8 (.slice none 0 0))) 68 112 dM HI.out Yx.out Ri.out PR.out rfl (by decide) (.slice A2 i c2) i ((ts.take i).flatMap Kv.cells) rfl SI.out ⟨g,(i+1)*68,none⟩ (n - (i+1)) (cap - (i+1)) ((ts.drop (i+1)).flatMap Kv.cells) rfl HN8.out HC8.out HO8.out (by unfold maxLen;omega) (by omega) Rx.out.size ?_);intro v3 w3 hown3 hg3 _ _;obtain⟨A3,c3,rfl,anT,hf3⟩:=XP hown3;have VJ:=JJ hown3;have Y7:Hid (ai w.heap.size w w3):=JJ (KJ (HT.out.lo.trans (Rx.out.mono HT.out.lo.size)) (KD SI.out HT.out.lo.size) (aO HT.out.lo.size Rx.out.size) hg3);clear hown3 hg3;go_wp2_with fail;go_ret;exact⟨A3,_,c3,ts.take i++ts.drop (i+1),rfl,Y7.out,(by first|(simp[HL.out];done)|(simp[HL.out];omega)),by omega,anT,⟨JS.Le (by rw[eG];exact VJ.out),fun z hz=>(YK.out z (Xb hz)).grow Y7.out⟩,fun z hz=>HTR.out z (Xb hz),hf3⟩
end Go.Proofs.YtbaehbbonkljpaaGreatDoor
