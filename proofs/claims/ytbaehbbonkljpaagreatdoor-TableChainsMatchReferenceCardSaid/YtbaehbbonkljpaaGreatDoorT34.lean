/- The texts Ee, Ef, Eg, in this order. -/
import Derived.Test.YtbaehbbonkljpaaGreatDoorT26
import Derived.Test.YtbaehbbonkljpaaGreatDoorT33
set_option maxRecDepth 10000
set_option maxHeartbeats 8000000
namespace Go.Proofs.YtbaehbbonkljpaaGreatDoor
open Go Go.RowKit
theorem alq (bs:ag au):(Q4 bs).length=bs.length+9+acy bs.length:=by
 unfold Q4 aeq;rw[KN,Qy,upto_length,ahj];omega
theorem aft {ks ss:ag Int}{xs:ag au}(h:ss.length=8):∀z∈Zr ks ss xs,0<=z/\z<4294967296:=by
 unfold Zr;have hl:=XQ ks (NC xs 64) ss h 64;generalize rT ks (NC xs 64) ss 64=ts at hl;obtain⟨a0,a1,a2,a3,a4,a5,a6,a7,rfl⟩:=ZF h;obtain⟨b0,b1,b2,b3,b4,b5,b6,b7,rfl⟩:=ZF hl;intro z hz;simp[sumT] at hz;rcases hz with rfl|rfl|rfl|rfl|rfl|rfl|rfl|rfl<;>omega
theorem ahz (n c:Nat)(A:aj Addr)(bs:ag au)(w:ae)(hl:bs.length=n)(h0:0<n)(hn:n<=200000)(hb:JS w w.heap.size A (bs.map Extern.Stop.cell)):
  Calls Tryz.prog 61 #[.slice A n c] w (Gives (.agg (cD (OE Qm bs))) w):=by
 have H0:=JJ (SmS.start w (List.replicate 8 0));have HB:=JJ hb;have HL:=JJ hl;obtain⟨u8,hu8⟩:∃l:ag Int,List.replicate 8 0=l:=⟨_,rfl⟩;have HU8:Hid ((Tryz.prog.info? 155).map (fun i=>(i.zero,i.size))=some (some (.agg (JP u8)),(JP u8).size)):=JJ (by rw[<-hu8];exact Vt);have HU9:Hid ((JP u8).size=(JP iv3).size):=JJ (by rw[<-hu8,KH,KH];simp[iv3]);have HI8:Hid ((Tryz.prog.info? 155).map (·.size)=some (JP iv3).size):=JJ (by kernel_rfl);rw[hu8] at H0;have HP:Hid (∀W,ai w.heap.size w W->Calls Tryz.prog 80 #[.slice A n c] W (BsQ W.heap.size (.slice none 0 0) W (Q4 bs))):=JJ fun W h=>alr n c A bs W hl h0 hn ((hb.keep h).more h.size);clear hb hl hu8;have HPB:Hid ((Q4 bs).length=n+9+acy n):=JJ (by rw[alq,HL.out]);have hpl:=ahk n;have hpm:=ad7 n;obtain⟨N,hN⟩:∃N,n+9+acy n=N:=⟨_,rfl⟩;have HN:=JJ hN;have hNm:N%64=0:=by omega
 have hNb:N<=200100:=by omega
 have hN0:0<N:=by omega
 clear hpl hpm hN;go_enter Tryz.func61,Tryz.ntmps61;go_upto_region 2 with (first
  |((with_reducible refine Kz 24 ?_);refine JW rfl _ rfl (cD d32) TN ?_)
  |((with_reducible refine Kz 155 ?_);refine JW rfl _ rfl (JP u8) HU8.out ?_)
  |((with_reducible refine KZ 155 ?_);refine aB rfl _ _ _ rfl (w.heap.size+1) (JP iv3) (dA (fun b=>Value.pointer (some ⟨b,0,none⟩)) (RZ w _)) rfl 155 (JP u8) (bW w _ _) HI8.out HU9.out (KP _) ?_))
 rw[RZ w];generalize ((w.alloc (.cells (cD d32) 24)).alloc (.cells (JP u8) 155)).setRow (w.heap.size+1) (JP iv3)=W1 at H0⊢;clear HU8 HU9 HI8;go_wp2_with fail;refine(HP.out _ H0.out.lo).mono ?_;rintro e w2 ⟨A2,n2,c2,hn2,rfl,hown,hk⟩;have hpl:=HPB.out;obtain⟨ps,hps⟩:∃l,Q4 bs=l:=⟨_,rfl⟩;rw[hps] at hpl hn2 hown;have HPS:=JJ hps;clear hps;have hw1:=H0.out.s.lt;have hb2:ai W1.heap.size W1 w2:=hk.Oz;have H2:=JJ (H0.out.grow hb2);rw[HN.out] at hpl;obtain rfl:n2=N:=by omega
 obtain⟨pb,cur,rfl,hlo,hnc,hcm,hav,akJ⟩:=abE hown hN0;have YJ:=JJ hav;have HCU:=JJ akJ;have hpb:w.heap.size+1<pb:=by omega
 have HPL:Hid (ps.length=n2):=JJ hpl;have hcI:(c2:Int)<=9223372036854775807:=by unfold maxLen at hcm;omega
 clear hav akJ hcm hb2 hown hk H0 HP hn2 hpl;go_wp2_with fail
 go_loopw [5] (fun i wr=>∃(k:Nat) (zs:ag Int),k%64=0/\k<=n2/\i=I k/\zs.length=8/\zs=TQ Qm Ru (upto (chunk ps) (k / 64))/\(∀z∈zs,0<=z/\z<4294967296)/\SmS w zs wr/\AV pb 5 cur wr) (fun i _=>n2 - (intOf i).toNat)
 case atStart=>exact⟨0,iv3,rfl,aG _,rfl,rfl,rfl,by decide,H2.out,YJ.out⟩
 case round=>
  obtain⟨k,zs,hkm,hk,rfl,hzl,hzf,hzb,hs,hav⟩:=hrel;have HZF:=JJ hzf;have HZB:=JJ hzb;clear hzf hzb;have HS:=JJ hs;have HA:=JJ hav;have HZ:=JJ hzl;clear hs hav hzl H2 YJ;by_cases hlt:(k:Int)<(n2:Int)
  ·have afM:k+64<=n2:=by omega
   obtain⟨k2,hk2⟩:∃q:Nat,k+64=q:=⟨_,rfl⟩;have g1:(k:Int)+64=(k2:Int):=by omega
   have g2:(k:Int)<=(k2:Int):=by omega
   have g3:(k2:Int)<=(c2:Int):=by omega
   have g4:IntKind.i64.wrap (k2:Int)=(k2:Int):=by rw[aA];omega
   have g5:(k2:Int) - (k:Int)=64:=by omega
   have OZ:=JJ hk2;have hck:¬c2=k:=by omega
   have HRU:Hid (MS wr.drew (w.heap.size+1) (JP zs)):=JJ HS.out.drew.s.Nc;have L6:Hid ((Tryz.prog.info? 155).map (·.size)=some (JP zs).size):=JJ (by rw[KH,HZ.out];kernel_rfl);go_wp2_with fail;refine wp_region_still_tail 6 (by kernel_rfl) (by kernel_rfl) ?_;simp only[jr,lS,jZ,kR];refine YF rfl _ _ rfl (w.heap.size+1) rfl (JP zs) HRU.out _ kD rfl L6.out ?_;repeat still_step
   refine nP ?_;change wpList _ _ _ _ _ wr.drew;go_wp2_with fail;rw[show k2 - k=64 by omega];have HXL:Hid (((ps.drop k).take 64).length=64):=JJ (by have:=HPL.out;rw[bn,iH];omega);have HXC:Hid (∀j,j<64->wr.drew.cell? ⟨pb,k+j,none⟩=some (Extern.Stop.cell (((ps.drop k).take 64)[j]?.getD 0))):=JJ (fun j hj=>(HA.out.cell (k+j)).trans ((HCU.out (k+j) (by omega)).trans (by rw[dK hj,jL])));obtain⟨xs,hxs⟩:∃l,(ps.drop k).take 64=l:=⟨_,rfl⟩;rw[hxs] at HXL HXC;have Ud:=JJ hxs;clear hxs;refine(asR wr.drew pb k (c2 - k) zs HZ.out HZB.out xs HXL.out HA.out.lt HXC.out).mono ?_;rintro e w4 ⟨rfl,hb4⟩;obtain⟨zs2,hzq⟩:∃l,Zr Qm zs xs=l:=⟨_,rfl⟩;rw[hzq];have hz2:zs2.length=8:=by rw[<-hzq];exact X4 _ _ _ HZ.out
   have HZQ:=JJ hzq;clear hzq;have HS4:=JJ (HS.out.drew.grow hb4);have HA4:=JJ (HA.out.drew.below hb4);have HZ2:=JJ hz2;have SL:Hid ((Tryz.prog.info? 155).map (·.size)=some (JP zs2).size):=JJ (by rw[KH,HZ2.out];kernel_rfl);have WV:Hid ((JP zs).size=(JP zs2).size):=JJ (by rw[KH,KH,HZ.out,HZ2.out]);clear hb4 hz2 HS HA HRU;go_wp2_with((with_reducible refine KZ 155 ?_);refine aB rfl _ _ _ rfl (w.heap.size+1) (JP zs2) rfl rfl 155 (JP zs) HS4.out.s.var SL.out WV.out (KP _) ?_);go_roundw
   case rel=>exact⟨k2,zs2,by have:=OZ.out;omega,by have:=OZ.out;omega,rfl,HZ2.out,by rw[<-HZQ.out,HZF.out,show k2 / 64=k / 64+1 by have:=OZ.out;omega,upto_succ,Wn,<-Ud.out];unfold chunk;rw[show 64*(k / 64)=k by omega],by rw[<-HZQ.out];exact aft HZ.out,HS4.out.row _,HA4.out.UA (by omega) _⟩
   case measure=>simp[intOf];omega
  ·have avK:Hid (Value.agg (cD d32)=.agg #[.int .u8 0,.int .u8 0,.int .u8 0,.int .u8 0,.int .u8 0,.int .u8 0,.int .u8 0,.int .u8 0,.int .u8 0,.int .u8 0,.int .u8 0,.int .u8 0,.int .u8 0,.int .u8 0,.int .u8 0,.int .u8 0,.int .u8 0,.int .u8 0,.int .u8 0,.int .u8 0,.int .u8 0,.int .u8 0,.int .u8 0,.int .u8 0,.int .u8 0,.int .u8 0,.int .u8 0,.int .u8 0,.int .u8 0,.int .u8 0,.int .u8 0,.int .u8 0]):=JJ rfl;have HID:Hid ((Tryz.prog.info? 24).map (·.size)=some (cD d32).size):=JJ (by kernel_rfl);clear HA;have hwr:=HS.out.s.lt;go_upto_region 8 with (first
    |((with_reducible refine Kz 24 ?_);refine JW rfl _ rfl (cD d32) TN ?_)
    |((with_reducible refine KZ 24 ?_);refine aB rfl _ _ _ rfl wr.heap.size (cD d32) rfl avK.out.symm 24 (cD d32) (aF _ _) HID.out rfl (Uo _) ?_))
   have HO:Hid (AV wr.heap.size 24 (cD d32) ((wr.alloc (.cells (cD d32) 24)).setRow wr.heap.size (cD d32))):=JJ ((AV.new wr _ _).SA _);have UO:Hid (SmS w zs ((wr.alloc (.cells (cD d32) 24)).setRow wr.heap.size (cD d32))):=JJ ((HS.out.grow (JM wr _)).arF _ hwr _);generalize (wr.alloc (.cells (cD d32) 24)).setRow wr.heap.size (cD d32)=W5 at HO UO⊢;obtain⟨ob,hob⟩:∃b,wr.heap.size=b:=⟨_,rfl⟩;rw[hob] at HO hwr⊢;have Y9:Hid (k=n2):=JJ (by omega);clear hob avK HS hlt;go_wp2_with fail
   go_loopw [7] (fun i wx=>∃(k:Nat) (ds:ag au),k<=32/\i=I k/\ds.length=32/\ds=ML zs k/\SmS w zs wx/\AV ob 24 (cD ds) wx) (fun i _=>32 - (intOf i).toNat)
   case atStart=>exact⟨0,d32,aG _,rfl,Xe,rfl,UO.out,HO.out⟩
   case round=>
    clear UO HO;obtain⟨j,ds,hj,rfl,hdl,hds,hs,ho⟩:=hrel;have HDS:=JJ hds;clear hds;have HS:=JJ hs;have HO:=JJ ho;have HDL:=JJ hdl;clear hs ho hdl;by_cases hlt:(j:Int)<32
    ·obtain⟨q,hq⟩:∃q:Nat,j / 4=q:=⟨_,rfl⟩;obtain⟨r,hr⟩:∃r:Nat,j%4=r:=⟨_,rfl⟩;have hdq:Int.tdiv (j:Int) 4=(q:Int):=by rw[gK (by omega)];omega
     have hmr:Int.tmod (j:Int) 4=(r:Int):=by rw[aS (by omega)];omega
     have aEf:(j:Int) / 4=(q:Int):=by omega
     have aEo:(j:Int)%4=(r:Int):=by omega
     have hq8:(q:Int)<8:=by omega
     have hr4:(r:Int)<4:=by omega
     obtain⟨s,hs⟩:∃s:Int,24 - 8*(r:Int)=s:=⟨_,rfl⟩;have hs0:0<=s:=by omega
     have hs1:s<=24:=by omega
     obtain⟨z,hz⟩:∃z,zs[q]?.getD 0=z:=⟨_,rfl⟩;have cS:wr.cell? ⟨w.heap.size+1,q,none⟩=some (.int .u32 z):=(HS.out.s.cell q).trans (by rw[KT _ _ (by rw[HZ.out];omega),hz]);obtain⟨o0,ho0⟩:∃x:au,ds[j]?.getD 0=x:=⟨_,rfl⟩;have cO:wr.cell? ⟨ob,j,none⟩=some (Extern.Stop.cell o0):=(HO.out.cell j).trans (by rw[arA _ _ (by rw[HDL.out];omega),ho0]);have cf:=HO.out.Oo j;have HOE:Hid (ds.set j (byteOf (z / 2 ^ s.toNat))=ML zs (j+1)):=JJ (by
      show _=(ML zs j).set j (byteOf ((zs[j / 4]?.getD 0) / 2 ^ (24 - 8*(j%4))));rw[HDS.out,hq,hz,hr,show s.toNat=24 - 8*r by omega])
     clear hq hr hz ho0;go_wp2_with fail;go_roundw
     case rel=>exact⟨j+1,ds.set j (byteOf (z / 2 ^ s.toNat)),by omega,by go_num,by rw[eu,HDL.out],HOE.out,HS.out.far ob hwr _ _,by have h:=HO.out.put j (Extern.Stop.cell (byteOf (z / 2 ^ s.toNat)));rw[arB,LH] at h;exact h⟩
     case measure=>simp[intOf];omega
    ·have HRW:Hid (MS wr ob (cD ds)):=JJ HO.out.Nc;have SL:Hid ((Tryz.prog.info? 24).map (·.size)=some (cD ds).size):=JJ (by rw[OW,HDL.out];kernel_rfl);have PT:Hid ((cD d32).size=(cD ds).size):=JJ (by rw[OW,OW,HDL.out,Xe]);go_wp2_with(first
      |((with_reducible refine KO 24 ?_);refine J3 rfl _ _ rfl ob rfl (cD ds) HRW.out _ aK rfl SL.out ?_)
      |((with_reducible refine KZ 24 ?_);refine aB rfl _ _ _ rfl w.heap.size (cD ds) rfl rfl 24 (cD d32) HS.out.r.var SL.out PT.out (Uo _) ?_))
     refine aX (v:=.agg (cD ds)) (dH rfl _ _ w.heap.size _ (cD ds) (0,0) _ rfl (aQ _ _ _ _ _ _ HS.out.r.var) aK rfl SL.out) rfl ?_;have ais:j=32:=by omega
     have hds:ds=OE Qm bs:=by
      rw[HDS.out,ais,HZF.out,Y9.out];unfold OE;rw[HPS.out,HPL.out]
     exact⟨by rw[hds],JR HS.out.lo (ay _) _⟩
theorem abS (m:Int)(bs:ag au):∀k,k<=bs.length->OJ m bs k=(bs.take k).map (xb m)++bs.drop k
 |0,_=>by simp[OJ]
 |k+1,h=>by
  have ih:=abS m bs k (by omega);show(OJ m bs k).set k (xb m (bs[k]?.getD 0))=_;have hl:((bs.take k).map (xb m)).length=k:=by rw[aI,bn];omega
  rw[ih,eY _ _ (by omega),hl,kN,eF (by omega:k<bs.length),iy];rw[kL (by omega:k<bs.length),bY,KL (by omega),aH];rfl
theorem abp (m:Int)(key:ag au)(hk:key.length=32):Ul m key=OJ m (Np key) 64:=by
 have hl:(Np key).length=64:=by unfold Np;simp[hk]
 rw[abS m _ 64 (by omega),aU (by omega),dW (by omega),iq];unfold Ul Np;rw[bY];have h:(List.replicate 32 (0:au)).map (xb m)=List.replicate 32 (byteOf m):=by
  rw[oQ];unfold xb;congr 1;have:bits BinOp.xor IntKind.u8 ((0:au).toNat:Int) m=IntKind.u8.wrap m:=by
   show bits BinOp.xor IntKind.u8 0 m=_;simp[bits];rw[mD,mD,show(2:Int) ^ IntKind.u8.bits=256 from rfl];omega
  rw[this];unfold byteOf;rw[mD];simp
 rw[h];rfl
theorem ahc (key:ag au)(hk:key.length=32)(n c:Nat)(A:aj Addr)(bs:ag au)(w:ae)(hl:bs.length=n)(h0:0<n)(hn:n<=100000)(hb:JS w w.heap.size A (bs.map Extern.Stop.cell)):
  Calls Tryz.prog 38 #[.agg (cD key),.slice A n c] w (Gives (.agg (cD (QR Qm key bs))) w):=by
 have HB:=JJ hb;have HL:=JJ hl;have QJ:=JJ hk;have H0:=JJ (V2.start w 24 (cD key) 24 (cD d32));have L6:Hid (∀d:ag au,d.length=32->(Tryz.prog.info? 24).map (·.size)=some (cD d).size):=JJ (fun d h=>by rw[OW,h];kernel_rfl);have WV:Hid (∀d:ag au,d.length=32->(cD d32).size=(cD d).size):=JJ (fun d h=>by rw[OW,OW,h,Xe]);clear hb hl hk;go_enter Tryz.func38,Tryz.ntmps38;go_upto_region 1 with (first
  |((with_reducible refine Kz 24 ?_);refine JW rfl _ rfl (cD d32) TN ?_))
 generalize (w.alloc (.cells (cD key) 24)).alloc (.cells (cD d32) 24)=W0 at H0⊢;have hw0:=H0.out.r.lt;go_wp2_with((with_reducible refine KO 24 ?_);refine J3 rfl _ _ rfl w.heap.size rfl (cD key) H0.out.s.Nc _ aK rfl (L6.out _ QJ.out) ?_);refine(abo 54 key W0 QJ.out (by omega) (by omega)).mono ?_;rintro e w1 ⟨A1,n1,c1,l1,rfl,o1,k1⟩;have hn1:n1=64:=by rw[<-l1,U7 _ _ QJ.out]
 subst hn1;obtain⟨b1,hb1⟩:∃l,Ul 54 key=l:=⟨_,rfl⟩;rw[hb1] at o1 l1;have HB1:=JJ hb1;have H1:=JJ (H0.out.grow k1.Oz);have VS:=JJ o1;have UY:=JJ l1;have hs1:W0.heap.size<=w1.heap.size:=k1.size;have aum:Hid (JS w1 w1.heap.size A (bs.map Extern.Stop.cell)):=JJ ((HB.out.keep H1.out.lo).more H1.out.lo.size);clear o1 k1 l1 hb1 H0;go_wp2_with(at_builtin;refine OO rfl _ _ rfl W0.heap.size 64 c1 A1 b1 rfl VS.out _ A n c bs rfl HL.out h0 aum.out (by omega) hs1 ?_);intro A2 c2 w2 o2 k2;have H2:=JJ (H1.out.abx (k2.VL VS.out.base hs1) hw0);have hs2:W0.heap.size<=w2.heap.size:=aO hs1 k2.size;have SI:=JJ o2;clear o2 k2 H1 VS aum;go_wp2_with fail;refine(ahz (64+n) c2 A2 (b1++bs) w2 (by rw[KN,UY.out,HL.out]) (by omega) (by omega) (JS.Le SI.out)).mono ?_;rintro e w3 ⟨rfl,hb3⟩;obtain⟨d,hdd⟩:∃d,OE Qm (b1++bs)=d:=⟨_,rfl⟩;rw[hdd];have hd:d.length=32:=by rw[<-hdd];exact Nj _ _
 have HDD:=JJ hdd;clear hdd;have H3:=JJ (H2.out.grow hb3);have HD:=JJ hd;have hw3:=H3.out.r.lt;clear H2 SI hb3 hd UY;go_upto_region 3 with (first
  |((with_reducible refine Kz 24 ?_);refine JW rfl _ rfl (cD d32) TN ?_)
  |((with_reducible refine KZ 24 ?_);refine aB rfl _ _ _ rfl w3.heap.size (cD d) rfl rfl 24 (cD d32) (aF _ _) (L6.out _ HD.out) (WV.out _ HD.out) (Uo _) ?_))
 have H4:Hid (V2 w 24 (cD key) 24 (cD d32) ((w3.alloc (.cells (cD d32) 24)).setRow w3.heap.size (cD d))):=JJ (H3.out.grow (JR (JM w3 _) (ay _) _));have HI4:Hid (AV w3.heap.size 24 (cD d) ((w3.alloc (.cells (cD d32) 24)).setRow w3.heap.size (cD d))):=JJ ((AV.new w3 _ _).SA _);generalize (w3.alloc (.cells (cD d32) 24)).setRow w3.heap.size (cD d)=W4 at H4 HI4⊢;obtain⟨ib,hib⟩:∃b,w3.heap.size=b:=⟨_,rfl⟩;rw[hib] at HI4 hw3⊢;clear hib H3;have hw4:=H4.out.r.lt;go_wp2_with((with_reducible refine KO 24 ?_);refine J3 rfl _ _ rfl w.heap.size rfl (cD key) H4.out.s.Nc _ aK rfl (L6.out _ QJ.out) ?_);refine(abo 92 key W4 QJ.out (by omega) (by omega)).mono ?_;rintro e w5 ⟨A5,n5,c5,l5,rfl,o5,k5⟩;have hn5:n5=64:=by rw[<-l5,U7 _ _ QJ.out]
 subst hn5;obtain⟨b5,hb5⟩:∃l,Ul 92 key=l:=⟨_,rfl⟩;rw[hb5] at o5 l5;have VI:=JJ hb5;have H5:=JJ (H4.out.grow k5.Oz);have HI5:=JJ (HI4.out.below k5.Oz);have RP:=JJ o5;have HL5:=JJ l5;have hs5:W4.heap.size<=w5.heap.size:=k5.size;clear o5 k5 l5 hb5 H4 HI4;go_wp2_with((with_reducible refine KO 24 ?_);refine J3 rfl _ _ rfl ib rfl (cD d) HI5.out.Nc _ aK rfl (L6.out _ HD.out) ?_);refine(Vw d w5 HD.out).mono ?_;rintro e w6 ⟨A6,n6,c6,l6,rfl,o6,k6⟩;have hn6:n6=32:=by rw[<-l6,HD.out]
 subst hn6;have H6:=JJ (H5.out.grow k6.Oz);have Xy:=JJ (RP.out.below k6.Oz);have Ug:=JJ (JS.Le o6);have hs6:W4.heap.size<=w6.heap.size:=aO hs5 k6.size;clear o6 k6 l6 H5 RP HI5;go_wp2_with(at_builtin;refine OO rfl _ _ rfl W4.heap.size 64 c5 A5 b5 rfl Xy.out _ A6 32 c6 d rfl HD.out (by omega) Ug.out (by omega) hs6 ?_);intro A7 c7 w7 o7 k7;have H7:=JJ (H6.out.abx (k7.VL Xy.out.base hs6) hw4);have HO7:=JJ o7;clear o7 k7 H6 Xy Ug;go_wp2_with fail;refine(ahz (64+32) c7 A7 (b5++d) w7 (by rw[KN,HL5.out,HD.out]) (by omega) (by omega) (JS.Le HO7.out)).mono ?_;rintro e w8 ⟨rfl,hb8⟩;obtain⟨d2,hdd⟩:∃q,OE Qm (b5++d)=q:=⟨_,rfl⟩;rw[hdd];have hd2:d2.length=32:=by rw[<-hdd];exact Nj _ _
 have HDQ:=JJ hdd;clear hdd;have H8:=JJ (H7.out.grow hb8);have HD2:=JJ hd2;clear H7 HO7 hb8 hd2 HL5;go_wp2_with((with_reducible refine KZ 24 ?_);refine aB rfl _ _ _ rfl (w.heap.size+1) (cD d2) rfl rfl 24 (cD d32) H8.out.r.var (L6.out _ HD2.out) (WV.out _ HD2.out) (Uo _) ?_);refine aX (v:=.agg (cD d2)) (dH rfl _ _ (w.heap.size+1) _ (cD d2) (0,0) _ rfl (aQ _ _ _ _ _ _ H8.out.r.var) aK rfl (L6.out _ HD2.out)) rfl ?_;have hq:d2=QR Qm key bs:=by
  rw[<-HDQ.out,<-VI.out,<-HDD.out,<-HB1.out,abp _ _ QJ.out,abp _ _ QJ.out];rfl
 exact⟨by rw[hq],JR H8.out.lo (bV _) _⟩
def apU (w:ae)(key:ag au)(t:Tb)(vz:ah)(e:Ending)(w':ae):Prop:=
 ∃d:ag au,d.length=32/\QR Qm key (PN t)=d/\e=.returned (.tuple #[.agg (JK {t with Ku:=d} vz),.int .i64 0])/\ai w.heap.size w w'
def apJ (w:ae)(t:Tb)(e:Ending)(w':ae):Prop:=∃d:ag au,d.length=32/\OE Qm (PN t++t.Ku)=d/\e=.returned (.agg (cD d))/\ai w.heap.size w w'
theorem aae (key:ag au)(hk:key.length=32)(x:Kv)(w:ae)(hx:Ld w w.heap.size x)(h:YP x.t):
  Calls Tryz.prog 12 #[.agg (cD key),.agg (JK x.t (.slice x.A x.zs.length x.c))] w (apU w key x.t (.slice x.A x.zs.length x.c)):=by
 obtain⟨t,A,c,zs⟩:=x;simp only at h⊢;have Oy:t.prev.length=32:=hx.prev;have QX:t.Ku.length=32:=hx.Ku;obtain⟨n,hn⟩:∃n,zs.length=n:=⟨_,rfl⟩;rw[hn];have QJ:=JJ hk;have TE:=JJ Oy;have UG:=JJ (aev t h Oy);have HTE:Hid (Rq t=PN t):=JJ (VB t);have SY:Hid (∀W,ai w.heap.size w W->Calls Tryz.prog 30 #[.agg (JK t (.slice A n c))] W (ahS W t)):=JJ (fun W hb=>by rw[<-hn];exact Xj ⟨t,A,c,zs⟩ W ((hx.keep hb).more hb.size) h);have L6:Hid (∀v,(Tryz.prog.info? 26).map (·.size)=some (JK t v).size):=JJ fun v=>Ky t v Oy QX;have H0:=JJ (SlS.start w (cD key) (JK t (.slice A n c)));have HTS:Hid ((JK t (.slice A n c)).size=68):=JJ (Kq t _ Oy QX);have aqT:Hid (∀d:ag au,d.length=32->VP (JK t (.slice A n c)) 36 (JO d)=JK {t with Ku:=d} (.slice A n c)):=JJ (fun d hd=>aaj t _ d Oy QX hd);clear hx h hk Oy QX hn;go_enter Tryz.func12,Tryz.ntmps12;go_upto_region 1 with (first
  |((with_reducible refine Kz 26 ?_);refine JW rfl _ rfl (JK J8 (.slice none 0 0)) KQ ?_))
 rw[show w.heap.size+1+1=w.heap.size+2 from rfl];generalize ((w.alloc (.cells (cD key) 24)).alloc (.cells (JK t (.slice A n c)) 26)).alloc (.cells (JK J8 (.slice none 0 0)) 26)=W0 at H0⊢;go_wp2_with((with_reducible refine KO 26 ?_);refine J3 rfl _ _ rfl (w.heap.size+1) rfl (JK t (.slice A n c)) H0.out.t.Nc _ az rfl (L6.out _) ?_);refine(SY.out W0 H0.out.lo).mono ?_;rintro e w1 ⟨A1,n1,c1,l1,rfl,o1,b1⟩;have H1:=JJ (H0.out.grow b1);have UY:=JJ l1;have Rj:=JJ (JS.Le o1);have hn0:0<n1:=by rw[<-l1];exact UG.out.1
 have hn1:n1<=400:=by rw[<-l1];exact UG.out.2
 clear l1 o1 b1 H0 SY;go_wp2_with((with_reducible refine KO 24 ?_);refine J3 rfl _ _ rfl w.heap.size rfl (cD key) H1.out.k.Nc _ aK rfl (PG _ QJ.out) ?_);refine(ahc key QJ.out n1 c1 A1 (Rq t) w1 UY.out hn0 (by omega) Rj.out).mono ?_;rintro e w2 ⟨rfl,hb2⟩;rw[HTE.out];obtain⟨d,hdd⟩:∃d,QR Qm key (PN t)=d:=⟨_,rfl⟩;rw[hdd];have hd:d.length=32:=by rw[<-hdd];exact Ql _ _ _
 have HDD:=JJ hdd;clear hdd;have H2:=JJ (H1.out.grow hb2);have HD:=JJ hd;have HDI:=JJ (PG d hd);have HTH:Hid (w2.there (w.heap.size+1) 36 (cD d).size):=JJ (H2.out.t.there 36 _ (by rw[OW,hd,HTS.out];omega));have H3:Hid (SlS w (cD key) (JK {t with Ku:=d} (.slice A n c)) (w2.setCells (w.heap.size+1) 36 (cD d).toList)):=JJ (by
  have h:=H2.out.t.asQ 36 (cD d).toList;rw[show VP _ 36 (cD d).toList=_ from aqT.out d hd] at h;exact⟨H2.out.k.aio (by omega) _ _,h,H2.out.r.aio (by omega) _ _,Qa (bV _) _ _ _ H2.out.lo⟩)
 have Qi:Hid ((Tryz.prog.info? 26).map (·.size)=some (JK {t with Ku:=d} (.slice A n c)).size):=JJ (Ky {t with Ku:=d} _ TE.out hd);have HE3:Hid ((JK J8 (.slice none 0 0)).size=(JK {t with Ku:=d} (.slice A n c)).size):=JJ ((Kq J8 _ rfl rfl).trans (Kq {t with Ku:=d} _ TE.out hd).symm);clear hb2 hd H1 Rj;obtain⟨W3,hW3⟩:∃W,w2.setCells (w.heap.size+1) 36 (cD d).toList=W:=⟨_,rfl⟩;rw[hW3] at H3;have HW3:=JJ hW3;clear hW3;go_wp2_with(first
  |((with_reducible refine KZ 24 ?_);(refine mF rfl _ _ _ rfl (w.heap.size+1) 36 (cD d) rfl rfl HTH.out HDI.out (Uo _) ?_);rw[HW3.out])
  |((with_reducible refine KO 26 ?_);refine J3 rfl _ _ rfl (w.heap.size+1) rfl (JK {t with Ku:=d} (.slice A n c)) H3.out.t.Nc _ az rfl Qi.out ?_)
  |((with_reducible refine KZ 26 ?_);refine aB rfl _ _ _ rfl (w.heap.size+2) (JK {t with Ku:=d} (.slice A n c)) rfl rfl 26 (JK J8 (.slice none 0 0)) H3.out.r.var Qi.out HE3.out (J9 _ _ _ _) ?_))
 refine aX (v:=.tuple #[.agg (JK {t with Ku:=d} (.slice A n c)),I 0]) (Ko rfl _ _ (w.heap.size+2) _ (JK {t with Ku:=d} (.slice A n c)) (0,0) _ rfl (aQ _ _ _ _ _ _ H3.out.r.var) az rfl Qi.out _ rfl) rfl ?_;exact⟨d,HD.out,HDD.out,rfl,JR H3.out.lo (lW (bV _)) _⟩
theorem ak4 (x:Kv)(w:ae)(hx:Ld w w.heap.size x)(h:YP x.t):
  Calls Tryz.prog 40 #[.agg (JK x.t (.slice x.A x.zs.length x.c))] w (apJ w x.t):=by
 obtain⟨t,A,c,zs⟩:=x;simp only at h⊢;have Oy:t.prev.length=32:=hx.prev;have QX:t.Ku.length=32:=hx.Ku;obtain⟨n,hn⟩:∃n,zs.length=n:=⟨_,rfl⟩;rw[hn];have TE:=JJ Oy;have UN:=JJ QX;have UG:=JJ (aev t h Oy);have HTE:Hid (Rq t=PN t):=JJ (VB t);have SY:Hid (∀W,ai w.heap.size w W->Calls Tryz.prog 30 #[.agg (JK t (.slice A n c))] W (ahS W t)):=JJ (fun W hb=>by rw[<-hn];exact Xj ⟨t,A,c,zs⟩ W ((hx.keep hb).more hb.size) h);have L6:Hid (∀v,(Tryz.prog.info? 26).map (·.size)=some (JK t v).size):=JJ fun v=>Ky t v Oy QX;have H0:=JJ (V2.start w 26 (JK t (.slice A n c)) 24 (cD d32));have HMI:Hid ((Tryz.prog.info? 24).map (·.size)=some (JO t.Ku).length):=JJ (by simp only[JO,aI,QX];kernel_rfl);clear hx h Oy QX hn;go_enter Tryz.func40,Tryz.ntmps40;go_upto_region 1 with (first
  |((with_reducible refine Kz 24 ?_);refine JW rfl _ rfl (cD d32) TN ?_))
 generalize (w.alloc (.cells (JK t (.slice A n c)) 26)).alloc (.cells (cD d32) 24)=W0 at H0⊢;go_wp2_with((with_reducible refine KO 26 ?_);refine J3 rfl _ _ rfl w.heap.size rfl (JK t (.slice A n c)) H0.out.s.Nc _ az rfl (L6.out _) ?_);refine(SY.out W0 H0.out.lo).mono ?_;rintro e w1 ⟨A1,n1,c1,l1,rfl,o1,b1⟩;have H1:=JJ (H0.out.grow b1);have UY:=JJ l1;have VS:=JJ o1;have hw0:=H0.out.r.lt;have hs1:W0.heap.size<=w1.heap.size:=b1.size;have hn0:0<n1:=by rw[<-l1];exact UG.out.1
 have hn1:n1<=400:=by rw[<-l1];exact UG.out.2
 have Xx:=JJ (Vo t (.slice A n c) (Row.Nk H1.out.s.var) TE.out);clear l1 o1 b1 H0 SY;go_wp2_with((with_reducible refine KO 24 ?_);refine Kt rfl _ _ rfl w.heap.size 36 rfl (JO t.Ku) Xx.out _ aK rfl HMI.out ?_);refine(Vw t.Ku w1 UN.out).mono ?_;rintro e w2 ⟨A2,n2,c2,l2,rfl,o2,k2⟩;have hn2:n2=32:=by rw[<-l2,UN.out]
 subst hn2;have H2:=JJ (H1.out.grow k2.Oz);have SI:=JJ (VS.out.below k2.Oz);have HC2:=JJ (JS.Le o2);have hs2:W0.heap.size<=w2.heap.size:=aO hs1 k2.size;clear o2 k2 l2 H1 VS Xx;go_wp2_with(at_builtin;refine OO rfl _ _ rfl W0.heap.size n1 c1 A1 (Rq t) rfl SI.out _ A2 32 c2 t.Ku rfl UN.out (by omega) HC2.out (by omega) hs2 ?_);intro A3 c3 w3 o3 k3;have H3:=JJ (H2.out.abx (k3.VL SI.out.base hs2) hw0);have VJ:=JJ o3;clear o3 k3 H2 SI HC2;go_wp2_with fail;refine(ahz (n1+32) c3 A3 (Rq t++t.Ku) w3 (by rw[KN,UY.out,UN.out]) (by omega) (by omega) (JS.Le VJ.out)).mono ?_;rintro e w4 ⟨rfl,hb4⟩;rw[HTE.out];obtain⟨d,hdd⟩:∃d,OE Qm (PN t++t.Ku)=d:=⟨_,rfl⟩;rw[hdd];have hd:d.length=32:=by rw[<-hdd];exact Nj _ _
 have HDD:=JJ hdd;clear hdd;have H4:=JJ (H3.out.grow hb4);have HD:=JJ hd;have HDE:Hid ((cD d32).size=(cD d).size):=JJ (by rw[OW,OW,hd,Xe]);clear H3 VJ hb4 hd;go_wp2_with((with_reducible refine KZ 24 ?_);refine aB rfl _ _ _ rfl (w.heap.size+1) (cD d) rfl rfl 24 (cD d32) H4.out.r.var (PG _ HD.out) HDE.out (Uo _) ?_);refine aX (v:=.agg (cD d)) (dH rfl _ _ (w.heap.size+1) _ (cD d) (0,0) _ rfl (aQ _ _ _ _ _ _ H4.out.r.var) aK rfl (PG _ HD.out)) rfl ?_;exact⟨d,HD.out,HDD.out,rfl,JR H4.out.lo (bV _) _⟩
end Go.Proofs.YtbaehbbonkljpaaGreatDoor
