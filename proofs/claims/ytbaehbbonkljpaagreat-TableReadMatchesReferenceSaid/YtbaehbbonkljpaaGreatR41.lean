/- The texts Vs, in this order. -/
import Derived.Test.YtbaehbbonkljpaaGreatR00
import Derived.Test.YtbaehbbonkljpaaGreatR25
import Derived.Test.YtbaehbbonkljpaaGreatR34
import Derived.Test.YtbaehbbonkljpaaGreatR38
import Derived.Test.YtbaehbbonkljpaaGreatR39
import Derived.Test.YtbaehbbonkljpaaGreatR40
set_option maxRecDepth 10000
set_option maxHeartbeats 8000000
namespace Go.Proofs.YtbaehbbonkljpaaGreat
open Go Go.RowKit
theorem PU (w:World) (B:List UInt8) (A0:Option Addr) (N c0:Nat) (hN:B.length=N) (hc1:N≤c0) (hc2:c0≤9223372036854775807) (hA:BytesAt w w.heap.size A0 B):
  Calls Tryz.prog 18 #[.slice A0 N c0] w (Ri w B):=by
 obtain ⟨⟨Ci,o1⟩,h1⟩:∃p,tN 1 (some B)=p:=⟨_,rfl⟩;obtain ⟨⟨ZE,o2⟩,h2⟩:∃p,tN 1 o1=p:=⟨_,rfl⟩;obtain ⟨⟨wd,o3⟩,h3⟩:∃p,tN 1 o2=p:=⟨_,rfl⟩;obtain ⟨⟨P,o4⟩,h4⟩:∃p,tX 32 o3=p:=⟨_,rfl⟩;obtain ⟨⟨nv,o5⟩,h5⟩:∃p,tN 1 o4=p:=⟨_,rfl⟩;obtain ⟨n,rfl,hn⟩:=xN h5;obtain ⟨⟨zs,o6⟩,h6⟩:∃p,iD tZe n o5=p:=⟨_,rfl⟩;obtain ⟨PV,hPV⟩:∃q,(if P.length=32 then P else bU)=q:=⟨_,rfl⟩;have JV:=ae (show P.length=32∨P= [] by have h:=Ux o3;rwa [h4] at h);have HF:Hid (tTb (some B)=(⟨Ci,ZE,wd,PV,bU,zs⟩,o6)):=ae (by
  have h:=tD_tX o3;rw [h4] at h;simp only at h;rw [hPV] at h;simp only [tTb,gB,qm,wP,h1,h2,h3,h,h5,h6,Int.toNat_natCast])
 have V6:Hid (PV.length=32∧(P= []→PV=bU)∧(P.length=32→PV=P)):=ae (by
  rw [←hPV];refine ⟨?_,fun h=>?_,fun h=>if_pos h⟩
  ·split
   ·assumption
   ·rfl
  ·rw [h];rfl)
 have H1:=ae h1;have H2:=ae h2;have H3:=ae h3;have H4:=ae h4;have H5:=ae h5;have H6:=ae h6;have HB:=ae hA;have HN:=ae hN;have HR0:=ae (Ug w (w.alloc (.cells (ah bz (.slice none 0 0)) 39)) B A0 N c0 hN hc1 hc2 hA (ag w _) (by simp));have hx0:((w.alloc (.cells (ah bz (.slice none 0 0)) 39)).alloc (.cells #[.slice A0 N c0, .bool false] 91)).heap[w.heap.size]? =some (.cells (ah bz (.slice none 0 0)) 39 (0,0)):=heap_alloc2_old w _ _;have HB0:=ae (ai (ag w (.cells (ah bz (.slice none 0 0)) 39)) (ag _ (.cells #[.slice A0 N c0, .bool false] 91)));have hs0:((w.alloc (.cells (ah bz (.slice none 0 0)) 39)).alloc (.cells #[.slice A0 N c0, .bool false] 91)).heap.size=w.heap.size+2:=by simp
 obtain ⟨T1,hT1⟩:∃T:Tb,{bz with bV:=Ci}=T:=⟨_,rfl⟩;have HT1:=ae hT1;clear h1 h2 h3 h4 h5 h6 hA hPV hT1;go_enter Tryz.func18,Tryz.ntmps18;go_upto_region 1 with (first
  |((with_reducible refine bf 39 ?_);go_must (refine aI rfl _ rfl (ah bz (.slice none 0 0)) eF ?_)))
 go_upto_region 2 with fail;generalize (w.alloc (.cells (ah bz (.slice none 0 0)) 39)).alloc (.cells #[.slice A0 N c0, .bool false] 91)=W0 at HR0 HB0 hs0 hx0 ⊢;go_wp2_with fail;refine (iC H1.out HR0.out (by omega)).mono ?_;rintro e w1 hn1;obtain rfl:=hn1.1;have hk1:=hn1.2.2;have hsz1:=hk1.size;have kS:Hid (sD w o1 w1.heap.size (ah T1 (.slice none 0 0)) (w1.alloc (.cells (ah T1 (.slice none 0 0)) 39))):=ae (by
  have hb:=ag w1 (.cells (ah T1 (.slice none 0 0)) 39);have hB0:=HB0.out;exact ⟨hn1.2.1.below hb (by omega),(hb.block _ (by omega)).trans ((hk1.block _ (by omega) (by omega)).trans hx0),heap_alloc_last w1 _,by omega,
   ⟨(hb.os.trans hk1.os).trans hB0.os,(hb.tape.trans hk1.tape).trans hB0.tape,(hb.output.trans hk1.output).trans hB0.output,Nat.le_trans hB0.size (Nat.le_trans hsz1 hb.size),fun k hk=>(hb.block k (by omega)).trans ((hk1.block k (by omega) (by omega)).trans (hB0.block k hk))⟩⟩)
 have YZ:Hid ((Tryz.prog.info? 39).map (fun i=>(i.zero,i.size))=some (some (.agg (ah bz (.slice none 0 0))),(ah T1 (.slice none 0 0)).size)∧(ah bz (.slice none 0 0)).size=(ah T1 (.slice none 0 0)).size):=ae (by
  rw [←HT1.out];exact ⟨eF,rfl⟩)
 clear hn1 hk1 hsz1 HR0 HB0 hs0 hx0 H1;go_wp2_with (first
  |((with_reducible refine eu 39 ?_);go_must (refine bn rfl _ rfl (ah T1 (.slice none 0 0)) (by rw [←HT1.out];kernel_rfl) ?_))
  |((with_reducible refine bf 39 ?_);go_must (refine fA rfl rfl _ _ _ rfl rfl rfl rfl (.agg (ah bz (.slice none 0 0))) (ah T1 (.slice none 0 0)) YZ.out.1 YZ.out.2 rfl rfl (aW _ _ _ _) ?_)))
 obtain ⟨tb,htb⟩:∃b,w1.heap.size=b:=⟨_,rfl⟩;rw [htb] at kS ⊢;generalize w1.alloc (.cells (ah T1 (.slice none 0 0)) 39)=W1 at kS ⊢;clear htb YZ;refine (iC H2.out kS.out.rd (by omega)).mono ?_;rintro e w2 hn2;obtain rfl:=hn2.1;have jk:=ae (kS.out.num hn2);have f1:=jk.out.eY 1;have c1:w2.cell? ⟨tb,1,none⟩=some (I T1.version):=jk.out.cell 1;have ng:Hid (sD w o2 tb (ah {T1 with version:=ZE} (.slice none 0 0)) (w2.setCell ⟨tb,1,none⟩ (I ZE))):=ae (by rw [←tb_ver];exact jk.out.store 1 (I ZE));clear hn2 kS jk H2;go_upto_region 4 with fail;generalize w2.setCell ⟨tb,1,none⟩ (I ZE)=w3 at ng ⊢;clear f1 c1;go_wp2_with fail;refine (iC H3.out ng.out.rd (by omega)).mono ?_;rintro e w4 hn4;obtain rfl:=hn4.1;have uF:=ae (ng.out.num hn4);have f1:=uF.out.eY 2;have c1:w4.cell? ⟨tb,2,none⟩=some (I T1.aO):=uF.out.cell 2;obtain ⟨T3,hT3⟩:∃T:Tb,{T1 with version:=ZE,aO:=wd}=T:=⟨_,rfl⟩;have HV5:Hid (sD w o3 tb (ah T3 (.slice none 0 0)) (w4.setCell ⟨tb,2,none⟩ (I wd))):=ae (by
  have h:=uF.out.store 2 (I wd);rw [tb_wd] at h;rw [←hT3];exact h)
 have HT3:Hid (T3=⟨Ci,ZE,wd,bU,bU,[]⟩):=ae (by rw [←hT3,←HT1.out];rfl);clear hn4 ng uF H3 hT3;go_upto_region 5 with fail;generalize w4.setCell ⟨tb,2,none⟩ (I wd)=w5 at HV5 ⊢;clear f1 c1 HT1;go_wp2_with fail;refine (IX H4.out HV5.out.rd (by omega)).mono ?_;rintro e w6 ⟨AP,cp,rfl,hbp,yX,hk6⟩;have pV:=ae (HV5.out.step yX hk6);have HBP:=ae hbp;have YR:=ae pV.out.keep;clear yX hk6 hbp HV5 H4;obtain ⟨np,Xg⟩:∃n,P.length=n:=⟨_,rfl⟩;rw [Xg] at ⊢;have hnp2:np≤32:=by
  rcases JV.out with h|h
  ·omega
  ·rw [h] at Xg;simp at Xg;omega
 have HNP:=ae Xg;clear Xg;go_upto_block 0 with fail
 go_cut [7] (fun _ wx=>sD w o4 tb (ah {T3 with prev:=PV} (.slice none 0 0)) wx)
 case first=>
  go_wp2_with fail
  go_loopw [7] (fun i wr=>∃k:Nat,k≤np∧i= .int .i64 k∧sD w o4 tb (ah {T3 with prev:=mG P k} (.slice none 0 0)) wr) (fun i _=>np - (intOf i).toNat)
  case atStart=>
   refine ⟨0,Nat.zero_le _,rfl,?_⟩;have h:=pV.out;have e:({T3 with prev:=mG P 0}:Tb)=T3:=by rw [HT3.out];rfl
   rw [e];exact h
  case round=>
   obtain ⟨k,hk,rfl,hv⟩:=hrel;have HV:=ae hv;clear hv pV;by_cases hlt:k<np
   ·have wE:P.length=32:=by
     rcases JV.out with h|h
     ·exact h
     ·have:=HNP.out;rw [h] at this;simp at this;omega
    have i1:(k:Int)<(np:Int):=by omega
    have i2:(k:Int)<32:=by omega
    have i3:(0:Int)≤(k:Int):=by omega
    obtain ⟨b,off,rfl,hcl⟩:∃b off,AP=some ⟨b,off,none⟩∧w6.cell? ⟨b,off+k,none⟩=some (Extern.Stop.cell (P[k]?.getD 0))∧b<w.heap.size:=by
     rcases HBP.out with h|⟨b,off,hA,hb,hc⟩
     ·omega
     ·exact ⟨b,off,hA,hc k (by omega),hb⟩
    obtain ⟨x,hx⟩:∃x,P[k]?.getD 0=x:=⟨_,rfl⟩;rw [hx] at hcl;have hc:wr.cell? ⟨b,off+k,none⟩=some (.int .u8 x.toNat):=(World.cell?_of_block (a:=⟨b,off+k,none⟩) ((HV.out.keep.block b hcl.2).trans (YR.out.block b hcl.2).symm)).trans hcl.1;have hft:=HV.out.eY (4+k);have hpk:=PM P k wE (by omega);have hct:wr.cell? ⟨tb,4+k,none⟩=some (Extern.Stop.cell ((mG P k)[k]?.getD 0)):=by
     refine qP {T3 with prev:=mG P k} (.slice none 0 0) HV.out.row k _ ?_;show (ay (mG P k))[k]? =_;have e:(mG P k)[k]? =some (mG P k)[k]:=bZ (by omega);simp only [ay,List.getElem?_map,e,Option.map_some,Option.getD_some]
    have jk:Hid (sD w o4 tb (ah {T3 with prev:=mG P (k+1)} (.slice none 0 0)) (wr.setCell ⟨tb,4+k,none⟩ (.int .u8 x.toNat))):=ae (by
     have h:=HV.out.store (4+k) (Extern.Stop.cell x);rw [tb_pv _ _ k x (by show k<(mG P k).length;omega),←hx] at h;simp only [LW P k wE (by omega)] at h;rw [hx] at h;exact h)
    clear hcl hx HV hpk HBP;go_wp2_with fail;go_roundw
    case rel=>exact ⟨k+1,by omega,by go_num,jk.out⟩
    case measure=>simp [intOf];omega
   ·have hkn:k=np:=by omega
    have i2:¬(k:Int)<(np:Int):=by omega
    have HE:Hid (mG P k=PV):=ae (by
     rcases JV.out with h|h
     ·rw [V6.out.2.2 h,mG,hkn,←HNP.out,List.take_length,h];exact List.append_nil _
     ·rw [V6.out.2.1 h,mG,h,hkn,←HNP.out,h];rfl)
    clear hlt hkn;go_wp2_with fail;go_meet;have h:=HV.out
    rwa [HE.out] at h
 case rest=>
  have Cf:=ae hcut;clear hcut pV YR HBP JV HNP hnp2;have HT4:Hid ((⟨Ci,ZE,wd,PV,bU,zs⟩:Tb)= {({T3 with prev:=PV}:Tb) with aG:=zs}):=ae (by rw [HT3.out]);have HPVL:=ae V6.out.1;obtain ⟨T4,hT4⟩:∃T:Tb,{T3 with prev:=PV}=T:=⟨_,rfl⟩;rw [hT4] at Cf HT4;have zt:Hid (T4.prev.length=32∧T4.dQ.length=32):=ae (by rw [←hT4];exact ⟨HPVL.out,by rw [HT3.out];rfl⟩);clear HT3 V6 hT4 HPVL;go_upto_region 10 with fail;go_wp2_with fail;refine (iC H5.out Cf.out.rd (by omega)).mono ?_;rintro e w8 Zm;obtain rfl:=Zm.1;have DR:=ae (Cf.out.num Zm);clear Zm Cf H5;have KT:tb+1≤w8.heap.size:=DR.out.lt;obtain ⟨lb,KU⟩:∃b,w8.heap.size=b:=⟨_,rfl⟩;have hlb:tb+1≤lb:=by omega
  have QE:lb≤w8.heap.size:=by omega
  have htb:=DR.out.lo;clear KT KU;obtain ⟨zi,hz,hz0,hz1,hz2⟩:=info_parts zC;go_upto_block 2 with fail
  go_cut [9] (fun _ wx=>∃A c ys,sD w o6 tb (ah T4 (.slice A zs.length c)) wx∧wx.ownsRow lb 70 9 (.slice A zs.length c) zs.length (aV ys)∧ys.map (·.e)=zs∧(∀y∈ys,∃g,A=some ⟨g,0,none⟩∧ZX lb g wx y)∧(zs.length=0→A=none∧c=0))
  case first=>
   go_wp2_with fail
   go_loopw [9,10,11] (fun i _ _ wr=>∃(k:Nat) (A:Option Addr) (c:Nat) (ys:List dB) (ok:eQ),i= .int .i64 k∧EK tZe n o5 k (ys.map (·.e)) ok∧sD w ok tb (ah T4 (.slice A k c)) wr∧wr.ownsRow lb 70 9 (.slice A k c) k (aV ys)∧(∀y∈ys,∃g,A=some ⟨g,0,none⟩∧ZX lb g wr y)∧(k=0→A=none∧c=0)∧lb≤wr.heap.size) (fun i _ _ _=>n - (intOf i).toNat)
   case atStart=>exact ⟨0,none,0,[],o5,rfl,EK.start _ _ _,DR.out,World.ownsRow_nil _ _ _ _,(fun _ h=>nomatch h),fun _=>⟨rfl,rfl⟩,QE⟩
   case round=>
    obtain ⟨k,A,c,ys,ok,rfl,hit,hv,ho,hea,hnl,hlr⟩:=hrel;have HIT:=ae hit;have HV:=ae hv;have HO:=ae ho;have Z7:=ae hea;have uD:=ae hnl;have hkn:=hit.le;have hyl:ys.length=k:=by have h:=hit.len;rwa [List.length_map] at h
    have hsh:wr.cell? ⟨w.heap.size+1,1,none⟩=some (.bool ok.isNone):=by
     obtain ⟨A',n',c',g1,_⟩:=hv.rd.at_;exact cell_of_row wr _ 1 _ _ _ g1
    have oI:=ae hyl;clear hit hv ho hea hnl DR hyl;by_cases hlt:k<n
    ·have i1:(k:Int)<(n:Int):=by omega
     cases ok with
     |none=>
      have hsh:wr.cell? ⟨w.heap.size+1,1,none⟩=some (.bool true):=hsh;have HD:=ae HIT.out.dead;go_wp2_with fail;go_meet;obtain ⟨e1,e2⟩:=Prod.mk.inj (H6.out.symm.trans HD.out);rw [e1,e2,List.length_map,oI.out];exact ⟨A,c,ys,HV.out,HO.out,rfl,Z7.out,uD.out⟩
     |some D=>
      replace hsh:wr.cell? ⟨w.heap.size+1,1,none⟩=some (.bool false):=hsh;obtain ⟨⟨sv,p0⟩,hx0⟩:∃p,tN 1 (some D)=p:=⟨_,rfl⟩;obtain ⟨sn,rfl,hsn⟩:=xN hx0;obtain ⟨⟨L,p1⟩,hx1⟩:∃p,tX sn p0=p:=⟨_,rfl⟩;obtain ⟨⟨z,p2⟩,hx2⟩:∃p,ZC p1=p:=⟨_,rfl⟩;obtain ⟨nm,hnm⟩:∃b:ByteArray,⟨L.toArray⟩=b:=⟨_,rfl⟩;have hx:tZe (some D)=(⟨nm,z⟩,p2):=by simp only [tZe,tT,gB,qm,tK_tX,hx0,hx1,hx2,hnm,Int.toNat_natCast]
      have HI2:=ae (HIT.out.step hlt hx);have HX0:=ae hx0;have uf:=ae hx1;have ug:=ae hx2;have hrl:=HV.out.lt;clear hx hx0 hx1 hx2 HIT;go_wp2_with fail;refine (iC HX0.out HV.out.rd (by omega)).mono ?_;rintro e y0 hn0;obtain rfl:=hn0.1;have HW0:=ae (HV.out.num hn0);have mP:=ae ((Mid.refl lb wr).num (rb:=w.heap.size+1) hn0.2.2 (by omega));clear hn0 HV hsh;go_wp2_with fail;refine (IX uf.out HW0.out.rd (by omega)).mono ?_;rintro e y1 ⟨A1,c1,rfl,hb1,hr1,hk1⟩;have HW1:=ae (HW0.out.step hr1 hk1);have iM:=ae (mP.out.num (rb:=w.heap.size+1) hk1 (by omega));have hcv:=PR hb1 c1;rw [hnm] at hcv;obtain ⟨ln,hln⟩:∃n,L.length=n:=⟨_,rfl⟩;rw [hln] at hcv ⊢;have hsx:=iM.out.1;have hbx:=HW1.out.lt;have HW2:=ae (HW1.out.more (.cells #[.string nm,I 0, .slice none 0 0,I 0, .slice none 0 0,I 0, .slice none 0 0,I 0, .slice none 0 0] 70));have iH:=ae (iM.out.alloc (.cells #[.string nm,I 0, .slice none 0 0,I 0, .slice none 0 0,I 0, .slice none 0 0,I 0, .slice none 0 0] 70));have hr2:(y1.alloc (.cells #[.string nm,I 0, .slice none 0 0,I 0, .slice none 0 0,I 0, .slice none 0 0,I 0, .slice none 0 0] 70)).heap[y1.heap.size]? =some (.cells #[.string nm,I 0, .slice none 0 0,I 0, .slice none 0 0,I 0, .slice none 0 0,I 0, .slice none 0 0] 70 (0,0)):=heap_alloc_last _ _;have hz2':(y1.alloc (.cells #[.string nm,I 0, .slice none 0 0,I 0, .slice none 0 0,I 0, .slice none 0 0,I 0, .slice none 0 0] 70)).heap.size=y1.heap.size+1:=by simp
      clear hb1 hr1 hk1 HW0 mP HW1 iM hnm hln;go_wp2_with (first
       |((with_reducible refine bf 70 ?_);go_must (refine fA rfl rfl _ _ _ rfl rfl rfl rfl (.agg nM) #[.string nm,I 0, .slice none 0 0,I 0, .slice none 0 0,I 0, .slice none 0 0,I 0, .slice none 0 0] (by kernel_rfl) rfl rfl rfl (by kernel_rfl) ?_)))
      clear hcv;obtain ⟨eb,heb⟩:∃b,y1.heap.size=b:=⟨_,rfl⟩;rw [heb] at hsx hbx hr2 hz2' ⊢;generalize y1.alloc (.cells #[.string nm,I 0, .slice none 0 0,I 0, .slice none 0 0,I 0, .slice none 0 0,I 0, .slice none 0 0] 70)=W2 at HW2 iH hr2 hz2' ⊢;clear heb;refine (Un ug.out HW2.out.rd).mono ?_;rintro e y3 ⟨s,rfl,hr3,hk3,Td⟩;have HW3:=ae (HW2.out.step hr3 hk3);have vT:=ae (iH.out.num (rb:=w.heap.size+1) hk3 (by omega));have hr3':=(hk3.block eb (by omega) (by omega)).trans hr2;have HZO:=ae Td;clear hr3 hk3 Td HW2 iH;have HTH:Hid (y3.there eb 1 (au z s).size):=ae ((⟨hr3'⟩:AV eb 70 _ y3).there 1 _ (Nat.le_refl _));have Y1:=ae (HW3.out.low (kD hbx (au z s).toList y3 1 (Below.refl _ _)));have DK:Hid (Mid lb wr (y3.setCells eb 1 (au z s).toList)):=ae ⟨by rw [lC];exact vT.out.1,fun b h1 h2=>(jf _ _ eb _ b (by omega)).trans (vT.out.2 b h1 h2)⟩;have hr4:(y3.setCells eb 1 (au z s).toList).heap[eb]? =some (.cells #[.string nm,I z.cal.aJ, .slice s.A z.cal.aj.length s.a,I z.cal.aY, .slice s.B z.cal.rules.length s.b,I z.start, .slice s.C z.trans.length s.c,I z.hor, .slice s.D z.ax.length s.d] 70 (0,0)):=by rw [←XJ];exact pG _ _ eb 1 _ _ hr3'
      have JL:=ae (HZO.out.aQ (w':=y3.setCells eb 1 (au z s).toList) (by rw [lC];exact Nat.le_refl _) (fun b h1 _=>jf _ _ eb _ b (by omega)));clear HW3 vT hr3' HZO;go_upto_region 17 with (first
       |((with_reducible refine dS 54 ?_);go_must (refine wpList_store_mid rfl _ _ _ rfl eb 1 (au z s) rfl rfl HTH.out (by kernel_rfl) (by kernel_rfl) ?_)))
      generalize y3.setCells eb 1 (au z s).toList=W4 at Y1 DK hr4 JL ⊢;clear HTH;have hcl:W4.cell? ⟨tb,3,none⟩=some (.slice A k c):=Y1.out.cell 3;have HRE:=ae (Row.lU hr4);have rX:=ae (aN HO.out DK.out.2);have HE4:Hid (∀y∈ys,∃g,A=some ⟨g,0,none⟩∧ZX lb g W4 y):=ae fun y hy=>by
       obtain ⟨g,h1,h2⟩:=Z7.out y hy;exact ⟨g,h1,h2.of DK.out.1 fun b h3 h4 h5=>⟨DK.out.2 b h3 h4,h5⟩⟩
      have hws:lb≤W4.heap.size:=Nat.le_trans hlr DK.out.1;have hwe:eb<W4.heap.size:=(bK.1 hr4).1;have HOL:Hid (∀g,A=some ⟨g,0,none⟩→g<wr.heap.size):=ae fun g hg=>by subst hg;exact (iV HO.out).2
      have uC:=ae (bW W4 70 #[.string nm,I z.cal.aJ, .slice s.A z.cal.aj.length s.a,I z.cal.aY, .slice s.B z.cal.rules.length s.b,I z.start, .slice s.C z.trans.length s.c,I z.hor, .slice s.D z.ax.length s.d] (⟨⟨nm,z⟩,s⟩:dB).cells.toList rfl);clear HO Z7 hr4 DK;go_wp2_with (first
       |((with_reducible refine gz 70 ?_);go_must (refine aX rfl _ _ rfl eb rfl #[.string nm,I z.cal.aJ, .slice s.A z.cal.aj.length s.a,I z.cal.aY, .slice s.B z.cal.rules.length s.b,I z.start, .slice s.C z.trans.length s.c,I z.hor, .slice s.D z.ax.length s.d] HRE.out _ Tryz.underlying70 rfl (by kernel_rfl) ?_))
       |(at_builtin;go_must (refine wpList_append_own_at _ rfl _ _ 37 rfl lb 70 zi (.agg nM) 9 144 Tryz.underlying37 hz hz0 hz1 hz2 rfl (by decide) _ _ _ rfl (rX.out.alloc _) ⟨W4.heap.size,0,none⟩ 1 1 (⟨⟨nm,z⟩,s⟩:dB).cells.toList rfl rfl uC.out (jW _) (by unfold maxLen;omega) (by omega) (by simp;omega) ?_)))
      intro v' w7 SV Fh _ hat7;obtain ⟨g2,c2,rfl,hg2⟩:=fM SV (Nat.succ_pos _);have hold:=Pj rX.out uD.out Fh hat7;have hs7:W4.heap.size≤w7.heap.size:=Nat.le_trans (ag W4 _).size Fh.size;have Cf:=ae (Y1.out.grown rX.out hlb Fh);have EJ:=ae SV;have HE7:Hid (∀y∈ys++ [(⟨⟨nm,z⟩,s⟩:dB)],∃g,some (⟨g2,0,none⟩:Addr)=some ⟨g,0,none⟩∧ZX lb g w7 y):=ae fun y hy=>by
       refine ⟨g2,rfl,?_⟩;rcases List.mem_append.1 hy with h|h
       ·obtain ⟨g,h1,h2⟩:=HE4.out y h;exact h2.of hs7 fun b _ h4 h5=>hold b h4 fun g' hg'=>by
         rw [h1] at hg';injection hg' with hg';injection hg' with hg';omega
       ·rw [List.mem_singleton.1 h];refine JP.zx (lo':=W2.heap.size+1) (y:=(⟨⟨nm,z⟩,s⟩:dB)) JL.out (by omega) hs7 fun b h3 h4=>hold b h4 fun g' hg'=>?_;have:=HOL.out g' hg';omega
      have hc73:w7.cell? ⟨tb,3,none⟩=some (.slice A k c):=Cf.out.cell 3;have hf73:=Cf.out.eY 3;have hsz7:lb≤w7.heap.size:=Nat.le_trans hws hs7;clear SV Fh hat7 hold hcl Y1 rX HE4 JL uC HRE hg2;go_wp2_with fail;have DR:Hid (sD w p2 tb (ah T4 (.slice (some ⟨g2,0,none⟩) (k+1) c2)) (w7.setCell ⟨tb,3,none⟩ (.slice (some ⟨g2,0,none⟩) (k+1) c2))):=ae (by rw [←tb_zs T4 (.slice A k c)];exact Cf.out.store 3 _);go_roundw
      case rel=>
       refine ⟨k+1,some ⟨g2,0,none⟩,c2,ys++ [(⟨⟨nm,z⟩,s⟩:dB)],p2,by go_num,by rw [List.map_append];exact HI2.out,DR.out,?_,?_,fun h=>by omega,by simpa [World.setCell] using hsz7⟩
       ·rw [yL];have h:=ownsRow_setCell_below (a:=⟨tb,3,none⟩) EJ.out hlb (.slice (some ⟨g2,0,none⟩) (k+1) c2);simpa [aV] using h
       ·intro y hy;obtain ⟨g,h1,h2⟩:=HE7.out y hy;exact ⟨g,h1,h2.of (by simp [World.setCell]) fun b h3 _ h5=>⟨heap_setCell_other w7 ⟨tb,3,none⟩ b _ (by show b≠tb;omega),h5⟩⟩
      case measure=>simp [intOf];omega
    ·have hkn2:k=n:=by omega
     have i2:¬(k:Int)<(n:Int):=by omega
     have HD:=ae (hkn2▸HIT.out).full;clear hkn2 hlt;go_wp2_with fail;go_meet;obtain ⟨e1,e2⟩:=Prod.mk.inj (H6.out.symm.trans HD.out);rw [e1,e2,List.length_map,oI.out];exact ⟨A,c,ys,HV.out,HO.out,rfl,Z7.out,uD.out⟩
  case rest=>
   obtain ⟨A,c,ys,hv,ho,hys,hea,hnl⟩:=hcut;obtain ⟨T,hT⟩:∃T:Tb,{T4 with aG:=zs}=T:=⟨_,rfl⟩;rw [hT] at HT4;have Vu:Hid (T.prev.length=32∧T.dQ.length=32∧T.aG=ys.map (·.e)∧T.aG=zs):=ae (by rw [←hT];exact ⟨zt.out.1,zt.out.2,hys.symm,rfl⟩);have hvt:ah T4 (.slice A zs.length c)=ah T (.slice A zs.length c):=by rw [←hT];rfl
   rw [hvt] at hv;have HF2:Hid (tTb (some B)=(T,o6)):=ae (HF.out.trans (by rw [HT4.out]));have HV:=ae hv;have HO:=ae ho;have Z7:=ae hea;have uD:=ae hnl;have Wl:=ae hys;have hsh:wc.cell? ⟨w.heap.size+1,1,none⟩=some (.bool o6.isNone):=by
    obtain ⟨A',n',c',g1,_⟩:=hv.rd.at_;exact cell_of_row wc _ 1 _ _ _ g1
   have Nl:=ae hv.res;have hsz:=hv.keep.size;clear hv ho hea hnl hys hT hvt DR HF HT4 zt H6;cases o6 with
   |none=>
    have hsh:wc.cell? ⟨w.heap.size+1,1,none⟩=some (.bool true):=hsh;have GY:Hid (yS B=none):=ae (by unfold yS;rw [HF2.out]);go_wp2_with (first
     |((with_reducible refine eu 39 ?_);go_must (refine bn rfl _ rfl (ah bz (.slice none 0 0)) (by kernel_rfl) ?_))
     |((with_reducible refine dS 39 ?_);go_must (refine wpList_store_row rfl _ _ _ rfl w.heap.size (ah bz (.slice none 0 0)) rfl rfl 39 (ah bz (.slice none 0 0)) Nl.out (bG bz _ rfl rfl) rfl (aW _ _ _ _) ?_)))
    refine bodyPost_ret (v:= .tuple #[.agg (ah bz (.slice none 0 0)),I 3]) (aZ rfl _ _ w.heap.size _ (ah bz (.slice none 0 0)) (0,0) _ rfl (setRow_heap _ _ _ _ _ _ Nl.out) Tryz.underlying39 rfl (bG bz _ rfl rfl) _ rfl) rfl ?_;exact .inr ⟨by rw [←pX];exact GY.out,rfl,aB HV.out.keep (Nat.le_refl _) _⟩
   |some R=>
    replace hsh:wc.cell? ⟨w.heap.size+1,1,none⟩=some (.bool false):=hsh;obtain ⟨AR,nR,cR,hrd,hRl⟩:∃AR nR cR,wc.cell? ⟨w.heap.size+1,0,none⟩=some (.slice AR nR cR)∧R.length=nR:=by
     obtain ⟨A',n',c',g1,_,_,g4⟩:=HV.out.rd.at_;exact ⟨A',n',c',cell_of_row wc _ 0 _ _ _ g1,(g4 R rfl).1⟩
    by_cases hR:0<nR
    ·have GY:Hid (yS B=none):=ae (by
      unfold yS;rw [HF2.out];cases R with
      |nil=>simp at hRl;omega
      |cons a b=>rfl)
     have hR2:(0:Int)<(nR:Int):=by omega
     clear hRl;go_wp2_with (first
      |((with_reducible refine eu 39 ?_);go_must (refine bn rfl _ rfl (ah bz (.slice none 0 0)) (by kernel_rfl) ?_))
      |((with_reducible refine dS 39 ?_);go_must (refine wpList_store_row rfl _ _ _ rfl w.heap.size (ah bz (.slice none 0 0)) rfl rfl 39 (ah bz (.slice none 0 0)) Nl.out (bG bz _ rfl rfl) rfl (aW _ _ _ _) ?_)))
     refine bodyPost_ret (v:= .tuple #[.agg (ah bz (.slice none 0 0)),I 3]) (aZ rfl _ _ w.heap.size _ (ah bz (.slice none 0 0)) (0,0) _ rfl (setRow_heap _ _ _ _ _ _ Nl.out) Tryz.underlying39 rfl (bG bz _ rfl rfl) _ rfl) rfl ?_;exact .inr ⟨by rw [←pX];exact GY.out,rfl,aB HV.out.keep (Nat.le_refl _) _⟩
    ·have hR2:¬(0:Int)<(nR:Int):=by omega
     have hRn:R= []:=List.eq_nil_of_length_eq_zero (by omega);have GY:Hid (yS B=if pM T=0∧xe T=B then some T else none):=ae (by unfold yS;rw [HF2.out,hRn]);clear hRl hRn HF2;obtain ⟨nz,hnz⟩:∃n,zs.length=n:=⟨_,rfl⟩;have hyn:ys.length=nz:=by rw [←hnz,←Wl.out,List.length_map]
     rw [hnz] at HV HO uD;have YY:Hid (jB wc wc.heap.size ⟨T,A,c,ys⟩):=ae (by
      refine ⟨Vu.out.2.2.1,Vu.out.1,Vu.out.2.1,?_⟩;refine Hu.zes (lo:=lb) (n:=nz) (c:=c) ⟨by rw [hyn];exact HO.out,fun y hy=>by obtain ⟨g,_,h2⟩:=Z7.out y hy;exact ⟨g,h2⟩,fun h=>?_⟩;obtain ⟨e1,e2⟩:=uD.out (hyn.symm.trans h);have h3:nz=0:=hyn.symm.trans h;rw [e1,e2,h3])
     have HTN:Hid (T.aG.length=nz∧ys.length=nz∧ys.map (·.e)=T.aG):=ae ⟨by rw [Vu.out.2.2.2,hnz],hyn,by rw [Vu.out.2.2.2];exact Wl.out⟩;have DF:Hid (Calls Tryz.prog 7 #[.agg (ah T (.slice A nz c))] wc (Yy wc T)):=ae (by
      have h:=LY ⟨T,A,c,ys⟩ wc YY.out;simp only [hyn] at h;exact h)
     have fG:Hid (∀v,(Tryz.prog.info? 39).map (·.size)=some (ah T v).size):=ae fun v=>bG T v Vu.out.1 Vu.out.2.1;have HRW:=ae HV.out.row;have hlt:=HV.out.lt;have HTP:Hid (T.prev.length=32∧T.dQ.length=32):=ae ⟨Vu.out.1,Vu.out.2.1⟩;clear YY hnz hyn Wl Vu;go_wp2_with ((with_reducible refine gz 39 ?_);go_must (refine aX rfl _ _ rfl tb rfl (ah T (.slice A nz c)) HRW.out _ Tryz.underlying39 rfl (fG.out _) ?_));refine DF.out.mono ?_;rintro e w9 (⟨hv0,A9,n9,c9,l9,rfl,o9,b9⟩|⟨hv0,rfl,b9⟩)
     ·have hl9:n9≤1000000:=by rw [←l9,zI];exact Nat.le_trans (wQ T (BI hv0 HTP.out.1 HTP.out.2)).2 (by omega)
      have JY:=ae (HV.out.low ⟨b9.os,b9.tape,b9.output,b9.size,fun k hk=>b9.block k (by omega)⟩);have JW:=ae (Di A9 A0 n9 N c9 c0 (pJ T) B w9 l9 HN.out hl9 (az.dO o9) (by
       have h1:=HB.out.blocks fun k hk=>(b9.block k (by omega)).trans (HV.out.keep.block k hk);rcases h1 with h1|⟨b,off,h2,h3,h4⟩
       ·exact .inl (by rw [List.length_map];exact h1)
       ·refine .inr ⟨b,off,h2,by have:=b9.size;omega,fun j u hu=>?_⟩;rw [List.getElem?_map] at hu;cases hj:B[j]? with
        |none=>rw [hj] at hu;cases hu
        |some y=>
         rw [hj] at hu;have hjl:=(iT.1 hj).1;rw [h4 j hjl,hj];exact hu))
      have Qr:=ae b9;clear b9 o9 l9 hl9 HV HRW;obtain ⟨q,hq⟩:∃q,decide (pJ T=B)=q:=⟨_,rfl⟩;rw [hq] at JW;have Nb:Hid (yS B=if q=true then some T else none):=ae (GY.out.trans (by
       rw [←hq,←zI];by_cases h:pJ T=B
       ·rw [if_pos ⟨hv0,h⟩,if_pos (by simp [h])]
       ·rw [if_neg (fun h2=>h h2.2),if_neg (by simp [h])]))
      clear hq GY;go_wp2_with fail;refine JW.out.mono ?_;rintro e w10 ⟨rfl,b10⟩;have hs9:=Qr.out.size;have JX:=ae (JY.out.low ⟨b10.os,b10.tape,b10.output,b10.size,fun k hk=>b10.block k (by omega)⟩);have Np:=ae JX.out.res;have HRW10:=ae JX.out.row;have uT:Hid (Below wc.heap.size wc w10):=ae ⟨b10.os.trans Qr.out.os,b10.tape.trans Qr.out.tape,b10.output.trans Qr.out.output,Nat.le_trans hs9 b10.size,fun k hk=>(b10.block k (by omega)).trans (Qr.out.block k hk)⟩;clear b10 JW Qr JY Nl;cases q with
      |false=>
       have QJ:Hid (yS B=none):=ae Nb.out;go_wp2_with (first
        |((with_reducible refine eu 39 ?_);go_must (refine bn rfl _ rfl (ah bz (.slice none 0 0)) (by kernel_rfl) ?_))
        |((with_reducible refine dS 39 ?_);go_must (refine wpList_store_row rfl _ _ _ rfl w.heap.size (ah bz (.slice none 0 0)) rfl rfl 39 (ah bz (.slice none 0 0)) Np.out (bG bz _ rfl rfl) rfl (aW _ _ _ _) ?_)))
       refine bodyPost_ret (v:= .tuple #[.agg (ah bz (.slice none 0 0)),I 3]) (aZ rfl _ _ w.heap.size _ (ah bz (.slice none 0 0)) (0,0) _ rfl (setRow_heap _ _ _ _ _ _ Np.out) Tryz.underlying39 rfl (bG bz _ rfl rfl) _ rfl) rfl ?_;exact .inr ⟨by rw [←pX];exact QJ.out,rfl,aB JX.out.keep (Nat.le_refl _) _⟩
      |true=>
       have QJ:Hid (yS B=some T):=ae Nb.out;have HTE:Hid ((ah bz (.slice none 0 0)).size=(ah T (.slice A nz c)).size):=ae ((bF bz _ rfl rfl).trans (bF T _ HTP.out.1 HTP.out.2).symm);go_wp2_with (first
        |((with_reducible refine gz 39 ?_);go_must (refine aX rfl _ _ rfl tb rfl (ah T (.slice A nz c)) HRW10.out _ Tryz.underlying39 rfl (fG.out _) ?_))
        |((with_reducible refine dS 39 ?_);go_must (refine wpList_store_row rfl _ _ _ rfl w.heap.size (ah T (.slice A nz c)) rfl rfl 39 (ah bz (.slice none 0 0)) Np.out (fG.out _) HTE.out (aW _ _ _ _) ?_)))
       refine bodyPost_ret (v:= .tuple #[.agg (ah T (.slice A nz c)),I 0]) (aZ rfl _ _ w.heap.size _ (ah T (.slice A nz c)) (0,0) _ rfl (setRow_heap _ _ _ _ _ _ Np.out) Tryz.underlying39 rfl (fG.out _) _ rfl) rfl ?_;have SH:=uT.out;have hle:∀b,lb≤b→b<wc.heap.size→(w10.setRow w.heap.size (ah T (.slice A nz c))).heap[b]? =wc.heap[b]? :=fun b h1 h2=>(setRow_other _ _ b _ (by omega)).trans (SH.block b h2);have hze:wc.heap.size≤(w10.setRow w.heap.size (ah T (.slice A nz c))).heap.size:=by rw [size_setRow];exact SH.size
       refine .inl ⟨T,A,c,ys,by rw [←pX];exact QJ.out,by rw [HTN.out.1],?_,HTN.out.2.2,aB JX.out.keep (Nat.le_refl _) _⟩;rw [HTN.out.1];have hlo:w.heap.size≤lb:=by omega
       refine ⟨by rw [HTN.out.2.1];exact aK (aN HO.out hle) hlo,fun y hy=>?_,fun h=>?_⟩
       ·obtain ⟨g,_,h2⟩:=Z7.out y hy;exact ⟨g,(h2.of hze fun b h3 h4 h5=>⟨hle b h3 h4,h5⟩).lower hlo⟩
       ·have h3:nz=0:=HTN.out.2.1.symm.trans h;obtain ⟨e1,e2⟩:=uD.out h3;rw [e1,e2,h3]
     ·have JY:=ae (HV.out.low ⟨b9.os,b9.tape,b9.output,b9.size,fun k hk=>b9.block k (by omega)⟩);have HRS9:=ae JY.out.res;have Nb:Hid (yS B=none):=ae (GY.out.trans (if_neg (fun h=>hv0 h.1)));obtain ⟨rv,yY⟩:∃v,pM T=v:=⟨_,rfl⟩;rw [yY] at hv0 ⊢;have hq:(rv !=0)=true:=by simp [hv0]
      clear b9 HV HRW yY GY;go_wp2_with (first
       |((with_reducible refine eu 39 ?_);go_must (refine bn rfl _ rfl (ah bz (.slice none 0 0)) (by kernel_rfl) ?_))
       |((with_reducible refine dS 39 ?_);go_must (refine wpList_store_row rfl _ _ _ rfl w.heap.size (ah bz (.slice none 0 0)) rfl rfl 39 (ah bz (.slice none 0 0)) HRS9.out (bG bz _ rfl rfl) rfl (aW _ _ _ _) ?_)))
      refine bodyPost_ret (v:= .tuple #[.agg (ah bz (.slice none 0 0)),I 3]) (aZ rfl _ _ w.heap.size _ (ah bz (.slice none 0 0)) (0,0) _ rfl (setRow_heap _ _ _ _ _ _ HRS9.out) Tryz.underlying39 rfl (bG bz _ rfl rfl) _ rfl) rfl ?_;exact .inr ⟨by rw [←pX];exact Nb.out,rfl,aB JY.out.keep (Nat.le_refl _) _⟩
end Go.Proofs.YtbaehbbonkljpaaGreat
