/- The texts Ul, in this order. -/
import Derived.Test.YtdibbemgpikgjaaGreatW00
import Derived.Test.YtdibbemgpikgjaaGreatW22
import Derived.Test.YtdibbemgpikgjaaGreatW42
import Derived.Test.YtdibbemgpikgjaaGreatW43
import Derived.Test.YtdibbemgpikgjaaGreatW44
set_option maxRecDepth 10000
set_option maxHeartbeats 8000000
namespace Go.Proofs.YtdibbemgpikgjaaGreat
open Go Go.RowKit
theorem FP (w:World):(w.alloc (.cells #[] 5)).ownsRow w.heap.size 5 1 (.slice (some ⟨w.heap.size,0,none⟩) 0 0) 0 []:=
 ⟨rfl, .inr ⟨w.heap.size,0,#[],rfl,Nat.le_refl _,heap_alloc_last w _,Nat.le_refl _,Nat.zero_le _,rfl,rfl⟩⟩
theorem zA {w:World} {B k:Nat} {A:Option Addr} {bs:List UInt8} (h:BytesAt w B A bs):BytesAt w B A (bs.take k):=by
 rcases h with h|⟨b,off,hA,hb,hc⟩
 ·exact .inl (by rw [List.length_take];omega)
 ·exact .inr ⟨b,off,hA,hb,fun j hj=>by
   rw [List.length_take] at hj;rw [hc j (by omega),List.getElem?_take_of_lt (by omega)]⟩
theorem xJ {w:World} {base e size g n c:Nat} {xs:List Value} (h:w.ownsRow base e size (.slice (some ⟨g,0,none⟩) n c) n xs):n≤c∧c≤9223372036854775807:=by
 rcases h.2 with ⟨h,_⟩|⟨g',cap,cur,hv,_,_,h1,h2,_⟩
 ·cases h
 ·injection hv with _ _ hc;subst hc;exact ⟨h1,h2⟩
theorem mY {w:World} {base g n c:Nat} {bs:List UInt8} (h:w.ownsRow base 5 1 (.slice (some ⟨g,0,none⟩) n c) n (bs.map Extern.Stop.cell)) (hn:bs.length=n):BytesAt w w.heap.size (some ⟨g,0,none⟩) bs:=by
 subst hn;obtain ⟨A,c',hv,_,_,_,hb⟩:=uh h;injection hv with hA _ _;rw [hA];exact hb
theorem Gw {w:World} {B:Nat} {A:Option Addr} {bs:List UInt8} (h:BytesAt w B A bs):aB w B A (bs.map Extern.Stop.cell):=by
 rcases h with h|⟨b,off,hA,hb,hc⟩
 ·exact .inl (by rw [List.length_map];exact h)
 ·refine .inr ⟨b,off,hA,hb,fun j u hu=>?_⟩;rw [List.getElem?_map] at hu;cases hj:bs[j]? with
  |none=>rw [hj] at hu;cases hu
  |some y=>
   rw [hj] at hu;injection hu with hu;rw [hc j (iP.1 hj).1,hj,←hu];rfl
theorem F5 {W:World} {b o:Nat} {t:Tb} {vz:Value} (hr:W.rangeAt b o (ai t vz).toList) (hp:t.prev.length=32):W.rangeAt b (o+36) (au t.bJ):=fun j v hv=>by
 have h:(ai t vz).toList[36+j]? =some v:=by
  unfold ai kV;have hl:(au t.prev).length=32:=by simp [au,hp]
  rw [List.getElem?_append_right (by simp;omega),List.getElem?_append_right (by simp [hl];omega)];rw [show 36+j - [I t.bC,I t.version,I t.aH,vz].length - (au t.prev).length=j by simp [hl];omega];exact hv
 rw [Nat.add_assoc];exact hr (36+j) v h
def RdMd (w:World) (t:Tb) (m:Nat) (e:Ending) (w':World):Prop:=
 ∃A c ys,e= .returned (.tuple #[.agg (ai t (.slice A m c)),I 0])∧I9 w.heap.size w' (.slice A m c) ys∧ys.map (·.e)=t.aK∧Below w.heap.size w w'
theorem Dt {w w':World} {B:List UInt8} {e:Ending} {t:Tb} {m:Nat} (h:Om w B e w') (hn:uf B=some t) (hm:t.aK.length=m):RdMd w t m e w':=by
 rcases h with ⟨t2,A,c,ys,h1,h2,h3,h4,h5⟩|⟨h1,_,_⟩
 ·rw [hn] at h1;injection h1 with h1;subst h1;subst hm;exact ⟨A,c,ys,h2,h3,h4,h5⟩
 ·rw [hn] at h1;cases h1
theorem rV {w w':World} {B:List UInt8} {e:Ending} (h:Om w B e w') (hn:uf B=none):e= .returned (.tuple #[.agg (ai bn (.slice none 0 0)),I 3])∧Below w.heap.size w w':=by
 rcases h with ⟨t,A,c,ys,h1,_⟩|⟨_,h2,h3⟩
 ·rw [hn] at h1;cases h1
 ·exact ⟨h2,h3⟩
theorem wL (w:World) (A0:Option Addr) (bs:List UInt8) (len0 cap0:Nat) (r:oQ) (x:Int) (hb:bs.length=len0) (hc1:len0≤cap0) (hc2:cap0≤9223372036854775807) (hBA:BytesAt w w.heap.size A0 bs) (hr:vM w w.heap.size r) (hx0:0≤x) (hx1:x<65536):
  Calls Tryz.prog 3 #[.slice A0 len0 cap0, .agg r.cells.toArray, .int .u16 x] w (Gives (.bool true) w):=by
 have HRI:Hid ((Tryz.prog.info? 27).map (·.size)=some r.cells.toArray.size):=ae (by rw [show r.cells.toArray.size=34 by simpa using oQ.len r hr.key];kernel_rfl);have HB0:=ae (ag w (.cells r.cells.toArray 27));have HR0:=ae (Row.new w r.cells.toArray 27);have V4:Hid (∀W,Below w.heap.size w W→Calls Tryz.prog 9 #[.agg r.cells.toArray] W (SE W)):=ae fun W h=>Us r W ((hr.keep h).more h.size);have V7:Hid (∀W,Below w.heap.size w W→Calls Tryz.prog 6 #[.slice A0 len0 cap0] W (Om W bs)):=ae fun W h=>iL W bs A0 len0 cap0 hb hc1 hc2 ((hBA.keep h).more h.size);have HBB:=ae (fun (W:World) (h:Below w.heap.size w W)=>(hBA.keep h).more h.size);have VT:=ae hb;have HZC:=ae fK;unfold SE at V4;obtain ⟨Ri,hi',hy0,hy1,hy2⟩:=info_parts lZ;have HI:=ae hi';have YZ:=ae hy0;have vX:=ae hy1;have yz:=ae hy2;clear hr hBA hb hi' hy0 hy1 hy2;go_enter Tryz.func3,Tryz.ntmps3;go_upto_region 1 with fail;generalize w.alloc (.cells r.cells.toArray 27)=W0 at HB0 HR0 ⊢;go_wp2_with fail;refine (Nk W0).mono ?_;rintro e w1 ⟨rfl,b1⟩;have HB1:=ae (ah HB0.out b1);have HR1:=ae (HR0.out.keep b1);clear b1 HB0 HR0;by_cases h2000:2000<len0
 ·have h2:(2000:Int)<(len0:Int):=by omega
  go_wp2_with fail;go_ret;exact ⟨rfl,HB1.out⟩
 have h2:¬(2000:Int)<(len0:Int):=by omega
 go_wp2_with fail;refine (V7.out w1 HB1.out).mono ?_;rintro e w2 (⟨t,A,cz,ys,hac,rfl,hz2,he2,hb2⟩|⟨hac,rfl,hb2⟩)
 ·obtain ⟨hpt,hv0,htb⟩:=SQ hac;obtain ⟨hpr,Ey⟩:=Dk hpt;have hml:t.bJ.length=32:=by rw [Ey];rfl
  have dR:Hid (∀v,(Tryz.prog.info? 32).map (·.size)=some (ai t v).size):=ae fun v=>bP _ v hpr hml;have rE:Hid (∀v,(ai bn (.slice none 0 0)).size=(ai t v).size):=ae fun v=>by exact (aZ bn _ rfl rfl).trans (aZ t v hpr hml).symm
  have HR2:=ae (HR1.out.keep hb2);have HB2:=ae (ah HB1.out hb2);obtain ⟨n,hn⟩:∃n,t.aK.length=n:=⟨_,rfl⟩;rw [hn] at hz2 ⊢;have hyl:ys.length=n:=by have:=congrArg List.length he2;simpa [hn] using this
  have tK:=ae (fun (W:World) (hb:Below w2.heap.size w2 W)=>mg t A n cz ys W (Pm hv0 hpr hml) he2.symm hyl (hz2.below hb).zes hv0);have hneq:=CZ t.bJ hml;rw [show (t.bJ==aS)=true by rw [Ey];rfl,oK] at hneq;have V6:=ae hneq;have YQ:=ae hpr;have Io:Hid ((Tryz.prog.info? 24).map (·.size)=some (au t.bJ).length):=ae (by rw [show (au t.bJ).length=32 by simp [au,hml]];kernel_rfl);have HEB:=ae htb;clear hz2 he2 hb2 hn hyl hac hpt hv0 htb hpr hml Ey hneq HR1;go_upto_region 5 with (first
   |((with_reducible refine bu 32 ?_);refine bH rfl _ rfl (ai bn (.slice none 0 0)) fK ?_)
   |((with_reducible refine bV 32 ?_);go_must (refine cZ rfl _ _ _ rfl (ai t (.slice A n cz)) rfl rfl 32 (ai bn (.slice none 0 0)) rfl (dR.out _) (rE.out _) (aT _ _ _ _) ?_;intro W3 hb3 hl3 hr3;have HB3:=ae hb3;have HR3:=ae hr3;clear hb3 hr3)))
  obtain ⟨tb,htb0⟩:∃b,w2.heap.size=b:=⟨_,rfl⟩;rw [htb0] at HR3 hl3;simp only [htb0];have HW3:=ae (ah HB2.out HB3.out);have HRR:=ae (HR2.out.keep HB3.out);have HBYT:=ae (tK.out W3 HB3.out);clear tK HB3 HB2 HR2;go_wp2_with ((with_reducible refine dM 32 ?_);go_must (refine aV rfl _ _ rfl tb rfl (ai t (.slice A n cz)) HR3.out _ Tryz.underlying32 rfl (dR.out _) ?_));refine HBYT.out.mono ?_;rintro e w4 ⟨⟨g4,c4,rfl,CS⟩,hb4⟩;rw [HEB.out,VT.out] at CS ⊢;have HB4:=ae (ah HW3.out hb4);have hc4:aB w4 w4.heap.size (some ⟨g4,0,none⟩) (bs.map Extern.Stop.cell):=aB.fA CS;have hcb:aB w4 w4.heap.size A0 (bs.map Extern.Stop.cell):=Gw (HBB.out w4 HB4.out);have PO:=ae (EC (some ⟨g4,0,none⟩) A0 len0 len0 c4 cap0 bs bs w4 VT.out VT.out (by omega) hc4 hcb);rw [decide_eq_true (rfl:bs=bs)] at PO;have HR4:=ae (HR3.out.keep hb4);have HRW:=ae (HRR.out.keep hb4);clear CS hb4 hc4 hcb HBYT HR3 HRR HW3;go_wp2_with fail;refine PO.out.mono ?_;rintro e w5 ⟨rfl,hb5⟩;have oN:=ae (ah HB4.out hb5);have HM5:=ae (Ho t (.slice A n cz) (HR4.out.keep hb5) YQ.out);have tJ:=ae (HRW.out.keep hb5);have hneq:=V6.out;clear hb5 HB4 HR4 HRW PO;go_upto_region 9 with ((with_reducible refine dM 24 ?_);go_must (refine bU rfl _ _ rfl tb 36 rfl (au t.bJ) HM5.out _ Tryz.underlying24 rfl Io.out ?_));clear hneq V6 HM5 dR rE YQ Io HEB;have ZP:=oN;clear oN;go_wp2_with ((with_reducible refine dM 27 ?_);go_must (refine aV rfl _ _ rfl w.heap.size rfl r.cells.toArray tJ.out _ Tryz.underlying27 rfl HRI.out ?_));refine (V4.out w5 ZP.out).mono ?_;rintro e w6 ⟨A,n,c,ts,rfl,htl,hn5,hca,yA,_,hb6⟩;have Ed:=ae (ah ZP.out hb6);have BJ:=ae htl;have HCA:=ae hca;have YU:=ae yA;clear htl hca yA hb6 ZP V4 tJ;go_wp2_with fail
  go_loopw [13] (fun i wr=>∃k:Nat,k≤n∧i=I k∧Below w6.heap.size w6 wr) (fun i _=>n - (intOf i).toNat)
  case atStart=>exact ⟨0,Nat.zero_le _,rfl,Below.refl _ _⟩
  case round=>
   obtain ⟨k,hk,rfl,hb⟩:=hrel;have HB:=ae hb;clear hb;by_cases hlt:k<n
   ·have i0:(0:Int)≤(k:Int):=by omega
    have i1:(k:Int)<(n:Int):=by omega
    obtain ⟨z,hz⟩:∃z,ts[k]? =some z:=⟨_,dK (by rw [BJ.out];omega)⟩;have hzm:=gz hz;obtain ⟨cb,co,rfl,hcb,hTA⟩:∃b off,A=some ⟨b,off,none⟩∧b<w6.heap.size∧rG w6 b off ts:=by
     rcases xR HCA.out with h1|h1
     ·have:=BJ.out;omega
     ·exact h1
    have HZR:Hid (∀W,Below w6.heap.size w6 W→W.rangeAt cb (co+k*68) z.cells):=ae fun W h=>aW (hTA k z hz).1 h hcb;have hz68:=(hTA k z hz).2;have Iz:Hid ((Tryz.prog.info? 32).map (·.size)=some z.cells.length):=ae (by rw [hz68];kernel_rfl);have Gn:=ae (HCA.out.each z hzm);have HZM:=ae (YU.out z hzm);have tK:=ae (HZM.out.good Gn.out.prev Gn.out.bJ);have Ob:=ae (HZM.out.up Gn.out.names);have HZ3:=ae (Gn.out.grow HB.out);have Sj:=ae (O8 z.t tK.out);have HTV:=ae (GZ tK.out Gn.out.names Ob.out);have VP:=ae (JF tK.out Gn.out.names Ob.out);have Bz:Hid (Calls Tryz.prog 7 #[.agg z.cells.toArray] wr (BN wr (pU z.t))):=ae (mg z.t z.A z.zs.length z.c z.zs wr (Pm HTV.out HZ3.out.prev HZ3.out.bJ) HZ3.out.names rfl HZ3.out.aK HTV.out);obtain ⟨m,hm⟩:∃m,z.zs.length=m:=⟨_,rfl⟩;have HM:=ae hm;have Vz:Hid (z.t.aK.length=m):=ae (by rw [Gn.out.names,List.length_map,hm]);have Xd:m≤3:=by have h1:=HZM.out.num;have h2:=Vz.out;omega
    obtain ⟨N,hN⟩:∃N,(pU z.t).length=N:=⟨_,rfl⟩;have HN:=ae hN;have hN1:N≤18000:=by rw [←hN];exact Sj.out.2
    have hN0:36≤N:=by rw [←hN];exact Sj.out.1
    have hwr:=HB.out.size;clear hz hzm hTA hm hN;go_upto_region 14 with ((with_reducible refine dM 32 ?_);go_must (refine bU rfl _ _ rfl cb (co+k*68) rfl z.cells (HZR.out _ HB.out) _ Tryz.underlying32 rfl Iz.out ?_));refine Bz.out.mono ?_;rintro e w7 ⟨⟨g7,c7,rfl,Qe⟩,hb7⟩;rw [HN.out] at Qe ⊢;have oO:=ae (ah HB.out hb7);have hg7:=fM Qe;obtain ⟨hcap1,hcap2⟩:=xJ Qe;have RN:=ae Qe;have HRE:=ae ((iL w7 (pU z.t) (some ⟨g7,0,none⟩) N c7 HN.out hcap1 hcap2 (mY Qe HN.out)).mono fun e w' h=>Dt (t:= {z.t with bJ:=aS}) h VP.out Vz.out);have dR:Hid (∀v,(Tryz.prog.info? 32).map (·.size)=some (ai {z.t with bJ:=aS} v).size):=ae fun v=>bP _ v HZ3.out.prev rfl;have rE:Hid (∀v,(ai bn (.slice none 0 0)).size=(ai {z.t with bJ:=aS} v).size):=ae fun v=>by exact (aZ bn _ rfl rfl).trans (aZ {z.t with bJ:=aS} v HZ3.out.prev rfl).symm
    have Ru:Hid (N≤c7∧c7≤9223372036854775807):=ae ⟨hcap1,hcap2⟩;have hs7:=oO.out.size;clear Qe hb7 hcap1 hcap2 Bz;go_upto_region 14 with fail;go_wp2_with fail;refine HRE.out.mono ?_;rintro e w8 ⟨A5,c5,ys,rfl,hq5,hy5,hb5⟩;have Il:=ae (ah oO.out hb5);have HQ8:=ae hq5.zes;have Y1:=ae hy5;have RP:=ae (own_below RN.out hb5);have hs8:w7.heap.size≤w8.heap.size:=hb5.size;clear hq5 hy5 hb5 HRE RN oO;go_upto_region 15 with (first
     |((with_reducible refine bu 32 ?_);go_must (refine aN rfl _ rfl (ai bn (.slice none 0 0)) eP ?_))
     |((with_reducible refine eQ 32 ?_);go_must (refine wpList_store_row rfl _ _ _ rfl w8.heap.size (ai {z.t with bJ:=aS} (.slice A5 m c5)) rfl rfl 32 (ai bn (.slice none 0 0)) (heap_alloc_last _ _) (dR.out _) (rE.out _) (aT _ _ _ _) ?_)))
    have Ap:Below w8.heap.size w8 ((w8.alloc (.cells (ai bn (.slice none 0 0)) 32)).setRow w8.heap.size (ai {z.t with bJ:=aS} (.slice A5 m c5))):=aC (ag w8 _) (Nat.le_refl _) _;have TW:=(AV.oH (AV.new w8 (ai bn (.slice none 0 0)) 32) (ai {z.t with bJ:=aS} (.slice A5 m c5))).var;generalize (w8.alloc (.cells (ai bn (.slice none 0 0)) 32)).setRow w8.heap.size (ai {z.t with bJ:=aS} (.slice A5 m c5))=w9 at Ap TW ⊢;have HM9:Hid (w9.rangeAt cb (co+k*68+36) (au z.t.bJ)):=ae (F5 (HZR.out w9 (ah Il.out Ap)) HZ3.out.prev);have Io:Hid ((Tryz.prog.info? 24).map (·.size)=some (au z.t.bJ).length):=ae (by rw [show (au z.t.bJ).length=32 by simp [au,HZ3.out.bJ]];kernel_rfl);obtain ⟨qK,GL⟩:∃W,w9.setCells w8.heap.size 36 (cD z.t.bJ).toList=W:=⟨_,rfl⟩;have h10:qK.heap[w8.heap.size]? =some (.cells (ai z.t (.slice A5 m c5)) 32 (0,0)):=by
     rw [←GL];have h:=nG (cD z.t.bJ).toList w9 w8.heap.size 36 _ _ TW;rw [show (cD z.t.bJ).toList=au z.t.bJ from rfl,wO {z.t with bJ:=aS} _ z.t.bJ HZ3.out.prev rfl HZ3.out.bJ] at h;exact h
    have Ak:Below w8.heap.size w8 qK:=by rw [←GL];exact jv (Nat.le_refl _) _ _ _ Ap
    have VG:Hid (w9.there w8.heap.size 36 (cD z.t.bJ).size):=ae fun j hj=>⟨by rw [cell_of_row _ w8.heap.size _ _ _ _ TW];have hs:=aZ {z.t with bJ:=aS} (.slice A5 m c5) HZ3.out.prev rfl;rw [kK,HZ3.out.bJ] at hj;rw [Array.getElem?_eq_getElem (by omega)];rfl,frozen_of_row _ _ _ _ _ TW⟩;have KU:=ae (mX z.t.bJ HZ3.out.bJ);have Sl:=ae GL;have rC:=ae (ah Il.out Ak);have RV:=ae (HQ8.out.grow Ak);have IV:=ae (own_below RP.out Ak);have KY:=ae (Row.kF h10);clear Ap TW h10 Ak GL Il HQ8 RP;go_upto_region 16 with (first
     |((with_reducible refine dM 24 ?_);go_must (refine bU rfl _ _ rfl cb (co+k*68+36) rfl (au z.t.bJ) HM9.out _ Tryz.underlying24 rfl Io.out ?_))
     |((with_reducible refine bV 24 ?_);go_must ((refine wpList_store_mid rfl _ _ _ rfl w8.heap.size 36 (cD z.t.bJ) rfl rfl VG.out KU.out (rH _) ?_);rw [Sl.out])))
    obtain ⟨rb,hrb⟩:∃b,w8.heap.size=b:=⟨_,rfl⟩;rw [hrb] at KY;simp only [hrb];clear Sl HM9 Io KU VG dR rE;have dR:Hid ((Tryz.prog.info? 32).map (·.size)=some (ai z.t (.slice A5 m c5)).size):=ae (bP _ _ HZ3.out.prev HZ3.out.bJ);have hZC:z.cells.toArray=ai z.t (.slice z.A m z.c):=by rw [←HM.out];rfl
    have HSA:Hid (∀W,Below qK.heap.size qK W→Calls Tryz.prog 10 #[.agg (ai z.t (.slice A5 m c5)), .agg z.cells.toArray] W (Gives (.bool true) W)):=ae fun W hb=>by
     rw [hZC];exact Dv z.t A5 z.A c5 z.c m ys z.zs z.t.aK W HZ3.out.prev HZ3.out.bJ Y1.out HZ3.out.names.symm Vz.out (by omega) (fun e he=>(tK.out.good e he).1.len) (RV.out.grow hb) ((Gn.out.aK).grow (ah rC.out hb))
    have HS:Hid (∀W,Below qK.heap.size qK W→Row W rb (ai z.t (.slice A5 m c5))∧W.rangeAt cb (co+k*68) z.cells):=ae fun W hb=>⟨KY.out.keep hb,HZR.out W (ah rC.out hb)⟩;have hsz:=dR.out;have hzi:=Iz.out;have hNz:((N:Int)==0)=false:=by simp;omega
    have hNz2:(N==0)=false:=by simp;omega
    clear hZC;refine wp_region_held_drew (S:=fun W=>Row W rb (ai z.t (.slice A5 m c5))∧W.rangeAt cb (co+k*68) z.cells) (by kernel_rfl) (HS.out _ (Below.refl _ qK).drew) (fun hH=>?_);refine aO 0 (I 0) 81 hH (fun W hW=>?_) ?_
    ·obtain ⟨_,_⟩:=hW;go_simp
    refine ay ?_;refine aO 1 (.bool false) 82 hH (fun W hW=>?_) ?_
    ·obtain ⟨_,_⟩:=hW;go_simp
    refine ay ?_;refine aO 2 (.bool false) 83 hH (fun W hW=>?_) ?_
    ·obtain ⟨_,_⟩:=hW;go_simp
    refine ay ?_;refine aO 3 (I 0) 84 hH (fun W hW=>?_) ?_
    ·obtain ⟨_,_⟩:=hW;go_simp
    refine ay ?_;refine aO 4 (.bool false) 85 hH (fun W hW=>?_) ?_
    ·obtain ⟨_,_⟩:=hW;go_simp
    refine ay ?_;refine aO 5 (.bool false) 86 hH (fun W hW=>?_) ?_
    ·obtain ⟨_,_⟩:=hW;go_simp
    refine ay ?_;refine aO 6 (.bool false) 87 hH (fun W hW=>?_) ?_
    ·obtain ⟨_,_⟩:=hW;go_simp
    refine ay ?_;refine aO 7 (.slice (some ⟨g7,0,none⟩) N c7) 88 hH (fun W hW=>?_) ?_
    ·obtain ⟨_,_⟩:=hW;go_simp
    refine ay ?_;refine aO 8 (I (N:Nat)) 89 hH (fun W hW=>?_) ?_
    ·obtain ⟨_,_⟩:=hW;go_simp
    refine ay ?_;refine aO 9 (.bool false) 90 hH (fun W hW=>?_) ?_
    ·obtain ⟨_,_⟩:=hW;go_simp
    refine ay ?_;refine aO 10 (.bool false) 91 hH (fun W hW=>?_) ?_
    ·obtain ⟨_,_⟩:=hW;go_simp
    refine ay ?_;refine aO 11 (.bool false) 92 hH (fun W hW=>?_) ?_
    ·obtain ⟨_,_⟩:=hW;go_simp
    refine ay ?_;refine mQ 12 (.agg (ai z.t (.slice A5 m c5))) 93 rfl rfl hH (yieldsIf_load_mid (by rfl) _ _ rfl rb 0 rfl (ai z.t (.slice A5 m c5)).toList _ (fun W hW j v hv=>by rw [Nat.zero_add,hW.1.2 j];simpa using hv) Tryz.underlying32 rfl (by rw [hsz,Array.length_toList])) ?_;refine ay ?_;refine aO 13 (.slice (some ⟨cb,co,none⟩) n c) 94 hH (fun W hW=>?_) ?_
    ·obtain ⟨_,_⟩:=hW;go_simp
    refine ay ?_;refine aO 14 (I (k:Nat)) 95 hH (fun W hW=>?_) ?_
    ·obtain ⟨_,_⟩:=hW;go_simp
    refine ay ?_;refine aO 15 (.pointer (some ⟨cb,co+k*68,none⟩)) 96 hH (fun W hW=>?_) ?_
    ·obtain ⟨_,_⟩:=hW;go_simp
    refine ay ?_;refine mQ 16 (.agg z.cells.toArray) 97 rfl rfl hH (yieldsIf_load_mid (by rfl) _ _ rfl cb (co+k*68) rfl z.cells _ (fun W hW j v hv=>hW.2 j v hv) Tryz.underlying32 rfl hzi) ?_;refine ay ?_;clear hH;refine wpAnyH_ready (rs:= [17]) (by decide+kernel) (by simp) ?_;refine AllReadyH.cons rfl (fun K hK=>?_) AllReadyH.nil;go_simp;go_at_call 10;refine (HSA.out qK.drew (Below.refl _ qK).drew).mono ?_;rintro e KT ⟨rfl,b11⟩;have b12:=ah (Below.refl qK.heap.size qK).drew b11;have Rn:=ae (ah rC.out b12);have BD:=ae (own_below IV.out b12);refine hK.out _ _ (HS.out _ b12) (fun hH=>?_);clear hK K b11 b12;refine ay ?_;refine aO 18 (.bool false) 99 hH (fun W hW=>?_) ?_
    ·obtain ⟨_,_⟩:=hW;go_simp
    refine ay ?_;refine aO 19 (.bool false) 100 hH (fun W hW=>?_) ?_
    ·obtain ⟨_,_⟩:=hW;go_simp
    refine ay ?_;clear hH hsz hzi;refine wpAnyH_done (by decide+kernel) ?_ _;clear HSA HS RV IV KY rC;have hnn:¬(N:Int)=0:=by omega
    have hx2:0≤x%(N:Int):=Int.emod_nonneg _ hnn;have hx3:x%(N:Int)<(N:Int):=Int.emod_lt_of_pos _ (by omega);have yA:x.tmod (N:Int)=x%(N:Int):=Int.tmod_eq_emod_of_nonneg hx0;obtain ⟨q,hq⟩:∃q:Nat,x%(N:Int)=(q:Int):=⟨(x%(N:Int)).toNat,by omega⟩;rw [hq] at hx2 hx3 yA;have hqN:q<N:=by omega
    have hqc:(q:Int)≤(c7:Int):=by have:=Ru.out.1;omega
    have YR:=ae ((iL KT ((pU z.t).take q) (some ⟨g7,0,none⟩) q c7 (by rw [List.length_take,HN.out];omega) (by omega) Ru.out.2 (zA (mY BD.out HN.out))).mono fun e w' h=>rV h (Fe tK.out (by rw [HN.out];exact hqN)));clear hq;go_upto_region 18 with fail;go_wp2_with fail;refine YR.out.mono ?_;rintro e w12 ⟨rfl,b12⟩;have ZH:=ae (ah Rn.out b12);have RI:=ae (own_below BD.out b12);clear b12 YR BD Rn hqc yA hx2 hx3;go_wp2_with (first
     |((with_reducible refine bu 32 ?_);refine bH rfl _ rfl (ai bn (.slice none 0 0)) fK ?_)
     |((with_reducible refine bV 32 ?_);go_must (refine cZ rfl _ _ _ rfl (ai bn (.slice none 0 0)) rfl rfl 32 (ai bn (.slice none 0 0)) rfl (bP bn _ rfl rfl) rfl (aT _ _ _ _) ?_;intro zT CQ hl13 hr13;have qx:=ae (ah ZH.out CQ);have RJ:=ae (own_below RI.out CQ);have Z7:=ae (FP zT);clear CQ hl13 hr13))
     |(at_builtin;refine wpList_append_own_at _ rfl _ _ 22 rfl zT.heap.size 5 Ri (.int .u8 0) 1 1 Tryz.underlying22 HI.out YZ.out vX.out yz.out rfl (by decide) _ 0 [] rfl Z7.out ⟨g7,0,none⟩ N c7 ((pU z.t).map Extern.Stop.cell) rfl (by rw [List.length_map,HN.out];omega) ((own_below RJ.out (ag zT _)).cells rfl) (by intro u hu;obtain ⟨z,_,rfl⟩:=List.mem_map.1 hu;rfl) (by unfold maxLen;omega) (by omega) (by simp) ?_))
    intro v' w14 wB Uc _ _;have xe:Hid (Below zT.heap.size zT w14):=ae (bZ (ag zT _) Z7.out (by simp) Uc);have Jy:=xe.out.size;have TQ:0<N:=by omega
    obtain ⟨g14,c14,rfl,_⟩:=eU wB TQ;have BF:=ae wB;clear wB Uc Z7;go_wp2_with (at_builtin;refine wpList_append_own_at _ rfl _ _ 22 rfl zT.heap.size 5 Ri (.int .u8 0) 1 1 Tryz.underlying22 HI.out YZ.out vX.out yz.out rfl (by decide) _ _ _ rfl (BF.out.alloc _) ⟨w14.heap.size,0,none⟩ 1 1 [Extern.Stop.cell (byteOf x)] rfl rfl (by rw [fE];exact cell_one_new _ _ _) (by intro u hu;simp at hu;subst hu;rfl) (by unfold maxLen;omega) (by omega) (by simp;omega) ?_);intro v' w15 wC Ud _ _;have IK:Hid (Below zT.heap.size zT w15):=ae (bZ (xe.out.trans ((ag w14 _).mono Jy)) (BF.out.alloc _) (by simp;omega) Ud);have ZJ:=ae (ah qx.out IK.out);obtain ⟨g15,c15,rfl,_⟩:=eU wC (Nat.succ_pos _);have wE:w15.ownsRow zT.heap.size 5 1 (.slice (some ⟨g15,0,none⟩) (N+1) c15) (N+1) ((pU z.t++ [byteOf x]).map Extern.Stop.cell):=by
     rw [List.map_append];simpa using wC
    have wu:=xJ wE;have hbl:(pU z.t++ [byteOf x]).length=N+1:=by rw [bF,HN.out,List.length_singleton]
    have HRM:=ae ((iL w15 (pU z.t++ [byteOf x]) (some ⟨g15,0,none⟩) (N+1) c15 hbl wu.1 wu.2 (mY wE hbl)).mono fun e w' h=>rV h (Jc tK.out (byteOf x)));clear wC wE Ud wu hbl xe BF Jy IK TQ;go_wp2_with fail;refine HRM.out.mono ?_;rintro e w16 ⟨rfl,hb16⟩;have VR:=ae (ah ZJ.out hb16);clear hb16 HRM;go_wp2_with (first
     |((with_reducible refine bu 32 ?_);refine bH rfl _ rfl (ai bn (.slice none 0 0)) fK ?_)
     |((with_reducible refine bV 32 ?_);go_must (refine cZ rfl _ _ _ rfl (ai bn (.slice none 0 0)) rfl rfl 32 (ai bn (.slice none 0 0)) rfl (bP bn _ rfl rfl) rfl (aT _ _ _ _) ?_;intro w17 TY hl17 hr17;have ZK:=ae (ah VR.out TY);clear TY hl17 hr17)))
    go_roundw
    case rel=>exact ⟨k+1,hlt,by go_num,ZK.out⟩
    case measure=>simp [intOf];have:=hlt;omega
   ·have hkn:k=n:=by omega
    have hlt':¬(k:Int)<(n:Int):=by omega
    clear hlt hkn;go_wp2_with fail;go_ret;exact ⟨rfl,Ed.out.trans (HB.out.mono Ed.out.size)⟩
 ·have HB2:=ae (ah HB1.out hb2);have HR2:=ae (HR1.out.keep hb2);clear hb2 hac HR1;go_upto_region 5 with (first
   |((with_reducible refine bu 32 ?_);refine bH rfl _ rfl (ai bn (.slice none 0 0)) fK ?_)
   |((with_reducible refine bV 32 ?_);go_must (refine cZ rfl _ _ _ rfl (ai bn (.slice none 0 0)) rfl rfl 32 (ai bn (.slice none 0 0)) rfl (bP bn _ rfl rfl) rfl (aT _ _ _ _) ?_;intro w5 hb3 hl3 hr3;have HB3:=ae hb3;clear hb3 hr3)))
  have ZP:=ae (ah HB2.out HB3.out);have tJ:=ae (HR2.out.keep HB3.out);clear HB2 HR2 HB3 hl3;go_upto_region 9 with fail;go_wp2_with ((with_reducible refine dM 27 ?_);go_must (refine aV rfl _ _ rfl w.heap.size rfl r.cells.toArray tJ.out _ Tryz.underlying27 rfl HRI.out ?_));refine (V4.out w5 ZP.out).mono ?_;rintro e w6 ⟨A,n,c,ts,rfl,htl,hn5,hca,yA,_,hb6⟩;have Ed:=ae (ah ZP.out hb6);have BJ:=ae htl;have HCA:=ae hca;have YU:=ae yA;clear htl hca yA hb6 ZP V4 tJ;go_wp2_with fail
  go_loopw [13] (fun i wr=>∃k:Nat,k≤n∧i=I k∧Below w6.heap.size w6 wr) (fun i _=>n - (intOf i).toNat)
  case atStart=>exact ⟨0,Nat.zero_le _,rfl,Below.refl _ _⟩
  case round=>
   obtain ⟨k,hk,rfl,hb⟩:=hrel;have HB:=ae hb;clear hb;by_cases hlt:k<n
   ·have i0:(0:Int)≤(k:Int):=by omega
    have i1:(k:Int)<(n:Int):=by omega
    obtain ⟨z,hz⟩:∃z,ts[k]? =some z:=⟨_,dK (by rw [BJ.out];omega)⟩;have hzm:=gz hz;obtain ⟨cb,co,rfl,hcb,hTA⟩:∃b off,A=some ⟨b,off,none⟩∧b<w6.heap.size∧rG w6 b off ts:=by
     rcases xR HCA.out with h1|h1
     ·have:=BJ.out;omega
     ·exact h1
    have HZR:Hid (∀W,Below w6.heap.size w6 W→W.rangeAt cb (co+k*68) z.cells):=ae fun W h=>aW (hTA k z hz).1 h hcb;have hz68:=(hTA k z hz).2;have Iz:Hid ((Tryz.prog.info? 32).map (·.size)=some z.cells.length):=ae (by rw [hz68];kernel_rfl);have Gn:=ae (HCA.out.each z hzm);have HZM:=ae (YU.out z hzm);have tK:=ae (HZM.out.good Gn.out.prev Gn.out.bJ);have Ob:=ae (HZM.out.up Gn.out.names);have HZ3:=ae (Gn.out.grow HB.out);have Sj:=ae (O8 z.t tK.out);have HTV:=ae (GZ tK.out Gn.out.names Ob.out);have VP:=ae (JF tK.out Gn.out.names Ob.out);have Bz:Hid (Calls Tryz.prog 7 #[.agg z.cells.toArray] wr (BN wr (pU z.t))):=ae (mg z.t z.A z.zs.length z.c z.zs wr (Pm HTV.out HZ3.out.prev HZ3.out.bJ) HZ3.out.names rfl HZ3.out.aK HTV.out);obtain ⟨m,hm⟩:∃m,z.zs.length=m:=⟨_,rfl⟩;have HM:=ae hm;have Vz:Hid (z.t.aK.length=m):=ae (by rw [Gn.out.names,List.length_map,hm]);have Xd:m≤3:=by have h1:=HZM.out.num;have h2:=Vz.out;omega
    obtain ⟨N,hN⟩:∃N,(pU z.t).length=N:=⟨_,rfl⟩;have HN:=ae hN;have hN1:N≤18000:=by rw [←hN];exact Sj.out.2
    have hN0:36≤N:=by rw [←hN];exact Sj.out.1
    have hwr:=HB.out.size;clear hz hzm hTA hm hN;go_upto_region 14 with ((with_reducible refine dM 32 ?_);go_must (refine bU rfl _ _ rfl cb (co+k*68) rfl z.cells (HZR.out _ HB.out) _ Tryz.underlying32 rfl Iz.out ?_));refine Bz.out.mono ?_;rintro e w7 ⟨⟨g7,c7,rfl,Qe⟩,hb7⟩;rw [HN.out] at Qe ⊢;have oO:=ae (ah HB.out hb7);have hg7:=fM Qe;obtain ⟨hcap1,hcap2⟩:=xJ Qe;have RN:=ae Qe;have HRE:=ae ((iL w7 (pU z.t) (some ⟨g7,0,none⟩) N c7 HN.out hcap1 hcap2 (mY Qe HN.out)).mono fun e w' h=>Dt (t:= {z.t with bJ:=aS}) h VP.out Vz.out);have dR:Hid (∀v,(Tryz.prog.info? 32).map (·.size)=some (ai {z.t with bJ:=aS} v).size):=ae fun v=>bP _ v HZ3.out.prev rfl;have rE:Hid (∀v,(ai bn (.slice none 0 0)).size=(ai {z.t with bJ:=aS} v).size):=ae fun v=>by exact (aZ bn _ rfl rfl).trans (aZ {z.t with bJ:=aS} v HZ3.out.prev rfl).symm
    have Ru:Hid (N≤c7∧c7≤9223372036854775807):=ae ⟨hcap1,hcap2⟩;have hs7:=oO.out.size;clear Qe hb7 hcap1 hcap2 Bz;go_upto_region 14 with fail;go_wp2_with fail;refine HRE.out.mono ?_;rintro e w8 ⟨A5,c5,ys,rfl,hq5,hy5,hb5⟩;have Il:=ae (ah oO.out hb5);have HQ8:=ae hq5.zes;have Y1:=ae hy5;have RP:=ae (own_below RN.out hb5);have hs8:w7.heap.size≤w8.heap.size:=hb5.size;clear hq5 hy5 hb5 HRE RN oO;go_upto_region 15 with (first
     |((with_reducible refine bu 32 ?_);go_must (refine aN rfl _ rfl (ai bn (.slice none 0 0)) eP ?_))
     |((with_reducible refine eQ 32 ?_);go_must (refine wpList_store_row rfl _ _ _ rfl w8.heap.size (ai {z.t with bJ:=aS} (.slice A5 m c5)) rfl rfl 32 (ai bn (.slice none 0 0)) (heap_alloc_last _ _) (dR.out _) (rE.out _) (aT _ _ _ _) ?_)))
    have Ap:Below w8.heap.size w8 ((w8.alloc (.cells (ai bn (.slice none 0 0)) 32)).setRow w8.heap.size (ai {z.t with bJ:=aS} (.slice A5 m c5))):=aC (ag w8 _) (Nat.le_refl _) _;have TW:=(AV.oH (AV.new w8 (ai bn (.slice none 0 0)) 32) (ai {z.t with bJ:=aS} (.slice A5 m c5))).var;generalize (w8.alloc (.cells (ai bn (.slice none 0 0)) 32)).setRow w8.heap.size (ai {z.t with bJ:=aS} (.slice A5 m c5))=w9 at Ap TW ⊢;have HM9:Hid (w9.rangeAt cb (co+k*68+36) (au z.t.bJ)):=ae (F5 (HZR.out w9 (ah Il.out Ap)) HZ3.out.prev);have Io:Hid ((Tryz.prog.info? 24).map (·.size)=some (au z.t.bJ).length):=ae (by rw [show (au z.t.bJ).length=32 by simp [au,HZ3.out.bJ]];kernel_rfl);obtain ⟨qK,GL⟩:∃W,w9.setCells w8.heap.size 36 (cD z.t.bJ).toList=W:=⟨_,rfl⟩;have h10:qK.heap[w8.heap.size]? =some (.cells (ai z.t (.slice A5 m c5)) 32 (0,0)):=by
     rw [←GL];have h:=nG (cD z.t.bJ).toList w9 w8.heap.size 36 _ _ TW;rw [show (cD z.t.bJ).toList=au z.t.bJ from rfl,wO {z.t with bJ:=aS} _ z.t.bJ HZ3.out.prev rfl HZ3.out.bJ] at h;exact h
    have Ak:Below w8.heap.size w8 qK:=by rw [←GL];exact jv (Nat.le_refl _) _ _ _ Ap
    have VG:Hid (w9.there w8.heap.size 36 (cD z.t.bJ).size):=ae fun j hj=>⟨by rw [cell_of_row _ w8.heap.size _ _ _ _ TW];have hs:=aZ {z.t with bJ:=aS} (.slice A5 m c5) HZ3.out.prev rfl;rw [kK,HZ3.out.bJ] at hj;rw [Array.getElem?_eq_getElem (by omega)];rfl,frozen_of_row _ _ _ _ _ TW⟩;have KU:=ae (mX z.t.bJ HZ3.out.bJ);have Sl:=ae GL;have rC:=ae (ah Il.out Ak);have RV:=ae (HQ8.out.grow Ak);have IV:=ae (own_below RP.out Ak);have KY:=ae (Row.kF h10);clear Ap TW h10 Ak GL Il HQ8 RP;go_upto_region 16 with (first
     |((with_reducible refine dM 24 ?_);go_must (refine bU rfl _ _ rfl cb (co+k*68+36) rfl (au z.t.bJ) HM9.out _ Tryz.underlying24 rfl Io.out ?_))
     |((with_reducible refine bV 24 ?_);go_must ((refine wpList_store_mid rfl _ _ _ rfl w8.heap.size 36 (cD z.t.bJ) rfl rfl VG.out KU.out (rH _) ?_);rw [Sl.out])))
    obtain ⟨rb,hrb⟩:∃b,w8.heap.size=b:=⟨_,rfl⟩;rw [hrb] at KY;simp only [hrb];clear Sl HM9 Io KU VG dR rE;have dR:Hid ((Tryz.prog.info? 32).map (·.size)=some (ai z.t (.slice A5 m c5)).size):=ae (bP _ _ HZ3.out.prev HZ3.out.bJ);have hZC:z.cells.toArray=ai z.t (.slice z.A m z.c):=by rw [←HM.out];rfl
    have HSA:Hid (∀W,Below qK.heap.size qK W→Calls Tryz.prog 10 #[.agg (ai z.t (.slice A5 m c5)), .agg z.cells.toArray] W (Gives (.bool true) W)):=ae fun W hb=>by
     rw [hZC];exact Dv z.t A5 z.A c5 z.c m ys z.zs z.t.aK W HZ3.out.prev HZ3.out.bJ Y1.out HZ3.out.names.symm Vz.out (by omega) (fun e he=>(tK.out.good e he).1.len) (RV.out.grow hb) ((Gn.out.aK).grow (ah rC.out hb))
    have HS:Hid (∀W,Below qK.heap.size qK W→Row W rb (ai z.t (.slice A5 m c5))∧W.rangeAt cb (co+k*68) z.cells):=ae fun W hb=>⟨KY.out.keep hb,HZR.out W (ah rC.out hb)⟩;have hsz:=dR.out;have hzi:=Iz.out;have hNz:((N:Int)==0)=false:=by simp;omega
    have hNz2:(N==0)=false:=by simp;omega
    clear hZC;refine wp_region_held_drew (S:=fun W=>Row W rb (ai z.t (.slice A5 m c5))∧W.rangeAt cb (co+k*68) z.cells) (by kernel_rfl) (HS.out _ (Below.refl _ qK).drew) (fun hH=>?_);refine aO 0 (I 0) 81 hH (fun W hW=>?_) ?_
    ·obtain ⟨_,_⟩:=hW;go_simp
    refine ay ?_;refine aO 1 (.bool false) 82 hH (fun W hW=>?_) ?_
    ·obtain ⟨_,_⟩:=hW;go_simp
    refine ay ?_;refine aO 2 (.bool false) 83 hH (fun W hW=>?_) ?_
    ·obtain ⟨_,_⟩:=hW;go_simp
    refine ay ?_;refine aO 3 (I 0) 84 hH (fun W hW=>?_) ?_
    ·obtain ⟨_,_⟩:=hW;go_simp
    refine ay ?_;refine aO 4 (.bool false) 85 hH (fun W hW=>?_) ?_
    ·obtain ⟨_,_⟩:=hW;go_simp
    refine ay ?_;refine aO 5 (.bool false) 86 hH (fun W hW=>?_) ?_
    ·obtain ⟨_,_⟩:=hW;go_simp
    refine ay ?_;refine aO 6 (.bool false) 87 hH (fun W hW=>?_) ?_
    ·obtain ⟨_,_⟩:=hW;go_simp
    refine ay ?_;refine aO 7 (.slice (some ⟨g7,0,none⟩) N c7) 88 hH (fun W hW=>?_) ?_
    ·obtain ⟨_,_⟩:=hW;go_simp
    refine ay ?_;refine aO 8 (I (N:Nat)) 89 hH (fun W hW=>?_) ?_
    ·obtain ⟨_,_⟩:=hW;go_simp
    refine ay ?_;refine aO 9 (.bool false) 90 hH (fun W hW=>?_) ?_
    ·obtain ⟨_,_⟩:=hW;go_simp
    refine ay ?_;refine aO 10 (.bool false) 91 hH (fun W hW=>?_) ?_
    ·obtain ⟨_,_⟩:=hW;go_simp
    refine ay ?_;refine aO 11 (.bool false) 92 hH (fun W hW=>?_) ?_
    ·obtain ⟨_,_⟩:=hW;go_simp
    refine ay ?_;refine mQ 12 (.agg (ai z.t (.slice A5 m c5))) 93 rfl rfl hH (yieldsIf_load_mid (by rfl) _ _ rfl rb 0 rfl (ai z.t (.slice A5 m c5)).toList _ (fun W hW j v hv=>by rw [Nat.zero_add,hW.1.2 j];simpa using hv) Tryz.underlying32 rfl (by rw [hsz,Array.length_toList])) ?_;refine ay ?_;refine aO 13 (.slice (some ⟨cb,co,none⟩) n c) 94 hH (fun W hW=>?_) ?_
    ·obtain ⟨_,_⟩:=hW;go_simp
    refine ay ?_;refine aO 14 (I (k:Nat)) 95 hH (fun W hW=>?_) ?_
    ·obtain ⟨_,_⟩:=hW;go_simp
    refine ay ?_;refine aO 15 (.pointer (some ⟨cb,co+k*68,none⟩)) 96 hH (fun W hW=>?_) ?_
    ·obtain ⟨_,_⟩:=hW;go_simp
    refine ay ?_;refine mQ 16 (.agg z.cells.toArray) 97 rfl rfl hH (yieldsIf_load_mid (by rfl) _ _ rfl cb (co+k*68) rfl z.cells _ (fun W hW j v hv=>hW.2 j v hv) Tryz.underlying32 rfl hzi) ?_;refine ay ?_;clear hH;refine wpAnyH_ready (rs:= [17]) (by decide+kernel) (by simp) ?_;refine AllReadyH.cons rfl (fun K hK=>?_) AllReadyH.nil;go_simp;go_at_call 10;refine (HSA.out qK.drew (Below.refl _ qK).drew).mono ?_;rintro e KT ⟨rfl,b11⟩;have b12:=ah (Below.refl qK.heap.size qK).drew b11;have Rn:=ae (ah rC.out b12);have BD:=ae (own_below IV.out b12);refine hK.out _ _ (HS.out _ b12) (fun hH=>?_);clear hK K b11 b12;refine ay ?_;refine aO 18 (.bool false) 99 hH (fun W hW=>?_) ?_
    ·obtain ⟨_,_⟩:=hW;go_simp
    refine ay ?_;refine aO 19 (.bool false) 100 hH (fun W hW=>?_) ?_
    ·obtain ⟨_,_⟩:=hW;go_simp
    refine ay ?_;clear hH hsz hzi;refine wpAnyH_done (by decide+kernel) ?_ _;clear HSA HS RV IV KY rC;have hnn:¬(N:Int)=0:=by omega
    have hx2:0≤x%(N:Int):=Int.emod_nonneg _ hnn;have hx3:x%(N:Int)<(N:Int):=Int.emod_lt_of_pos _ (by omega);have yA:x.tmod (N:Int)=x%(N:Int):=Int.tmod_eq_emod_of_nonneg hx0;obtain ⟨q,hq⟩:∃q:Nat,x%(N:Int)=(q:Int):=⟨(x%(N:Int)).toNat,by omega⟩;rw [hq] at hx2 hx3 yA;have hqN:q<N:=by omega
    have hqc:(q:Int)≤(c7:Int):=by have:=Ru.out.1;omega
    have YR:=ae ((iL KT ((pU z.t).take q) (some ⟨g7,0,none⟩) q c7 (by rw [List.length_take,HN.out];omega) (by omega) Ru.out.2 (zA (mY BD.out HN.out))).mono fun e w' h=>rV h (Fe tK.out (by rw [HN.out];exact hqN)));clear hq;go_upto_region 18 with fail;go_wp2_with fail;refine YR.out.mono ?_;rintro e w12 ⟨rfl,b12⟩;have ZH:=ae (ah Rn.out b12);have RI:=ae (own_below BD.out b12);clear b12 YR BD Rn hqc yA hx2 hx3;go_wp2_with (first
     |((with_reducible refine bu 32 ?_);refine bH rfl _ rfl (ai bn (.slice none 0 0)) fK ?_)
     |((with_reducible refine bV 32 ?_);go_must (refine cZ rfl _ _ _ rfl (ai bn (.slice none 0 0)) rfl rfl 32 (ai bn (.slice none 0 0)) rfl (bP bn _ rfl rfl) rfl (aT _ _ _ _) ?_;intro zT CQ hl13 hr13;have qx:=ae (ah ZH.out CQ);have RJ:=ae (own_below RI.out CQ);have Z7:=ae (FP zT);clear CQ hl13 hr13))
     |(at_builtin;refine wpList_append_own_at _ rfl _ _ 22 rfl zT.heap.size 5 Ri (.int .u8 0) 1 1 Tryz.underlying22 HI.out YZ.out vX.out yz.out rfl (by decide) _ 0 [] rfl Z7.out ⟨g7,0,none⟩ N c7 ((pU z.t).map Extern.Stop.cell) rfl (by rw [List.length_map,HN.out];omega) ((own_below RJ.out (ag zT _)).cells rfl) (by intro u hu;obtain ⟨z,_,rfl⟩:=List.mem_map.1 hu;rfl) (by unfold maxLen;omega) (by omega) (by simp) ?_))
    intro v' w14 wB Uc _ _;have xe:Hid (Below zT.heap.size zT w14):=ae (bZ (ag zT _) Z7.out (by simp) Uc);have Jy:=xe.out.size;have TQ:0<N:=by omega
    obtain ⟨g14,c14,rfl,_⟩:=eU wB TQ;have BF:=ae wB;clear wB Uc Z7;go_wp2_with (at_builtin;refine wpList_append_own_at _ rfl _ _ 22 rfl zT.heap.size 5 Ri (.int .u8 0) 1 1 Tryz.underlying22 HI.out YZ.out vX.out yz.out rfl (by decide) _ _ _ rfl (BF.out.alloc _) ⟨w14.heap.size,0,none⟩ 1 1 [Extern.Stop.cell (byteOf x)] rfl rfl (by rw [fE];exact cell_one_new _ _ _) (by intro u hu;simp at hu;subst hu;rfl) (by unfold maxLen;omega) (by omega) (by simp;omega) ?_);intro v' w15 wC Ud _ _;have IK:Hid (Below zT.heap.size zT w15):=ae (bZ (xe.out.trans ((ag w14 _).mono Jy)) (BF.out.alloc _) (by simp;omega) Ud);have ZJ:=ae (ah qx.out IK.out);obtain ⟨g15,c15,rfl,_⟩:=eU wC (Nat.succ_pos _);have wE:w15.ownsRow zT.heap.size 5 1 (.slice (some ⟨g15,0,none⟩) (N+1) c15) (N+1) ((pU z.t++ [byteOf x]).map Extern.Stop.cell):=by
     rw [List.map_append];simpa using wC
    have wu:=xJ wE;have hbl:(pU z.t++ [byteOf x]).length=N+1:=by rw [bF,HN.out,List.length_singleton]
    have HRM:=ae ((iL w15 (pU z.t++ [byteOf x]) (some ⟨g15,0,none⟩) (N+1) c15 hbl wu.1 wu.2 (mY wE hbl)).mono fun e w' h=>rV h (Jc tK.out (byteOf x)));clear wC wE Ud wu hbl xe BF Jy IK TQ;go_wp2_with fail;refine HRM.out.mono ?_;rintro e w16 ⟨rfl,hb16⟩;have VR:=ae (ah ZJ.out hb16);clear hb16 HRM;go_wp2_with (first
     |((with_reducible refine bu 32 ?_);refine bH rfl _ rfl (ai bn (.slice none 0 0)) fK ?_)
     |((with_reducible refine bV 32 ?_);go_must (refine cZ rfl _ _ _ rfl (ai bn (.slice none 0 0)) rfl rfl 32 (ai bn (.slice none 0 0)) rfl (bP bn _ rfl rfl) rfl (aT _ _ _ _) ?_;intro w17 TY hl17 hr17;have ZK:=ae (ah VR.out TY);clear TY hl17 hr17)))
    go_roundw
    case rel=>exact ⟨k+1,hlt,by go_num,ZK.out⟩
    case measure=>simp [intOf];have:=hlt;omega
   ·have hkn:k=n:=by omega
    have hlt':¬(k:Int)<(n:Int):=by omega
    clear hlt hkn;go_wp2_with fail;go_ret;exact ⟨rfl,Ed.out.trans (HB.out.mono Ed.out.size)⟩
end Go.Proofs.YtdibbemgpikgjaaGreat
