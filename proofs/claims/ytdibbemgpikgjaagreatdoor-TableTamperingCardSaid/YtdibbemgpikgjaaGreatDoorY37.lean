/- The texts Ee, Ef, Eg, in this order. -/
import Derived.Test.YtdibbemgpikgjaaGreatDoorY00
import Derived.Test.YtdibbemgpikgjaaGreatDoorY23
import Derived.Test.YtdibbemgpikgjaaGreatDoorY29
import Derived.Test.YtdibbemgpikgjaaGreatDoorY30
import Derived.Test.YtdibbemgpikgjaaGreatDoorY33
import Derived.Test.YtdibbemgpikgjaaGreatDoorY36
set_option maxRecDepth 10000
set_option maxHeartbeats 8000000
namespace Go.Proofs.YtdibbemgpikgjaaGreatDoor
open Go Go.RowKit
theorem TY (bs:List UInt8):(ng bs).length=bs.length+9+Gt bs.length:=by
 unfold ng Jl;rw [aZ,lK,upto_length,Oy];omega
theorem KN {ks ss:List Int} {xs:List UInt8} (h:ss.length=8):∀z∈Bq ks ss xs,0≤z∧z<4294967296:=by
 unfold Bq;have hl:=yA ks (gz xs 64) ss h 64;generalize rT ks (gz xs 64) ss 64=ts at hl;obtain ⟨a0,a1,a2,a3,a4,a5,a6,a7,rfl⟩:=BO h;obtain ⟨b0,b1,b2,b3,b4,b5,b6,b7,rfl⟩:=BO hl;intro z hz;simp [sumT] at hz;rcases hz with rfl|rfl|rfl|rfl|rfl|rfl|rfl|rfl<;>omega
theorem Uk (n c:Nat) (A:Option Addr) (bs:List UInt8) (w:World) (hl:bs.length=n) (h0:0<n) (hn:n≤200000) (hb:aA w w.heap.size A (bs.map Extern.Stop.cell)):
  Calls Tryz.prog 54 #[.slice A n c] w (Gives (.agg (cD (fH um bs))) w):=by
 have H0:=ae (DR.start w (List.replicate 8 0));have HB:=ae hb;have HL:=ae hl;obtain ⟨u8,YE⟩:∃l:List Int,List.replicate 8 0=l:=⟨_,rfl⟩;have HU8:Hid ((Tryz.prog.info? 117).map (fun i=>(i.zero,i.size))=some (some (.agg (au u8)),(au u8).size)):=ae (by rw [←YE];exact uz);have HU9:Hid ((au u8).size=(au YH).size):=ae (by rw [←YE,aV,aV];simp [YH]);have O5:Hid ((Tryz.prog.info? 117).map (·.size)=some (au YH).size):=ae (by kernel_rfl);rw [YE] at H0;have HP:Hid (∀W,Below w.heap.size w W→Calls Tryz.prog 81 #[.slice A n c] W (XQ W.heap.size (.slice none 0 0) W (ng bs))):=ae fun W h=>TZ n c A bs W hl h0 hn ((hb.keep h).more h.size);clear hb hl YE;have HPB:Hid ((ng bs).length=n+9+Gt n):=ae (by rw [TY,HL.out]);have hpl:=Oz n;have hpm:=I7 n;obtain ⟨N,hN⟩:∃N,n+9+Gt n=N:=⟨_,rfl⟩;have HN:=ae hN;have hNm:N%64=0:=by omega
 have hNb:N≤200100:=by omega
 have hN0:0<N:=by omega
 clear hpl hpm hN;go_enter Tryz.func54,Tryz.ntmps54;go_upto_region 2 with (first
  |((with_reducible refine bC 23 ?_);go_must (refine aH rfl _ rfl (cD d32) tV ?_))
  |((with_reducible refine bC 117 ?_);go_must (refine aH rfl _ rfl (au u8) HU8.out ?_))
  |((with_reducible refine eF 117 ?_);go_must (refine wpList_store_row rfl _ _ _ rfl (w.heap.size+1) (au YH) (congrArg (fun b=>Value.pointer (some ⟨b,0,none⟩)) (oL w _)) rfl 117 (au u8) (heap_alloc2_new w _ _) O5.out HU9.out (bJ _) ?_)))
 rw [oL w];generalize ((w.alloc (.cells (cD d32) 23)).alloc (.cells (au u8) 117)).setRow (w.heap.size+1) (au YH)=W1 at H0 ⊢;clear HU8 HU9 O5;go_wp2_with fail;refine (HP.out _ H0.out.lo).mono ?_;rintro e w2 ⟨A2,n2,c2,hn2,rfl,hown,hk⟩;have hpl:=HPB.out;obtain ⟨ps,hps⟩:∃l,ng bs=l:=⟨_,rfl⟩;rw [hps] at hpl hn2 hown;have HPS:=ae hps;clear hps;have hw1:=H0.out.s.lt;have hb2:Below W1.heap.size W1 w2:=hk.jc;have H2:=ae (H0.out.grow hb2);rw [HN.out] at hpl;obtain rfl:n2=N:=by omega
 obtain ⟨pb,cur,rfl,hlo,hnc,hcm,hav,Ti⟩:=EX hown hN0;have QT:=ae hav;have HCU:=ae Ti;have hpb:w.heap.size+1<pb:=by omega
 have Dw:Hid (ps.length=n2):=ae hpl;have hcI:(c2:Int)≤9223372036854775807:=by unfold maxLen at hcm;omega
 clear hav Ti hcm hb2 hown hk H0 HP hn2 hpl;go_wp2_with fail
 go_loopw [5] (fun i wr=>∃(k:Nat) (zs:List Int),k%64=0∧k≤n2∧i=I k∧zs.length=8∧zs=qK um nV (upto (chunk ps) (k / 64))∧(∀z∈zs,0≤z∧z<4294967296)∧DR w zs wr∧AV pb 5 cur wr) (fun i _=>n2 - (intOf i).toNat)
 case atStart=>exact ⟨0,YH,rfl,Nat.zero_le _,rfl,rfl,rfl,by decide,H2.out,QT.out⟩
 case round=>
  obtain ⟨k,zs,Wu,hk,rfl,hzl,hzf,hzb,hs,hav⟩:=hrel;have HZF:=ae hzf;have HZB:=ae hzb;clear hzf hzb;have HS:=ae hs;have HA:=ae hav;have HZ:=ae hzl;clear hs hav hzl H2 QT;by_cases hlt:(k:Int)<(n2:Int)
  ·have Ls:k+64≤n2:=by omega
   obtain ⟨k2,hk2⟩:∃q:Nat,k+64=q:=⟨_,rfl⟩;have g1:(k:Int)+64=(k2:Int):=by omega
   have g2:(k:Int)≤(k2:Int):=by omega
   have g3:(k2:Int)≤(c2:Int):=by omega
   have g4:IntKind.i64.wrap (k2:Int)=(k2:Int):=by rw [IntKind.wrap_i64];omega
   have g5:(k2:Int) - (k:Int)=64:=by omega
   have iO:=ae hk2;have hck:¬c2=k:=by omega
   have HRU:Hid (fD wr.drew (w.heap.size+1) (au zs)):=ae HS.out.drew.s.iY;have dR:Hid ((Tryz.prog.info? 117).map (·.size)=some (au zs).size):=ae (by rw [aV,HZ.out];kernel_rfl);go_wp2_with fail;refine wp_region_still_tail 6 (by kernel_rfl) (by kernel_rfl) ?_;simp only [List.take_succ_cons,List.take_zero,List.drop_succ_cons,List.drop_zero];refine zV rfl _ _ rfl (w.heap.size+1) rfl (au zs) HRU.out _ Tryz.underlying117 rfl dR.out ?_;repeat still_step
   refine wpStill_nil ?_;change wpList _ _ _ _ _ wr.drew;go_wp2_with fail;rw [show k2 - k=64 by omega];have NU:Hid (((ps.drop k).take 64).length=64):=ae (by have:=Dw.out;rw [List.length_take,List.length_drop];omega);have Yi:Hid (∀j,j<64→wr.drew.cell? ⟨pb,k+j,none⟩=some (Extern.Stop.cell (((ps.drop k).take 64)[j]?.getD 0))):=ae (fun j hj=>(HA.out.cell (k+j)).trans ((HCU.out (k+j) (by omega)).trans (by rw [List.getElem?_take_of_lt hj,List.getElem?_drop])));obtain ⟨xs,hxs⟩:∃l,(ps.drop k).take 64=l:=⟨_,rfl⟩;rw [hxs] at NU Yi;have xZ:=ae hxs;clear hxs;refine (step_x wr.drew pb k (c2 - k) zs HZ.out HZB.out xs NU.out HA.out.lt Yi.out).mono ?_;rintro e w4 ⟨rfl,hb4⟩;obtain ⟨zs2,WG⟩:∃l,Bq um zs xs=l:=⟨_,rfl⟩;rw [WG];have hz2:zs2.length=8:=by rw [←WG];exact yV _ _ _ HZ.out
   have HZQ:=ae WG;clear WG;have Ad:=ae (HS.out.drew.grow hb4);have HA4:=ae (HA.out.drew.below hb4);have HZ2:=ae hz2;have mZ:Hid ((Tryz.prog.info? 117).map (·.size)=some (au zs2).size):=ae (by rw [aV,HZ2.out];kernel_rfl);have Ae:Hid ((au zs).size=(au zs2).size):=ae (by rw [aV,aV,HZ.out,HZ2.out]);clear hb4 hz2 HS HA HRU;go_wp2_with ((with_reducible refine eF 117 ?_);go_must (refine wpList_store_row rfl _ _ _ rfl (w.heap.size+1) (au zs2) rfl rfl 117 (au zs) Ad.out.s.var mZ.out Ae.out (bJ _) ?_));go_roundw
   case rel=>exact ⟨k2,zs2,by have:=iO.out;omega,by have:=iO.out;omega,rfl,HZ2.out,by rw [←HZQ.out,HZF.out,show k2 / 64=k / 64+1 by have:=iO.out;omega,upto_succ,vY,←xZ.out];unfold chunk;rw [show 64*(k / 64)=k by omega],by rw [←HZQ.out];exact KN HZ.out,Ad.out.row _,HA4.out.rP (by omega) _⟩
   case measure=>simp [intOf];omega
  ·have HZER:Hid (Value.agg (cD d32)= .agg #[.int .u8 0, .int .u8 0, .int .u8 0, .int .u8 0, .int .u8 0, .int .u8 0, .int .u8 0, .int .u8 0, .int .u8 0, .int .u8 0, .int .u8 0, .int .u8 0, .int .u8 0, .int .u8 0, .int .u8 0, .int .u8 0, .int .u8 0, .int .u8 0, .int .u8 0, .int .u8 0, .int .u8 0, .int .u8 0, .int .u8 0, .int .u8 0, .int .u8 0, .int .u8 0, .int .u8 0, .int .u8 0, .int .u8 0, .int .u8 0, .int .u8 0, .int .u8 0]):=ae rfl;have HID:Hid ((Tryz.prog.info? 23).map (·.size)=some (cD d32).size):=ae (by kernel_rfl);clear HA;have hwr:=HS.out.s.lt;go_upto_region 8 with (first
    |((with_reducible refine bC 23 ?_);go_must (refine aH rfl _ rfl (cD d32) tV ?_))
    |((with_reducible refine eF 23 ?_);go_must (refine wpList_store_row rfl _ _ _ rfl wr.heap.size (cD d32) rfl HZER.out.symm 23 (cD d32) (heap_alloc_last _ _) HID.out rfl (vV _) ?_)))
   have HO:Hid (AV wr.heap.size 23 (cD d32) ((wr.alloc (.cells (cD d32) 23)).setRow wr.heap.size (cD d32))):=ae ((AV.new wr _ _).oZ _);have sS:Hid (DR w zs ((wr.alloc (.cells (cD d32) 23)).setRow wr.heap.size (cD d32))):=ae ((HS.out.grow (ag wr _)).aae _ hwr _);generalize (wr.alloc (.cells (cD d32) 23)).setRow wr.heap.size (cD d32)=W5 at HO sS ⊢;obtain ⟨ob,hob⟩:∃b,wr.heap.size=b:=⟨_,rfl⟩;rw [hob] at HO hwr ⊢;have AU:Hid (k=n2):=ae (by omega);clear hob HZER HS hlt;go_wp2_with fail
   go_loopw [7] (fun i wx=>∃(k:Nat) (ds:List UInt8),k≤32∧i=I k∧ds.length=32∧ds=eH zs k∧DR w zs wx∧AV ob 23 (cD ds) wx) (fun i _=>32 - (intOf i).toNat)
   case atStart=>exact ⟨0,d32,Nat.zero_le _,rfl,Aj,rfl,sS.out,HO.out⟩
   case round=>
    clear sS HO;obtain ⟨j,ds,hj,rfl,hdl,hds,hs,ho⟩:=hrel;have HDS:=ae hds;clear hds;have HS:=ae hs;have HO:=ae ho;have UO:=ae hdl;clear hs ho hdl;by_cases hlt:(j:Int)<32
    ·obtain ⟨q,hq⟩:∃q:Nat,j / 4=q:=⟨_,rfl⟩;obtain ⟨r,hr⟩:∃r:Nat,j%4=r:=⟨_,rfl⟩;have Wp:Int.tdiv (j:Int) 4=(q:Int):=by rw [Int.tdiv_eq_ediv_of_nonneg (by omega)];omega
     have hmr:Int.tmod (j:Int) 4=(r:Int):=by rw [Int.tmod_eq_emod_of_nonneg (by omega)];omega
     have hdq2:(j:Int) / 4=(q:Int):=by omega
     have hmr2:(j:Int)%4=(r:Int):=by omega
     have hq8:(q:Int)<8:=by omega
     have hr4:(r:Int)<4:=by omega
     obtain ⟨s,hs⟩:∃s:Int,24 - 8*(r:Int)=s:=⟨_,rfl⟩;have hs0:0≤s:=by omega
     have hs1:s≤24:=by omega
     obtain ⟨z,hz⟩:∃z,zs[q]?.getD 0=z:=⟨_,rfl⟩;have cS:wr.cell? ⟨w.heap.size+1,q,none⟩=some (.int .u32 z):=(HS.out.s.cell q).trans (by rw [bY _ _ (by rw [HZ.out];omega),hz]);obtain ⟨o0,ho0⟩:∃x:UInt8,ds[j]?.getD 0=x:=⟨_,rfl⟩;have cO:wr.cell? ⟨ob,j,none⟩=some (Extern.Stop.cell o0):=(HO.out.cell j).trans (by rw [Z8 _ _ (by rw [UO.out];omega),ho0]);have cf:=HO.out.dZ j;have Ye:Hid (ds.set j (byteOf (z / 2 ^ s.toNat))=eH zs (j+1)):=ae (by
      show _=(eH zs j).set j (byteOf ((zs[j / 4]?.getD 0) / 2 ^ (24 - 8*(j%4))));rw [HDS.out,hq,hz,hr,show s.toNat=24 - 8*r by omega])
     clear hq hr hz ho0;go_wp2_with fail;go_roundw
     case rel=>exact ⟨j+1,ds.set j (byteOf (z / 2 ^ s.toNat)),by omega,by go_num,by rw [List.length_set,UO.out],Ye.out,HS.out.far ob hwr _ _,by have h:=HO.out.put j (Extern.Stop.cell (byteOf (z / 2 ^ s.toNat)));rw [Z9,dF] at h;exact h⟩
     case measure=>simp [intOf];omega
    ·have HRW:Hid (fD wr ob (cD ds)):=ae HO.out.iY;have mZ:Hid ((Tryz.prog.info? 23).map (·.size)=some (cD ds).size):=ae (by rw [lD,UO.out];kernel_rfl);have iq:Hid ((cD d32).size=(cD ds).size):=ae (by rw [lD,lD,UO.out,Aj]);go_wp2_with (first
      |((with_reducible refine fU 23 ?_);go_must (refine aT rfl _ _ rfl ob rfl (cD ds) HRW.out _ Tryz.underlying23 rfl mZ.out ?_))
      |((with_reducible refine eF 23 ?_);go_must (refine wpList_store_row rfl _ _ _ rfl w.heap.size (cD ds) rfl rfl 23 (cD d32) HS.out.r.var mZ.out iq.out (vV _) ?_)))
     refine bodyPost_ret (v:= .agg (cD ds)) (results_cell_row rfl _ _ w.heap.size _ (cD ds) (0,0) _ rfl (setRow_heap _ _ _ _ _ _ HS.out.r.var) Tryz.underlying23 rfl mZ.out) rfl ?_;have PQ:j=32:=by omega
     have hds:ds=fH um bs:=by
      rw [HDS.out,PQ,HZF.out,AU.out];unfold fH;rw [HPS.out,Dw.out]
     exact ⟨by rw [hds],aB HS.out.lo (Nat.le_refl _) _⟩
theorem Fh (m:Int) (bs:List UInt8):∀k,k≤bs.length→jf m bs k=(bs.take k).map (xb m)++bs.drop k
 |0,_=>by simp [jf]
 |k+1,h=>by
  have ih:=Fh m bs k (by omega);show (jf m bs k).set k (xb m (bs[k]?.getD 0))=_;have hl:((bs.take k).map (xb m)).length=k:=by rw [List.length_map,List.length_take];omega
  rw [ih,List.set_append_right _ _ (by omega),hl,Nat.sub_self,List.drop_eq_getElem_cons (by omega:k<bs.length),List.set_cons_zero];rw [List.take_succ_eq_append_getElem (by omega:k<bs.length),List.map_append,bZ (by omega),List.append_assoc];rfl
theorem EE (m:Int) (key:List UInt8) (hk:key.length=32):ry m key=jf m (fM key) 64:=by
 have hl:(fM key).length=64:=by unfold fM;simp [hk]
 rw [Fh m _ 64 (by omega),List.take_of_length_le (by omega),List.drop_of_length_le (by omega),List.append_nil];unfold ry fM;rw [List.map_append];have h:(List.replicate 32 (0:UInt8)).map (xb m)=List.replicate 32 (byteOf m):=by
  rw [List.map_replicate];unfold xb;congr 1;have:bits BinOp.xor IntKind.u8 ((0:UInt8).toNat:Int) m=IntKind.u8.wrap m:=by
   show bits BinOp.xor IntKind.u8 0 m=_;simp [bits];rw [IntKind.wrap_u8',IntKind.wrap_u8',show (2:Int) ^ IntKind.u8.bits=256 from rfl];omega
  rw [this];unfold byteOf;rw [IntKind.wrap_u8'];simp
 rw [h];rfl
theorem WH (key:List UInt8) (hk:key.length=32) (n c:Nat) (A:Option Addr) (bs:List UInt8) (w:World) (hl:bs.length=n) (h0:0<n) (hn:n≤100000) (hb:aA w w.heap.size A (bs.map Extern.Stop.cell)):
  Calls Tryz.prog 45 #[.agg (cD key), .slice A n c] w (Gives (.agg (cD (sN um key bs))) w):=by
 have HB:=ae hb;have HL:=ae hl;have oJ:=ae hk;have H0:=ae (V2.start w 23 (cD key) 23 (cD d32));have dR:Hid (∀d:List UInt8,d.length=32→(Tryz.prog.info? 23).map (·.size)=some (cD d).size):=ae (fun d h=>by rw [lD,h];kernel_rfl);have Ae:Hid (∀d:List UInt8,d.length=32→(cD d32).size=(cD d).size):=ae (fun d h=>by rw [lD,lD,h,Aj]);clear hb hl hk;go_enter Tryz.func45,Tryz.ntmps45;go_upto_region 1 with (first
  |((with_reducible refine bC 23 ?_);go_must (refine aH rfl _ rfl (cD d32) tV ?_)))
 generalize (w.alloc (.cells (cD key) 23)).alloc (.cells (cD d32) 23)=W0 at H0 ⊢;have hw0:=H0.out.r.lt;go_wp2_with ((with_reducible refine fU 23 ?_);go_must (refine aT rfl _ _ rfl w.heap.size rfl (cD key) H0.out.s.iY _ Tryz.underlying23 rfl (dR.out _ oJ.out) ?_));refine (ED 54 key W0 oJ.out (by omega) (by omega)).mono ?_;rintro e w1 ⟨A1,n1,c1,l1,rfl,o1,k1⟩;have hn1:n1=64:=by rw [←l1,tJ _ _ oJ.out]
 subst hn1;obtain ⟨b1,hb1⟩:∃l,ry 54 key=l:=⟨_,rfl⟩;rw [hb1] at o1 l1;have HB1:=ae hb1;have H1:=ae (H0.out.grow k1.jc);have Aa:=ae o1;have xW:=ae l1;have hs1:W0.heap.size≤w1.heap.size:=k1.size;have HBW1:Hid (aA w1 w1.heap.size A (bs.map Extern.Stop.cell)):=ae ((HB.out.keep H1.out.lo).more H1.out.lo.size);clear o1 k1 l1 hb1 H0;go_wp2_with (at_builtin;go_must (refine jk rfl _ _ rfl W0.heap.size 64 c1 A1 b1 rfl Aa.out _ A n c bs rfl HL.out h0 HBW1.out (by omega) hs1 ?_));intro A2 c2 w2 o2 k2;have H2:=ae (H1.out.IU (k2.uX Aa.out.base hs1) hw0);have hs2:W0.heap.size≤w2.heap.size:=Nat.le_trans hs1 k2.size;have pI:=ae o2;clear o2 k2 H1 Aa HBW1;go_wp2_with fail;refine (Uk (64+n) c2 A2 (b1++bs) w2 (by rw [aZ,xW.out,HL.out]) (by omega) (by omega) (aA.eQ pI.out)).mono ?_;rintro e w3 ⟨rfl,hb3⟩;obtain ⟨d,hdd⟩:∃d,fH um (b1++bs)=d:=⟨_,rfl⟩;rw [hdd];have hd:d.length=32:=by rw [←hdd];exact dV _ _
 have Q3:=ae hdd;clear hdd;have H3:=ae (H2.out.grow hb3);have HD:=ae hd;have hw3:=H3.out.r.lt;clear H2 pI hb3 hd xW;go_upto_region 3 with (first
  |((with_reducible refine bC 23 ?_);go_must (refine aH rfl _ rfl (cD d32) tV ?_))
  |((with_reducible refine eF 23 ?_);go_must (refine wpList_store_row rfl _ _ _ rfl w3.heap.size (cD d) rfl rfl 23 (cD d32) (heap_alloc_last _ _) (dR.out _ HD.out) (Ae.out _ HD.out) (vV _) ?_)))
 have H4:Hid (V2 w 23 (cD key) 23 (cD d32) ((w3.alloc (.cells (cD d32) 23)).setRow w3.heap.size (cD d))):=ae (H3.out.grow (aB (ag w3 _) (Nat.le_refl _) _));have HI4:Hid (AV w3.heap.size 23 (cD d) ((w3.alloc (.cells (cD d32) 23)).setRow w3.heap.size (cD d))):=ae ((AV.new w3 _ _).oZ _);generalize (w3.alloc (.cells (cD d32) 23)).setRow w3.heap.size (cD d)=W4 at H4 HI4 ⊢;obtain ⟨ib,hib⟩:∃b,w3.heap.size=b:=⟨_,rfl⟩;rw [hib] at HI4 hw3 ⊢;clear hib H3;have hw4:=H4.out.r.lt;go_wp2_with ((with_reducible refine fU 23 ?_);go_must (refine aT rfl _ _ rfl w.heap.size rfl (cD key) H4.out.s.iY _ Tryz.underlying23 rfl (dR.out _ oJ.out) ?_));refine (ED 92 key W4 oJ.out (by omega) (by omega)).mono ?_;rintro e w5 ⟨A5,n5,c5,l5,rfl,o5,k5⟩;have YB:n5=64:=by rw [←l5,tJ _ _ oJ.out]
 subst YB;obtain ⟨b5,hb5⟩:∃l,ry 92 key=l:=⟨_,rfl⟩;rw [hb5] at o5 l5;have pO:=ae hb5;have H5:=ae (H4.out.grow k5.jc);have QI:=ae (HI4.out.below k5.jc);have pR:=ae o5;have Ya:=ae l5;have hs5:W4.heap.size≤w5.heap.size:=k5.size;clear o5 k5 l5 hb5 H4 HI4;go_wp2_with ((with_reducible refine fU 23 ?_);go_must (refine aT rfl _ _ rfl ib rfl (cD d) QI.out.iY _ Tryz.underlying23 rfl (dR.out _ HD.out) ?_));refine (yt d w5 HD.out).mono ?_;rintro e w6 ⟨A6,n6,c6,l6,rfl,o6,k6⟩;have hn6:n6=32:=by rw [←l6,HD.out]
 subst hn6;have H6:=ae (H5.out.grow k6.jc);have wX:=ae (pR.out.below k6.jc);have sH:=ae (aA.eQ o6);have hs6:W4.heap.size≤w6.heap.size:=Nat.le_trans hs5 k6.size;clear o6 k6 l6 H5 pR QI;go_wp2_with (at_builtin;go_must (refine jk rfl _ _ rfl W4.heap.size 64 c5 A5 b5 rfl wX.out _ A6 32 c6 d rfl HD.out (by omega) sH.out (by omega) hs6 ?_));intro A7 c7 w7 o7 k7;have H7:=ae (H6.out.IU (k7.uX wX.out.base hs6) hw4);have O6:=ae o7;clear o7 k7 H6 wX sH;go_wp2_with fail;refine (Uk (64+32) c7 A7 (b5++d) w7 (by rw [aZ,Ya.out,HD.out]) (by omega) (by omega) (aA.eQ O6.out)).mono ?_;rintro e w8 ⟨rfl,hb8⟩;obtain ⟨d2,hdd⟩:∃q,fH um (b5++d)=q:=⟨_,rfl⟩;rw [hdd];have hd2:d2.length=32:=by rw [←hdd];exact dV _ _
 have HDQ:=ae hdd;clear hdd;have H8:=ae (H7.out.grow hb8);have HD2:=ae hd2;clear H7 O6 hb8 hd2 Ya;go_wp2_with ((with_reducible refine eF 23 ?_);go_must (refine wpList_store_row rfl _ _ _ rfl (w.heap.size+1) (cD d2) rfl rfl 23 (cD d32) H8.out.r.var (dR.out _ HD2.out) (Ae.out _ HD2.out) (vV _) ?_));refine bodyPost_ret (v:= .agg (cD d2)) (results_cell_row rfl _ _ (w.heap.size+1) _ (cD d2) (0,0) _ rfl (setRow_heap _ _ _ _ _ _ H8.out.r.var) Tryz.underlying23 rfl (dR.out _ HD2.out)) rfl ?_;have hq:d2=sN um key bs:=by
  rw [←HDQ.out,←pO.out,←Q3.out,←HB1.out,EE _ _ oJ.out,EE _ _ oJ.out];rfl
 exact ⟨by rw [hq],aB H8.out.lo (Nat.le_succ _) _⟩
theorem OI (t:Tb):xE t=mQ t:=by
 have h1:∀l:List Lr,l.flatMap U5=l.flatMap lJ:=fun _=>rfl;have h2:∀l:List Tr,l.flatMap U6=l.flatMap jR:=fun _=>rfl;have h3:∀l:List Yr,l.flatMap XE=l.flatMap lS:=fun _=>rfl;have hc:∀c:Cal,tK c=FU c:=fun c=>by
  unfold tK FU dm;rw [h1];simp only [List.append_assoc]
 have hz:∀z:Zn,JO z=znB z:=fun z=>by
  unfold JO znB;rw [h2,h3,hc];simp only [List.append_assoc]
 have he:∀e:Ze,uY e=Vb e:=fun e=>by
  unfold uY Vb;rw [hz];simp only [List.append_assoc]
 have hl:∀l:List Ze,l.flatMap uY=l.flatMap Vb:=fun l=>by
  rw [show uY=Vb from funext he]
 unfold xE mQ QC;rw [hl];rfl
def SealX (w:World) (key:List UInt8) (t:Tb) (vz:Value) (e:Ending) (w':World):Prop:=
 ∃d:List UInt8,d.length=32∧sN um key (mQ t)=d∧e= .returned (.tuple #[.agg (ai {t with bn:=d} vz), .int .i64 0])∧Below w.heap.size w w'
def LinkX (w:World) (t:Tb) (e:Ending) (w':World):Prop:=∃d:List UInt8,d.length=32∧fH um (mQ t++t.bn)=d∧e= .returned (.agg (cD d))∧Below w.heap.size w w'
theorem CG (key:List UInt8) (hk:key.length=32) (x:bI) (w:World) (hx:jE w w.heap.size x) (h:FN x.t):
  Calls Tryz.prog 27 #[.agg (cD key), .agg (ai x.t (.slice x.A x.zs.length x.c))] w (SealX w key x.t (.slice x.A x.zs.length x.c)):=by
 obtain ⟨t,A,c,zs⟩:=x;simp only at h ⊢;have qy:t.prev.length=32:=hx.prev;have yx:t.bn.length=32:=hx.bn;obtain ⟨n,hn⟩:∃n,zs.length=n:=⟨_,rfl⟩;rw [hn];have oJ:=ae hk;have wZ:=ae qy;have wP:=ae (Jq t h qy);have HTE:Hid (xE t=mQ t):=ae (OI t);have uZ:Hid (∀W,Below w.heap.size w W→Calls Tryz.prog 44 #[.agg (ai t (.slice A n c))] W (YR W t)):=ae (fun W hb=>by rw [←hn];exact EG ⟨t,A,c,zs⟩ W ((hx.keep hb).more hb.size) h);have dR:Hid (∀v,(Tryz.prog.info? 37).map (·.size)=some (ai t v).size):=ae fun v=>bU t v qy yx;have H0:=ae (ZY.start w (cD key) (ai t (.slice A n c)));have Ag:Hid ((ai t (.slice A n c)).size=68):=ae (bF t _ qy yx);have HPUT:Hid (∀d:List UInt8,d.length=32→xy (ai t (.slice A n c)) 36 (aj d)=ai {t with bn:=d} (.slice A n c)):=ae (fun d hd=>MV t _ d qy yx hd);clear hx h hk qy yx hn;go_enter Tryz.func27,Tryz.ntmps27;go_upto_region 1 with (first
  |((with_reducible refine bC 37 ?_);go_must (refine aH rfl _ rfl (ai bQ (.slice none 0 0)) fO ?_)))
 rw [show w.heap.size+1+1=w.heap.size+2 from rfl];generalize ((w.alloc (.cells (cD key) 23)).alloc (.cells (ai t (.slice A n c)) 37)).alloc (.cells (ai bQ (.slice none 0 0)) 37)=W0 at H0 ⊢;go_wp2_with ((with_reducible refine fU 37 ?_);go_must (refine aT rfl _ _ rfl (w.heap.size+1) rfl (ai t (.slice A n c)) H0.out.t.iY _ Tryz.underlying37 rfl (dR.out _) ?_));refine (uZ.out W0 H0.out.lo).mono ?_;rintro e w1 ⟨A1,n1,c1,l1,rfl,o1,b1⟩;have H1:=ae (H0.out.grow b1);have xW:=ae l1;have lV:=ae (aA.eQ o1);have hn0:0<n1:=by rw [←l1];exact wP.out.1
 have hn1:n1≤400:=by rw [←l1];exact wP.out.2
 clear l1 o1 b1 H0 uZ;go_wp2_with ((with_reducible refine fU 23 ?_);go_must (refine aT rfl _ _ rfl w.heap.size rfl (cD key) H1.out.k.iY _ Tryz.underlying23 rfl (qI _ oJ.out) ?_));refine (WH key oJ.out n1 c1 A1 (xE t) w1 xW.out hn0 (by omega) lV.out).mono ?_;rintro e w2 ⟨rfl,hb2⟩;rw [HTE.out];obtain ⟨d,hdd⟩:∃d,sN um key (mQ t)=d:=⟨_,rfl⟩;rw [hdd];have hd:d.length=32:=by rw [←hdd];exact ug _ _ _
 have Q3:=ae hdd;clear hdd;have H2:=ae (H1.out.grow hb2);have HD:=ae hd;have Q5:=ae (qI d hd);have HTH:Hid (w2.there (w.heap.size+1) 36 (cD d).size):=ae (H2.out.t.there 36 _ (by rw [lD,hd,Ag.out];omega));have H3:Hid (ZY w (cD key) (ai {t with bn:=d} (.slice A n c)) (w2.setCells (w.heap.size+1) 36 (cD d).toList)):=ae (by
  have h:=H2.out.t.setQ 36 (cD d).toList;rw [show xy _ 36 (cD d).toList=_ from HPUT.out d hd] at h;exact ⟨H2.out.k.VX (by omega) _ _,h,H2.out.r.VX (by omega) _ _,nM (Nat.le_succ _) _ _ _ H2.out.lo⟩)
 have jU:Hid ((Tryz.prog.info? 37).map (·.size)=some (ai {t with bn:=d} (.slice A n c)).size):=ae (bU {t with bn:=d} _ wZ.out hd);have HE3:Hid ((ai bQ (.slice none 0 0)).size=(ai {t with bn:=d} (.slice A n c)).size):=ae ((bF bQ _ rfl rfl).trans (bF {t with bn:=d} _ wZ.out hd).symm);clear hb2 hd H1 lV;obtain ⟨W3,hW3⟩:∃W,w2.setCells (w.heap.size+1) 36 (cD d).toList=W:=⟨_,rfl⟩;rw [hW3] at H3;have HW3:=ae hW3;clear hW3;go_wp2_with (first
  |((with_reducible refine eF 23 ?_);go_must ((refine wpList_store_mid rfl _ _ _ rfl (w.heap.size+1) 36 (cD d) rfl rfl HTH.out Q5.out (vV _) ?_);rw [HW3.out]))
  |((with_reducible refine fU 37 ?_);go_must (refine aT rfl _ _ rfl (w.heap.size+1) rfl (ai {t with bn:=d} (.slice A n c)) H3.out.t.iY _ Tryz.underlying37 rfl jU.out ?_))
  |((with_reducible refine eF 37 ?_);go_must (refine wpList_store_row rfl _ _ _ rfl (w.heap.size+2) (ai {t with bn:=d} (.slice A n c)) rfl rfl 37 (ai bQ (.slice none 0 0)) H3.out.r.var jU.out HE3.out (bz _ _ _ _) ?_)))
 refine bodyPost_ret (v:= .tuple #[.agg (ai {t with bn:=d} (.slice A n c)),I 0]) (bK rfl _ _ (w.heap.size+2) _ (ai {t with bn:=d} (.slice A n c)) (0,0) _ rfl (setRow_heap _ _ _ _ _ _ H3.out.r.var) Tryz.underlying37 rfl jU.out _ rfl) rfl ?_;exact ⟨d,HD.out,Q3.out,rfl,aB H3.out.lo (Nat.le_succ_of_le (Nat.le_succ _)) _⟩
theorem TJ (x:bI) (w:World) (hx:jE w w.heap.size x) (h:FN x.t):
  Calls Tryz.prog 33 #[.agg (ai x.t (.slice x.A x.zs.length x.c))] w (LinkX w x.t):=by
 obtain ⟨t,A,c,zs⟩:=x;simp only at h ⊢;have qy:t.prev.length=32:=hx.prev;have yx:t.bn.length=32:=hx.bn;obtain ⟨n,hn⟩:∃n,zs.length=n:=⟨_,rfl⟩;rw [hn];have wZ:=ae qy;have xX:=ae yx;have wP:=ae (Jq t h qy);have HTE:Hid (xE t=mQ t):=ae (OI t);have uZ:Hid (∀W,Below w.heap.size w W→Calls Tryz.prog 44 #[.agg (ai t (.slice A n c))] W (YR W t)):=ae (fun W hb=>by rw [←hn];exact EG ⟨t,A,c,zs⟩ W ((hx.keep hb).more hb.size) h);have dR:Hid (∀v,(Tryz.prog.info? 37).map (·.size)=some (ai t v).size):=ae fun v=>bU t v qy yx;have H0:=ae (V2.start w 37 (ai t (.slice A n c)) 23 (cD d32));have Vq:Hid ((Tryz.prog.info? 23).map (·.size)=some (aj t.bn).length):=ae (by simp only [aj,List.length_map,yx];kernel_rfl);clear hx h qy yx hn;go_enter Tryz.func33,Tryz.ntmps33;go_upto_region 1 with (first
  |((with_reducible refine bC 23 ?_);go_must (refine aH rfl _ rfl (cD d32) tV ?_)))
 generalize (w.alloc (.cells (ai t (.slice A n c)) 37)).alloc (.cells (cD d32) 23)=W0 at H0 ⊢;go_wp2_with ((with_reducible refine fU 37 ?_);go_must (refine aT rfl _ _ rfl w.heap.size rfl (ai t (.slice A n c)) H0.out.s.iY _ Tryz.underlying37 rfl (dR.out _) ?_));refine (uZ.out W0 H0.out.lo).mono ?_;rintro e w1 ⟨A1,n1,c1,l1,rfl,o1,b1⟩;have H1:=ae (H0.out.grow b1);have xW:=ae l1;have Aa:=ae o1;have hw0:=H0.out.r.lt;have hs1:W0.heap.size≤w1.heap.size:=b1.size;have hn0:0<n1:=by rw [←l1];exact wP.out.1
 have hn1:n1≤400:=by rw [←l1];exact wP.out.2
 have wL:=ae (yD t (.slice A n c) (Row.jm H1.out.s.var) wZ.out);clear l1 o1 b1 H0 uZ;go_wp2_with ((with_reducible refine fU 23 ?_);go_must (refine bP rfl _ _ rfl w.heap.size 36 rfl (aj t.bn) wL.out _ Tryz.underlying23 rfl Vq.out ?_));refine (yt t.bn w1 xX.out).mono ?_;rintro e w2 ⟨A2,n2,c2,l2,rfl,o2,k2⟩;have hn2:n2=32:=by rw [←l2,xX.out]
 subst hn2;have H2:=ae (H1.out.grow k2.jc);have pI:=ae (Aa.out.below k2.jc);have HC2:=ae (aA.eQ o2);have hs2:W0.heap.size≤w2.heap.size:=Nat.le_trans hs1 k2.size;clear o2 k2 l2 H1 Aa wL;go_wp2_with (at_builtin;go_must (refine jk rfl _ _ rfl W0.heap.size n1 c1 A1 (xE t) rfl pI.out _ A2 32 c2 t.bn rfl xX.out (by omega) HC2.out (by omega) hs2 ?_));intro A3 c3 w3 o3 k3;have H3:=ae (H2.out.IU (k3.uX pI.out.base hs2) hw0);have vg:=ae o3;clear o3 k3 H2 pI HC2;go_wp2_with fail;refine (Uk (n1+32) c3 A3 (xE t++t.bn) w3 (by rw [aZ,xW.out,xX.out]) (by omega) (by omega) (aA.eQ vg.out)).mono ?_;rintro e w4 ⟨rfl,hb4⟩;rw [HTE.out];obtain ⟨d,hdd⟩:∃d,fH um (mQ t++t.bn)=d:=⟨_,rfl⟩;rw [hdd];have hd:d.length=32:=by rw [←hdd];exact dV _ _
 have Q3:=ae hdd;clear hdd;have H4:=ae (H3.out.grow hb4);have HD:=ae hd;have Q4:Hid ((cD d32).size=(cD d).size):=ae (by rw [lD,lD,hd,Aj]);clear H3 vg hb4 hd;go_wp2_with ((with_reducible refine eF 23 ?_);go_must (refine wpList_store_row rfl _ _ _ rfl (w.heap.size+1) (cD d) rfl rfl 23 (cD d32) H4.out.r.var (qI _ HD.out) Q4.out (vV _) ?_));refine bodyPost_ret (v:= .agg (cD d)) (results_cell_row rfl _ _ (w.heap.size+1) _ (cD d) (0,0) _ rfl (setRow_heap _ _ _ _ _ _ H4.out.r.var) Tryz.underlying23 rfl (qI _ HD.out)) rfl ?_;exact ⟨d,HD.out,Q3.out,rfl,aB H4.out.lo (Nat.le_succ _) _⟩
end Go.Proofs.YtdibbemgpikgjaaGreatDoor
