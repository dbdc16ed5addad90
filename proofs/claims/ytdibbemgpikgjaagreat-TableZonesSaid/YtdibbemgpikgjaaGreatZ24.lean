/- The texts Ni, in this order. -/
import Derived.Test.YtdibbemgpikgjaaGreatZ00
import Derived.Test.YtdibbemgpikgjaaGreatZ20
import Derived.Test.YtdibbemgpikgjaaGreatZ23
set_option maxRecDepth 10000
set_option maxHeartbeats 8000000
namespace Go.Proofs.YtdibbemgpikgjaaGreat
open Go Go.RowKit
theorem ys_bd (z:Zn) {r0 r1:Yr} (hc:gG z.cal) (hy:z.ay= [r0,r1]) (h0:wX r0) (h1:wX r1):Gt (dP z):=by
 have hz:=jP z hc;unfold dP;rw [hy];exact (IM z.cal r0 r1 z.cal.aN _ hc h0 h1 (by have:=hc.ep;omega) hc.ep.1 1400 _ _ _ (show Gt [] from fun _ h=>nomatch h) (by omega) (by omega) (by omega) (by simp)).1
theorem RN (z:Zn) (s:Zs) (r0 r1:Yr) (w:World) (hc:gG z.cal) (h:gW w w.heap.size s z) (hy:z.ay= [r0,r1]) (hr0:wX r0) (hr1:wX r1) (hg:iE (dP z) (dL z*1440)=true):
  Calls Tryz.prog 54 #[.agg (aj z s)] w fun e w'=>e= .returned (.tuple #[.pointer (some ⟨w.heap.size+1,0,none⟩), .bool true])∧∃A n c,oP w (aj z s).toList (dL z) A n c (dP z) w':=by
 have rE:=ae (fun (W:World) (hb:Below w.heap.size w W)=>Ql z.cal s.A s.B s.a s.b W hc ⟨h.au.grow hb,h.rules.grow hb⟩);have TY:=ae (fun (bg y:Int) (x:Yr) (W:World) (hx:wX x) (h1:0≤bg) (h2:bg≤100000) (hb:Below w.heap.size w W)=>IL z.cal s.A s.B s.a s.b bg y x W hc ⟨h.au.grow hb,h.rules.grow hb⟩ h1 h2 hx);have kX:=ae (fun (y:Int) (W:World) (hb:Below w.heap.size w W)=>VC z.cal s.A s.B s.a s.b y W hc ⟨h.au.grow hb,h.rules.grow hb⟩);have hbd:=jP z hc;have hge1:=lD z hc;have QK:=hc.ep;have HC:=ae hc;have SY:=ae (Rn hc hy hr0 hr1);have hzm:=(ys_bd z hc hy hr0 hr1);have Dq:=ae hg;obtain ⟨yb,yo,hD,hyb,FP⟩:=h.ay.there (by rw [hy];simp [Yr.cells]);have HY:Hid (∀W,Below w.heap.size w W→YC W yb yo r0 r1):=ae fun W hb=>by
  rw [hy] at FP;exact ⟨aU (aB.elem (s:=5) (f:=Yr.cells) (xs:= [r0,r1]) (fun _ _=>rfl) FP 0 r0 rfl) hb hyb,aU (aB.elem (s:=5) (f:=Yr.cells) (xs:= [r0,r1]) (fun _ _=>rfl) FP 1 r1 rfl) hb hyb⟩
 clear FP;have hzq:dL z=GZ (qC z.cal):=by unfold dL;rw [hy]
 have hcd:=EI z.cal hc;obtain ⟨dd,hdd⟩:∃d,qC z.cal=d:=⟨_,rfl⟩;rw [hdd] at rE hzq hcd;obtain ⟨res,hres⟩:∃res,Vf z r0 r1=res:=⟨_,rfl⟩;rw [hres] at SY;unfold Vf at hres;obtain ⟨q,hq⟩:∃q,dL z=q:=⟨_,rfl⟩;rw [hq] at hbd hge1 hres Dq hzq ⊢;obtain ⟨ys,hys⟩:∃ys,dP z=ys:=⟨_,rfl⟩;rw [hys] at SY Dq hzm ⊢;have HTBY:=ae hzm;clear hzm;have jG:=ae hres;have XP:=ae hr0;have XQ:=ae hr1;have hmi0:=hr0.mi;have hof0:=hr0.of;have UN:=hr1.mi;have UQ:=hr1.of;clear hres hq hys hr0 hr1 hc h hdd hg;obtain ⟨cal,st,tr,ho,yr⟩:=z;obtain ⟨A0,a,R0,r,C0,c0,D0,d0⟩:=s;simp only at hy hD rE TY kX QK HC jG ⊢;subst hy hD;obtain ⟨ep,uh⟩:∃ep,cal.aN=ep:=⟨_,rfl⟩;rw [uh] at QK jG;obtain ⟨lp,vU⟩:∃lp,cal.bu=lp:=⟨_,rfl⟩;obtain ⟨n0,hn0⟩:∃n,cal.au.length=n:=⟨_,rfl⟩;obtain ⟨n1,hn1⟩:∃n,cal.rules.length=n:=⟨_,rfl⟩;obtain ⟨n2,hn2⟩:∃n,tr.length=n:=⟨_,rfl⟩;unfold aj aF at*;simp only [uh,vU,hn0,hn1,hn2,List.length_cons,List.length_nil,Nat.zero_add,Nat.reduceAdd] at rE TY kX ⊢;clear uh vU hn0 hn1 hn2;obtain ⟨i0,hi,hq0,hq1,hq2⟩:=info_parts vX;have HI:=ae hi;have zD:=ae hq0;have oG:=ae hq1;have lL:=ae hq2;clear hi hq0 hq1 hq2;show Calls Tryz.prog _ #[.agg #[I ep, .slice A0 n0 a,I lp, .slice R0 n1 r,I st, .slice C0 n2 c0,I ho, .slice (some ⟨yb,yo,none⟩) 2 d0]] w _;show Calls Tryz.prog _ _ w (fun e w'=>e= .returned (.tuple #[.pointer (some ⟨w.heap.size+1,0,none⟩), .bool true])∧∃A n c,oP w [I ep, .slice A0 n0 a,I lp, .slice R0 n1 r,I st, .slice C0 n2 c0,I ho, .slice (some ⟨yb,yo,none⟩) 2 d0] q A n c ys w');have hone:(#[I ep, .slice A0 n0 a,I lp, .slice R0 n1 r,I st, .slice C0 n2 c0,I ho, .slice (some ⟨yb,yo,none⟩) 2 d0, .slice none 0 0,I 1]:Array Value).all (·.oneCell')=true:=by simp [Value.oneCell']
 have HV:=ae (AV.new w #[I ep, .slice A0 n0 a,I lp, .slice R0 n1 r,I st, .slice C0 n2 c0,I ho, .slice (some ⟨yb,yo,none⟩) 2 d0] 51);go_enter Tryz.func54,Tryz.ntmps54;go_wp2_with (first
  |((with_reducible refine dI 51 ?_);go_must (refine aW rfl _ _ rfl w.heap.size rfl #[I ep, .slice A0 n0 a,I lp, .slice R0 n1 r,I st, .slice C0 n2 c0,I ho, .slice (some ⟨yb,yo,none⟩) 2 d0] HV.out.jK _ Tryz.underlying51 rfl (by kernel_rfl) ?_))
  |((with_reducible refine iI 92 ?_);refine bY rfl 92 rfl #[I ep, .slice A0 n0 a,I lp, .slice R0 n1 r,I st, .slice C0 n2 c0,I ho, .slice (some ⟨yb,yo,none⟩) 2 d0, .slice none 0 0,I 1] (by kernel_rfl) ?_))
 have HK:Hid (oP w [I ep, .slice A0 n0 a,I lp, .slice R0 n1 r,I st, .slice C0 n2 c0,I ho, .slice (some ⟨yb,yo,none⟩) 2 d0] 1 none 0 0 [] ((w.alloc (.cells #[I ep, .slice A0 n0 a,I lp, .slice R0 n1 r,I st, .slice C0 n2 c0,I ho, .slice (some ⟨yb,yo,none⟩) 2 d0] 51)).alloc (.cells #[I ep, .slice A0 n0 a,I lp, .slice R0 n1 r,I st, .slice C0 n2 c0,I ho, .slice (some ⟨yb,yo,none⟩) 2 d0, .slice none 0 0,I 1] 92))):=ae ⟨ah (ag w _) (ag _ _),HV.out.below (ag _ _),by have:=AV.new (w.alloc (.cells #[I ep, .slice A0 n0 a,I lp, .slice R0 n1 r,I st, .slice C0 n2 c0,I ho, .slice (some ⟨yb,yo,none⟩) 2 d0] 51)) #[I ep, .slice A0 n0 a,I lp, .slice R0 n1 r,I st, .slice C0 n2 c0,I ho, .slice (some ⟨yb,yo,none⟩) 2 d0, .slice none 0 0,I 1] 92;rw [nY] at this;exact this,World.ownsRow_nil _ _ _ _,rfl⟩;clear HV;generalize (w.alloc (.cells #[I ep, .slice A0 n0 a,I lp, .slice R0 n1 r,I st, .slice C0 n2 c0,I ho, .slice (some ⟨yb,yo,none⟩) 2 d0] 51)).alloc (.cells #[I ep, .slice A0 n0 a,I lp, .slice R0 n1 r,I st, .slice C0 n2 c0,I ho, .slice (some ⟨yb,yo,none⟩) 2 d0, .slice none 0 0,I 1] 92)=W0 at HK ⊢;have v0:W0.cell? ⟨w.heap.size,0,none⟩=some (I ep):=HK.out.z.cell 0;have v1:W0.cell? ⟨w.heap.size,1,none⟩=some (.slice A0 n0 a):=HK.out.z.cell 1;have v2:W0.cell? ⟨w.heap.size,2,none⟩=some (I lp):=HK.out.z.cell 2;have v3:W0.cell? ⟨w.heap.size,3,none⟩=some (.slice R0 n1 r):=HK.out.z.cell 3;have v7:W0.cell? ⟨w.heap.size,7,none⟩=some (.slice (some ⟨yb,yo,none⟩) 2 d0):=HK.out.z.cell 7;go_wp2_with fail;refine (rE.out _ HK.out.lo).mono ?_;rintro e w1 ⟨rfl,hb1⟩;have iP:=ae (HK.out.grow hb1);clear hb1 HK rE v0 v1 v2 v3 v7;have c9:w1.cell? ⟨w.heap.size+1,9,none⟩=some (I 1):=iP.out.k.cell 9;have f9:w1.frozen? ⟨w.heap.size+1,9,none⟩=false:=iP.out.k.gm 9;have jc:=ae (iP.out.Xi rfl dd);have CY:Int.tmod dd 7=dd%7:=Int.tmod_eq_emod_of_nonneg hcd.1;obtain ⟨p,hp⟩:∃p,dd%7=p:=⟨_,rfl⟩;rw [hp] at CY;have HP:=ae hp;have HZQ:=ae hzq;clear hp hzq;go_upto_if 38 with fail
 go_cut [6] (fun d wx=>d=I dd∧oP w [I ep, .slice A0 n0 a,I lp, .slice R0 n1 r,I st, .slice C0 n2 c0,I ho, .slice (some ⟨yb,yo,none⟩) 2 d0] q none 0 0 [] wx)
 case first=>
  by_cases h7:p=0
  ·subst h7;have hqq:q=dd:=by rw [HZQ.out];unfold GZ;rw [if_pos HP.out]
   have HQE:=ae hqq;clear hqq;go_wp2_with fail;go_meet;exact ⟨rfl,by rw [HQE.out];exact jc.out⟩
  ·have hqq:q=7*dd:=by rw [HZQ.out];unfold GZ;rw [if_neg (by rw [HP.out];exact h7)]
   have HQE:=ae hqq;clear hqq;have hpb:(p !=0)=true:=by simpa using h7
   have w0:IntKind.i64.wrap (dd*7)=dd*7:=by rw [IntKind.wrap_i64];omega
   clear c9 f9;generalize w1.setCell ⟨w.heap.size+1,9,none⟩ (I dd)=W2 at jc ⊢;have c9:W2.cell? ⟨w.heap.size+1,9,none⟩=some (I dd):=jc.out.k.cell 9;have f9:W2.frozen? ⟨w.heap.size+1,9,none⟩=false:=jc.out.k.gm 9;have kU:=ae (jc.out.Xi rfl (dd*7));go_wp2_with fail;go_meet;exact ⟨rfl,by rw [HQE.out,Int.mul_comm];exact kU.out⟩
 case rest=>
  obtain ⟨rfl,hk⟩:=hcut;have HK:=ae hk;clear hk jc iP c9 f9 CY HP HZQ;have v0:wc.cell? ⟨w.heap.size,0,none⟩=some (I ep):=HK.out.z.cell 0;go_wp2_with fail;clear v0
  go_loopw [8,9] (fun b y wr=>∃(f:Nat) (bg yy:Int) (A:Option Addr) (n cp:Nat) (ts:List Tr),b=I bg∧y=I yy∧1≤yy∧ep+12*(yy - 1)≤bg∧0≤bg∧bg≤ep+q+100∧(n:Int)≤2*(yy - 1)∧(ep+q - bg).toNat≤f∧uy cal r0 r1 (ep+q) f bg yy ts=res∧oP w [I ep, .slice A0 n0 a,I lp, .slice R0 n1 r,I st, .slice C0 n2 c0,I ho, .slice (some ⟨yb,yo,none⟩) 2 d0] q A n cp ts wr) (fun b _ _=>((ep+q) - intOf b).toNat)
  case atStart=>exact ⟨1400,ep,1,none,0,0,[],rfl,rfl,by omega,by omega,by omega,by omega,by omega,by omega,jG.out,HK.out⟩
  case round=>
   clear HK;obtain ⟨f,bg,yy,A,n,cp,ts,rfl,rfl,hy1,hy2,hb0,hbs,hn2,hf,hyf,hys⟩:=hrel;have HF:=ae hyf;have HW:=ae hys;have V8:=ae hf;clear hyf hys hf;have v0:wr.cell? ⟨w.heap.size,0,none⟩=some (I ep):=HW.out.z.cell 0;have c9:wr.cell? ⟨w.heap.size+1,9,none⟩=some (I q):=HW.out.k.cell 9;by_cases hlt:bg<ep+q
   ·go_wp2_with fail;go_quiet (fail);obtain ⟨W7,QG⟩:∃W,wr.drewN nq=W:=⟨_,rfl⟩;rw [QG];have xg:Hid (oP w [I ep, .slice A0 n0 a,I lp, .slice R0 n1 r,I st, .slice C0 n2 c0,I ho, .slice (some ⟨yb,yo,none⟩) 2 d0] q A n cp ts W7):=ae (by rw [←QG];exact HW.out.drewN nq);clear QG v0 c9 HW;have v0:W7.cell? ⟨w.heap.size,0,none⟩=some (I ep):=xg.out.z.cell 0;have v1:W7.cell? ⟨w.heap.size,1,none⟩=some (.slice A0 n0 a):=xg.out.z.cell 1;have v2:W7.cell? ⟨w.heap.size,2,none⟩=some (I lp):=xg.out.z.cell 2;have v3:W7.cell? ⟨w.heap.size,3,none⟩=some (.slice R0 n1 r):=xg.out.z.cell 3;have v7:W7.cell? ⟨w.heap.size,7,none⟩=some (.slice (some ⟨yb,yo,none⟩) 2 d0):=xg.out.z.cell 7;have dF:=ae (HY.out W7 xg.out.lo);have xM:W7.cell? ⟨yb,yo,none⟩=some (I r0.month):=dF.out.a 0 _ rfl;have xN:W7.cell? ⟨yb,yo+1,none⟩=some (I r0.bZ):=dF.out.a 1 _ rfl;have xO:W7.cell? ⟨yb,yo+2,none⟩=some (I r0.cZ):=dF.out.a 2 _ rfl;have xP:W7.cell? ⟨yb,yo+3,none⟩=some (I r0.minute):=dF.out.a 3 _ rfl;have xQ:W7.cell? ⟨yb,yo+4,none⟩=some (I r0.off):=dF.out.a 4 _ rfl;have xR:W7.cell? ⟨yb,yo+5,none⟩=some (I r1.month):=dF.out.b 0 _ rfl;have xU:W7.cell? ⟨yb,yo+6,none⟩=some (I r1.bZ):=dF.out.b 1 _ rfl;have xW:W7.cell? ⟨yb,yo+7,none⟩=some (I r1.cZ):=dF.out.b 2 _ rfl;have y13:W7.cell? ⟨yb,yo+8,none⟩=some (I r1.minute):=dF.out.b 3 _ rfl;have xX:W7.cell? ⟨yb,yo+9,none⟩=some (I r1.off):=dF.out.b 4 _ rfl;go_wp2_with fail;refine wp_loop_rounds 3 ?_;rw [rounds_succ];go_upto_block 3 with fail;obtain ⟨vK,Oa⟩:∃t,uw cal bg yy r0 r1 ts=t:=⟨_,rfl⟩;have qH:=fun (W:World) hb=>TY.out bg yy r0 W XP.out (by omega) (by omega) hb;have QR:=FD cal bg yy r0 HC.out XP.out (by omega);have UM:=tH cal bg yy r0 HC.out XP.out (by omega);obtain ⟨pr0,JI⟩:∃pr,Tz cal bg yy r0=pr:=⟨_,rfl⟩;rw [JI] at qH QR;have hps0:=Oa;unfold uw at hps0;rw [JI] at hps0;obtain ⟨fd0,YG⟩:=pr0;simp only at qH QR hps0;have HYD0:=ae qH;have HFD0:Hid (YG=true→ -1≤fd0∧fd0≤bg+30):=ae (fun h=>by
     have h2:=QR.2 (by rw [←QR.1];exact h);omega)
    have OX:Hid (YG=true→vK=ts++ [⟨fd0*1440+r0.minute - r1.off,r0.off⟩]):=ae (fun h=>by rw [←hps0,if_pos h]);have TJ:Hid (YG=false→vK=ts):=ae (fun h=>by rw [←hps0,if_neg (by rw [h];decide)]);have HTS0:=ae Oa;clear Oa qH QR UM JI hps0
    go_cut [10] (fun _ wx=>∃(A':Option Addr) (n' cp':Nat),n'≤n+1∧oP w [I ep, .slice A0 n0 a,I lp, .slice R0 n1 r,I st, .slice C0 n2 c0,I ho, .slice (some ⟨yb,yo,none⟩) 2 d0] q A' n' cp' vK wx)
    case first=>
     go_upto_region 15 with (first
      |((with_reducible refine bn 130 ?_);refine aG rfl 130 rfl #[I 0,I 0,I 0,I 0,I 0] (by kernel_rfl) ?_)
      |((with_reducible refine bT 130 ?_);go_must (refine wpList_store_row rfl _ _ _ rfl W7.heap.size #[I r0.month,I r0.bZ,I r0.cZ,I r0.minute,I r0.off] rfl rfl 130 #[I 0,I 0,I 0,I 0,I 0] (heap_alloc_last W7 _) (by kernel_rfl) rfl (by simp [Value.oneCell']) ?_)))
     have hb2:Below W7.heap.size W7 ((W7.alloc (.cells #[I 0,I 0,I 0,I 0,I 0] 130)).setRow W7.heap.size #[I r0.month,I r0.bZ,I r0.cZ,I r0.minute,I r0.off]):=aC (ag W7 _) (Nat.le_refl _) _;have HR2:=ae (AV.lq (AV.new W7 #[I 0,I 0,I 0,I 0,I 0] 130) #[I r0.month,I r0.bZ,I r0.cZ,I r0.minute,I r0.off]);have Ad:Hid (some W7.heap.size≠(Value.slice A n cp).ownBlock):=ae (sD (fun g hg=>(World.ownsRow.lt xg.out.own g hg).2));have PN:Hid (W7.heap.size≠w.heap.size+1):=ae (by have:=xg.out.k.lt;omega);have jc:=ae (xg.out.grow hb2);clear hb2 xg;clear v0 v1 v2 v3 v7;clear dF xM xN xO xP xQ xR xU xW y13 xX;generalize (W7.alloc (.cells #[I 0,I 0,I 0,I 0,I 0] 130)).setRow W7.heap.size #[I r0.month,I r0.bZ,I r0.cZ,I r0.minute,I r0.off]=W2 at jc HR2 ⊢;generalize W7.heap.size=rb at HR2 Ad PN ⊢;have v0:W2.cell? ⟨w.heap.size,0,none⟩=some (I ep):=jc.out.z.cell 0;have v1:W2.cell? ⟨w.heap.size,1,none⟩=some (.slice A0 n0 a):=jc.out.z.cell 1;have v2:W2.cell? ⟨w.heap.size,2,none⟩=some (I lp):=jc.out.z.cell 2;have v3:W2.cell? ⟨w.heap.size,3,none⟩=some (.slice R0 n1 r):=jc.out.z.cell 3;have v7:W2.cell? ⟨w.heap.size,7,none⟩=some (.slice (some ⟨yb,yo,none⟩) 2 d0):=jc.out.z.cell 7;clear v7;have u0:W2.cell? ⟨rb,0,none⟩=some (I r0.month):=HR2.out.cell 0;have u1:W2.cell? ⟨rb,1,none⟩=some (I r0.bZ):=HR2.out.cell 1;have u2:W2.cell? ⟨rb,2,none⟩=some (I r0.cZ):=HR2.out.cell 2;have u3:W2.cell? ⟨rb,3,none⟩=some (I r0.minute):=HR2.out.cell 3;have u4:W2.cell? ⟨rb,4,none⟩=some (I r0.off):=HR2.out.cell 4;go_wp2_with fail;refine (HYD0.out W2 jc.out.lo).mono ?_;rintro e w3 ⟨rfl,hb3⟩;have kU:=ae (jc.out.grow hb3);have HR3:=ae (HR2.out.below hb3);clear hb3 jc HR2 v0 v1 v2 v3 u0 u1 u2 u3 u4;cases YG with
     |false=>
      have HEF:=ae (TJ.out rfl);clear TJ OX;go_wp2_with fail;go_meet;exact ⟨A,n,cp,by omega,by rw [HEF.out];exact kU.out⟩
     |true=>
      have HE0T:=ae (OX.out rfl);clear OX TJ;have hfd:=HFD0.out rfl;go_upto_region 17 with fail;have hS0:I5 rb w.heap.size yb (yo+9) r0.minute r0.off r1.off (.slice (some ⟨yb,yo,none⟩) 2 d0) w3.drew:=⟨HR3.out.drew.cell 3,HR3.out.drew.cell 4,kU.out.drew.z.cell 7,(HY.out _ kU.out.drew.lo).b 4 _ rfl⟩;have jH:=ae kU.out.drew;have Aa:=ae HR3.out.drew;clear kU HR3;refine wp_region_held_drew (S:=I5 rb w.heap.size yb (yo+9) r0.minute r0.off r1.off (.slice (some ⟨yb,yo,none⟩) 2 d0)) (by kernel_rfl) hS0 (fun _=>?_);generalize w3.drew=V at hS0 jH Aa ⊢;have wk0:IntKind.i64.wrap 1=1:=by rw [IntKind.wrap_i64];omega
      have w1:IntKind.i64.wrap (fd0*1440)=fd0*1440:=by rw [IntKind.wrap_i64];omega
      have w2:IntKind.i64.wrap (fd0*1440+r0.minute)=fd0*1440+r0.minute:=by rw [IntKind.wrap_i64];omega
      have w3:IntKind.i64.wrap (fd0*1440+r0.minute - r1.off)=fd0*1440+r0.minute - r1.off:=by rw [IntKind.wrap_i64];omega
      refine aK 0 (.pointer (some ⟨w.heap.size+1,0,none⟩)) 79 hS0 (fun w' hSw=>?_) ?_
      ·clear hSw
       first|(go_simp;done)|(go_simp;with_reducible rfl)
      refine ax ?_;refine aK 1 (.pointer (some ⟨w.heap.size+1,0,none⟩)) 80 hS0 (fun w' hSw=>?_) ?_
      ·clear hSw
       first|(go_simp;done)|(go_simp;with_reducible rfl)
      refine ax ?_;refine aK 2 (.pointer (some ⟨w.heap.size+1,0,none⟩)) 81 hS0 (fun w' hSw=>?_) ?_
      ·clear hSw
       first|(go_simp;done)|(go_simp;with_reducible rfl)
      refine ax ?_;refine aK 3 (.pointer (some ⟨w.heap.size+1,8,none⟩)) 82 hS0 (fun w' hSw=>?_) ?_
      ·clear hSw
       first|(go_simp;done)|(go_simp;with_reducible rfl)
      refine ax ?_;refine aK 5 (I fd0) 84 hS0 (fun w' hSw=>?_) ?_
      ·clear hSw
       first|(go_simp;done)|(go_simp;with_reducible rfl)
      refine ax ?_;refine aK 6 (I (fd0*1440)) 85 hS0 (fun w' hSw=>?_) ?_
      ·clear hSw
       first|(go_simp;done)|(go_simp;with_reducible rfl)
      refine ax ?_;refine aK 7 (.pointer (some ⟨rb,3,none⟩)) 86 hS0 (fun w' hSw=>?_) ?_
      ·clear hSw
       first|(go_simp;done)|(go_simp;with_reducible rfl)
      refine ax ?_;refine aK 8 (I r0.minute) 87 hS0 (fun w' hSw=>?_) ?_
      ·obtain ⟨s0,s1,s2,s3⟩:=hSw
       first|(go_simp;done)|(go_simp;with_reducible rfl)
      refine ax ?_;refine aK 9 (I (fd0*1440+r0.minute)) 88 hS0 (fun w' hSw=>?_) ?_
      ·clear hSw
       first|(go_simp;done)|(go_simp;with_reducible rfl)
      refine ax ?_;refine aK 10 (.pointer (some ⟨w.heap.size,7,none⟩)) 89 hS0 (fun w' hSw=>?_) ?_
      ·clear hSw
       first|(go_simp;done)|(go_simp;with_reducible rfl)
      refine ax ?_;refine aK 11 (.slice (some ⟨yb,yo,none⟩) 2 d0) 90 hS0 (fun w' hSw=>?_) ?_
      ·obtain ⟨s0,s1,s2,s3⟩:=hSw
       first|(go_simp;done)|(go_simp;with_reducible rfl)
      refine ax ?_;refine aK 12 (I 0) 91 hS0 (fun w' hSw=>?_) ?_
      ·clear hSw
       first|(go_simp;done)|(go_simp;with_reducible rfl)
      refine ax ?_;refine aK 13 (I 1) 92 hS0 (fun w' hSw=>?_) ?_
      ·clear hSw
       first|(go_simp;done)|(go_simp;with_reducible rfl)
      refine ax ?_;refine aK 14 (.pointer (some ⟨yb,yo+5,none⟩)) 93 hS0 (fun w' hSw=>?_) ?_
      ·clear hSw
       first|(go_simp;done)|(go_simp;with_reducible rfl)
      refine ax ?_;refine aK 15 (.pointer (some ⟨yb,yo+9,none⟩)) 94 hS0 (fun w' hSw=>?_) ?_
      ·clear hSw
       first|(go_simp;done)|(go_simp;with_reducible rfl)
      refine ax ?_;refine aK 16 (I r1.off) 95 hS0 (fun w' hSw=>?_) ?_
      ·obtain ⟨s0,s1,s2,s3⟩:=hSw
       first|(go_simp;done)|(go_simp;with_reducible rfl)
      refine ax ?_;refine aK 17 (I (fd0*1440+r0.minute - r1.off)) 96 hS0 (fun w' hSw=>?_) ?_
      ·clear hSw
       first|(go_simp;done)|(go_simp;with_reducible rfl)
      refine ax ?_;refine aK 18 (.pointer (some ⟨rb,4,none⟩)) 97 hS0 (fun w' hSw=>?_) ?_
      ·clear hSw
       first|(go_simp;done)|(go_simp;with_reducible rfl)
      refine ax ?_;refine aK 19 (I r0.off) 98 hS0 (fun w' hSw=>?_) ?_
      ·obtain ⟨s0,s1,s2,s3⟩:=hSw
       first|(go_simp;done)|(go_simp;with_reducible rfl)
      refine ax ?_;refine mW 20 ( .agg #[I (fd0*1440+r0.minute - r1.off),I r0.off]) 99 rfl rfl hS0 (bV rfl 100 _ rfl _ (by kernel_rfl)) ?_;refine ax ?_;refine lJ 4 21 (fun K hK=>?_) (fun K hK=>?_)
      ·have c8:V.cell? ⟨w.heap.size+1,8,none⟩=some (.slice A n cp):=jH.out.k.cell 8;go_simp;clear c8;refine hK.out _ _ hS0 (fun _=>?_);clear hK K;refine ax ?_;refine bI 21 (fun K hK=>?_);go_simp;have hS5:I5 rb w.heap.size yb (yo+9) r0.minute r0.off r1.off (.slice (some ⟨yb,yo,none⟩) 2 d0) (V.alloc (.cells #[I (fd0*1440+r0.minute - r1.off),I r0.off] 100)):=⟨(Aa.out.below (ag _ _)).cell 3,(Aa.out.below (ag _ _)).cell 4,(jH.out.grow (ag _ _)).z.cell 7,(HY.out _ (jH.out.grow (ag _ _)).lo).b 4 _ rfl⟩;refine hK.out _ _ hS5 (fun _=>?_);clear hK K;refine ax ?_;refine bI 22 (fun K hK=>?_);have hvl:=jH.out.k.lt;refine step_append_lies _ (by rfl) _ _ _ (by rfl) (w.heap.size+2) 100 i0 (.agg #[I 0,I 0]) 2 16 Tryz.underlying48 HI.out zD.out oG.out lL.out rfl (by omega) (.slice A n cp) n (ts.flatMap Tr.cells) (by rfl) (own_below jH.out.own (ag _ _)) ⟨V.heap.size,0,none⟩ 1 1 [I (fd0*1440+r0.minute - r1.off),I r0.off] (by rfl) rfl (dC V _ _ _ rfl) (uU ⟨fd0*1440+r0.minute - r1.off,r0.off⟩) (by omega) (by unfold maxLen;omega) (by omega) (by simp;omega) _ rfl ?_;intro gg cap w6 hown6 hgrow6 _ _;have hxk:=ae (oP.add (x:=⟨fd0*1440+r0.minute - r1.off,r0.off⟩) jH.out rfl rfl hown6 hgrow6);have wY:Hid (AV rb 130 #[I r0.month,I r0.bZ,I r0.cZ,I r0.minute,I r0.off] w6):=ae ⟨(hgrow6.block _ (by have:=Aa.out.lt;simp;omega) Ad.out).trans ((Below.heap_alloc _ _ _ Aa.out.lt).trans Aa.out.var)⟩;have hk6:Hid (AV (w.heap.size+1) 92 ([I ep, .slice A0 n0 a,I lp, .slice R0 n1 r,I st, .slice C0 n2 c0,I ho, .slice (some ⟨yb,yo,none⟩) 2 d0]++ [Value.slice A n cp,I q]).toArray w6):=ae ⟨(hgrow6.block _ (by have:=jH.out.k.lt;simp;omega) (dV jH.out.own _ (by omega))).trans ((Below.heap_alloc _ _ _ jH.out.k.lt).trans jH.out.k.var)⟩;have DT:Hid (AV w.heap.size 51 #[I ep, .slice A0 n0 a,I lp, .slice R0 n1 r,I st, .slice C0 n2 c0,I ho, .slice (some ⟨yb,yo,none⟩) 2 d0] w6):=ae ⟨(hgrow6.block _ (by have:=jH.out.z.lt;simp;omega) (dV jH.out.own _ (by omega))).trans ((Below.heap_alloc _ _ _ jH.out.z.lt).trans jH.out.z.var)⟩;have JL:Hid (w6.cell? ⟨yb,yo+9,none⟩=some (I r1.off)):=ae (by
        have hb6:Below w.heap.size w w6:=di (ah jH.out.lo (ag _ _)) (aX (own_below jH.out.own (ag _ _)) (by omega)) (ah jH.out.lo (ag _ _)).size hgrow6;exact (HY.out w6 hb6).b 4 _ rfl)
       clear hown6 hgrow6;have hS6:I5 rb w.heap.size yb (yo+9) r0.minute r0.off r1.off (.slice (some ⟨yb,yo,none⟩) 2 d0) w6:=⟨wY.out.cell 3,wY.out.cell 4,DT.out.cell 7,JL.out⟩;refine hK.out _ _ hS6 (fun _=>?_);clear hK K;try simp only [Act.put,List.setIfInBounds_toArray]
       refine aK 23 (.pointer (some ⟨w.heap.size+1,0,none⟩)) 102 hS6 (fun w' hSw=>?_) ?_
       ·clear hSw
        first|(go_simp;done)|(go_simp;with_reducible rfl)
       try simp only [Act.put]
       refine aK 24 (.pointer (some ⟨w.heap.size+1,8,none⟩)) 103 hS6 (fun w' hSw=>?_) ?_
       ·clear hSw
        first|(go_simp;done)|(go_simp;with_reducible rfl)
       try simp only [Act.put]
       refine bI 25 (fun K hK=>?_);have c8:=hk6.out.cell 8;have f8:=hk6.out.gm 8;go_simp;have hS7:I5 rb w.heap.size yb (yo+9) r0.minute r0.off r1.off (.slice (some ⟨yb,yo,none⟩) 2 d0) (w6.setCell ⟨w.heap.size+1,8,none⟩ (.slice (some ⟨gg,0,none⟩) (n+1) cap)):=⟨(wY.out.far PN.out 8 _).cell 3,(wY.out.far PN.out 8 _).cell 4,hxk.out.z.cell 7,(HY.out _ hxk.out.lo).b 4 _ rfl⟩;refine hK.out _ _ hS7 (fun _=>?_);clear hK K;refine wpAnyH_done (by kernel_rfl) ?_ _;go_wp2_with fail;go_meet;exact ⟨some ⟨gg,0,none⟩,n+1,cap,by omega,by rw [show vK=ts++ [⟨fd0*1440+r0.minute - r1.off,r0.off⟩] from HE0T.out];exact hxk.out⟩
      ·go_simp;have hS5:I5 rb w.heap.size yb (yo+9) r0.minute r0.off r1.off (.slice (some ⟨yb,yo,none⟩) 2 d0) (V.alloc (.cells #[I (fd0*1440+r0.minute - r1.off),I r0.off] 100)):=⟨(Aa.out.below (ag _ _)).cell 3,(Aa.out.below (ag _ _)).cell 4,(jH.out.grow (ag _ _)).z.cell 7,(HY.out _ (jH.out.grow (ag _ _)).lo).b 4 _ rfl⟩;refine hK.out _ _ hS5 (fun _=>?_);clear hK K;refine ax ?_;refine bI 4 (fun K hK=>?_);have c8:(V.alloc (.cells #[I (fd0*1440+r0.minute - r1.off),I r0.off] 100)).cell? ⟨w.heap.size+1,8,none⟩=some (.slice A n cp):=(jH.out.grow (ag _ _)).k.cell 8;go_simp;clear c8;refine hK.out _ _ hS5 (fun _=>?_);clear hK K;refine ax ?_;refine bI 22 (fun K hK=>?_);have hvl:=jH.out.k.lt;refine step_append_lies _ (by rfl) _ _ _ (by rfl) (w.heap.size+2) 100 i0 (.agg #[I 0,I 0]) 2 16 Tryz.underlying48 HI.out zD.out oG.out lL.out rfl (by omega) (.slice A n cp) n (ts.flatMap Tr.cells) (by rfl) (own_below jH.out.own (ag _ _)) ⟨V.heap.size,0,none⟩ 1 1 [I (fd0*1440+r0.minute - r1.off),I r0.off] (by rfl) rfl (dC V _ _ _ rfl) (uU ⟨fd0*1440+r0.minute - r1.off,r0.off⟩) (by omega) (by unfold maxLen;omega) (by omega) (by simp;omega) _ rfl ?_;intro gg cap w6 hown6 hgrow6 _ _;have hxk:=ae (oP.add (x:=⟨fd0*1440+r0.minute - r1.off,r0.off⟩) jH.out rfl rfl hown6 hgrow6);have wY:Hid (AV rb 130 #[I r0.month,I r0.bZ,I r0.cZ,I r0.minute,I r0.off] w6):=ae ⟨(hgrow6.block _ (by have:=Aa.out.lt;simp;omega) Ad.out).trans ((Below.heap_alloc _ _ _ Aa.out.lt).trans Aa.out.var)⟩;have hk6:Hid (AV (w.heap.size+1) 92 ([I ep, .slice A0 n0 a,I lp, .slice R0 n1 r,I st, .slice C0 n2 c0,I ho, .slice (some ⟨yb,yo,none⟩) 2 d0]++ [Value.slice A n cp,I q]).toArray w6):=ae ⟨(hgrow6.block _ (by have:=jH.out.k.lt;simp;omega) (dV jH.out.own _ (by omega))).trans ((Below.heap_alloc _ _ _ jH.out.k.lt).trans jH.out.k.var)⟩;have DT:Hid (AV w.heap.size 51 #[I ep, .slice A0 n0 a,I lp, .slice R0 n1 r,I st, .slice C0 n2 c0,I ho, .slice (some ⟨yb,yo,none⟩) 2 d0] w6):=ae ⟨(hgrow6.block _ (by have:=jH.out.z.lt;simp;omega) (dV jH.out.own _ (by omega))).trans ((Below.heap_alloc _ _ _ jH.out.z.lt).trans jH.out.z.var)⟩;have JL:Hid (w6.cell? ⟨yb,yo+9,none⟩=some (I r1.off)):=ae (by
        have hb6:Below w.heap.size w w6:=di (ah jH.out.lo (ag _ _)) (aX (own_below jH.out.own (ag _ _)) (by omega)) (ah jH.out.lo (ag _ _)).size hgrow6;exact (HY.out w6 hb6).b 4 _ rfl)
       clear hown6 hgrow6;have hS6:I5 rb w.heap.size yb (yo+9) r0.minute r0.off r1.off (.slice (some ⟨yb,yo,none⟩) 2 d0) w6:=⟨wY.out.cell 3,wY.out.cell 4,DT.out.cell 7,JL.out⟩;refine hK.out _ _ hS6 (fun _=>?_);clear hK K;try simp only [Act.put,List.setIfInBounds_toArray]
       refine aK 23 (.pointer (some ⟨w.heap.size+1,0,none⟩)) 102 hS6 (fun w' hSw=>?_) ?_
       ·clear hSw
        first|(go_simp;done)|(go_simp;with_reducible rfl)
       try simp only [Act.put]
       refine aK 24 (.pointer (some ⟨w.heap.size+1,8,none⟩)) 103 hS6 (fun w' hSw=>?_) ?_
       ·clear hSw
        first|(go_simp;done)|(go_simp;with_reducible rfl)
       try simp only [Act.put]
       refine bI 25 (fun K hK=>?_);have c8:=hk6.out.cell 8;have f8:=hk6.out.gm 8;go_simp;have hS7:I5 rb w.heap.size yb (yo+9) r0.minute r0.off r1.off (.slice (some ⟨yb,yo,none⟩) 2 d0) (w6.setCell ⟨w.heap.size+1,8,none⟩ (.slice (some ⟨gg,0,none⟩) (n+1) cap)):=⟨(wY.out.far PN.out 8 _).cell 3,(wY.out.far PN.out 8 _).cell 4,hxk.out.z.cell 7,(HY.out _ hxk.out.lo).b 4 _ rfl⟩;refine hK.out _ _ hS7 (fun _=>?_);clear hK K;refine wpAnyH_done (by kernel_rfl) ?_ _;go_wp2_with fail;go_meet;exact ⟨some ⟨gg,0,none⟩,n+1,cap,by omega,by rw [show vK=ts++ [⟨fd0*1440+r0.minute - r1.off,r0.off⟩] from HE0T.out];exact hxk.out⟩
    case rest=>
     obtain ⟨A',n',cp',hnn,hk1⟩:=hcut;have iP:=ae hk1;have hnb:n'≤600:=by omega
     have hnc:(n':Int)≤2*(yy - 1)+1:=by omega
     clear hk1 hnn xg;clear HYD0 HFD0 OX TJ;obtain ⟨A,rfl⟩:∃A,A=A':=⟨_,rfl⟩;obtain ⟨n,rfl⟩:∃n,n=n':=⟨_,rfl⟩;obtain ⟨cp,rfl⟩:∃c,c=cp':=⟨_,rfl⟩;clear v0 v1 v2 v3 v7 dF xM xN xO xP xQ xR xU xW y13 xX;have v0:wc.cell? ⟨w.heap.size,0,none⟩=some (I ep):=iP.out.z.cell 0;have v1:wc.cell? ⟨w.heap.size,1,none⟩=some (.slice A0 n0 a):=iP.out.z.cell 1;have v2:wc.cell? ⟨w.heap.size,2,none⟩=some (I lp):=iP.out.z.cell 2;have v3:wc.cell? ⟨w.heap.size,3,none⟩=some (.slice R0 n1 r):=iP.out.z.cell 3;have v7:wc.cell? ⟨w.heap.size,7,none⟩=some (.slice (some ⟨yb,yo,none⟩) 2 d0):=iP.out.z.cell 7;have dF:=ae (HY.out wc iP.out.lo);have xM:wc.cell? ⟨yb,yo,none⟩=some (I r0.month):=dF.out.a 0 _ rfl;have xN:wc.cell? ⟨yb,yo+1,none⟩=some (I r0.bZ):=dF.out.a 1 _ rfl;have xO:wc.cell? ⟨yb,yo+2,none⟩=some (I r0.cZ):=dF.out.a 2 _ rfl;have xP:wc.cell? ⟨yb,yo+3,none⟩=some (I r0.minute):=dF.out.a 3 _ rfl;have xQ:wc.cell? ⟨yb,yo+4,none⟩=some (I r0.off):=dF.out.a 4 _ rfl;have xR:wc.cell? ⟨yb,yo+5,none⟩=some (I r1.month):=dF.out.b 0 _ rfl;have xU:wc.cell? ⟨yb,yo+6,none⟩=some (I r1.bZ):=dF.out.b 1 _ rfl;have xW:wc.cell? ⟨yb,yo+7,none⟩=some (I r1.cZ):=dF.out.b 2 _ rfl;have y13:wc.cell? ⟨yb,yo+8,none⟩=some (I r1.minute):=dF.out.b 3 _ rfl;have xX:wc.cell? ⟨yb,yo+9,none⟩=some (I r1.off):=dF.out.b 4 _ rfl;go_wp2_with fail;rw [rounds_succ];go_upto_block 3 with fail;obtain ⟨Cb,ES⟩:∃t,uw cal bg yy r1 r0 vK=t:=⟨_,rfl⟩;have kZ:=fun (W:World) hb=>TY.out bg yy r1 W XQ.out (by omega) (by omega) hb;have QS:=FD cal bg yy r1 HC.out XQ.out (by omega);have JF:=tH cal bg yy r1 HC.out XQ.out (by omega);obtain ⟨pr1,AO⟩:∃pr,Tz cal bg yy r1=pr:=⟨_,rfl⟩;rw [AO] at kZ QS;have hps1:=ES;unfold uw at hps1;rw [AO] at hps1;obtain ⟨fd1,Tt⟩:=pr1;simp only at kZ QS hps1;have HYD1:=ae kZ;have HFD1:Hid (Tt=true→ -1≤fd1∧fd1≤bg+30):=ae (fun h=>by
      have h2:=QS.2 (by rw [←QS.1];exact h);omega)
     have Em:Hid (Tt=true→Cb=vK++ [⟨fd1*1440+r1.minute - r0.off,r1.off⟩]):=ae (fun h=>by rw [←hps1,if_pos h]);have TK:Hid (Tt=false→Cb=vK):=ae (fun h=>by rw [←hps1,if_neg (by rw [h];decide)]);have HTS1:=ae ES;clear ES kZ QS JF AO hps1
     go_cut [10] (fun _ wx=>∃(A':Option Addr) (n' cp':Nat),n'≤n+1∧oP w [I ep, .slice A0 n0 a,I lp, .slice R0 n1 r,I st, .slice C0 n2 c0,I ho, .slice (some ⟨yb,yo,none⟩) 2 d0] q A' n' cp' Cb wx)
     case first=>
      go_upto_region 15 with (first
       |((with_reducible refine bn 130 ?_);refine aG rfl 130 rfl #[I 0,I 0,I 0,I 0,I 0] (by kernel_rfl) ?_)
       |((with_reducible refine bT 130 ?_);go_must (refine wpList_store_row rfl _ _ _ rfl wc.heap.size #[I r1.month,I r1.bZ,I r1.cZ,I r1.minute,I r1.off] rfl rfl 130 #[I 0,I 0,I 0,I 0,I 0] (heap_alloc_last wc _) (by kernel_rfl) rfl (by simp [Value.oneCell']) ?_)))
      have hb2:Below wc.heap.size wc ((wc.alloc (.cells #[I 0,I 0,I 0,I 0,I 0] 130)).setRow wc.heap.size #[I r1.month,I r1.bZ,I r1.cZ,I r1.minute,I r1.off]):=aC (ag wc _) (Nat.le_refl _) _;have HR2:=ae (AV.lq (AV.new wc #[I 0,I 0,I 0,I 0,I 0] 130) #[I r1.month,I r1.bZ,I r1.cZ,I r1.minute,I r1.off]);have Ad:Hid (some wc.heap.size≠(Value.slice A n cp).ownBlock):=ae (sD (fun g hg=>(World.ownsRow.lt iP.out.own g hg).2));have PN:Hid (wc.heap.size≠w.heap.size+1):=ae (by have:=iP.out.k.lt;omega);have jc:=ae (iP.out.grow hb2);clear hb2 iP;clear v0 v1 v2 v3 v7;clear dF xM xN xO xP xQ xR xU xW y13 xX;generalize (wc.alloc (.cells #[I 0,I 0,I 0,I 0,I 0] 130)).setRow wc.heap.size #[I r1.month,I r1.bZ,I r1.cZ,I r1.minute,I r1.off]=W2 at jc HR2 ⊢;generalize wc.heap.size=rb at HR2 Ad PN ⊢;have v0:W2.cell? ⟨w.heap.size,0,none⟩=some (I ep):=jc.out.z.cell 0;have v1:W2.cell? ⟨w.heap.size,1,none⟩=some (.slice A0 n0 a):=jc.out.z.cell 1;have v2:W2.cell? ⟨w.heap.size,2,none⟩=some (I lp):=jc.out.z.cell 2;have v3:W2.cell? ⟨w.heap.size,3,none⟩=some (.slice R0 n1 r):=jc.out.z.cell 3;have v7:W2.cell? ⟨w.heap.size,7,none⟩=some (.slice (some ⟨yb,yo,none⟩) 2 d0):=jc.out.z.cell 7;clear v7;have u0:W2.cell? ⟨rb,0,none⟩=some (I r1.month):=HR2.out.cell 0;have u1:W2.cell? ⟨rb,1,none⟩=some (I r1.bZ):=HR2.out.cell 1;have u2:W2.cell? ⟨rb,2,none⟩=some (I r1.cZ):=HR2.out.cell 2;have u3:W2.cell? ⟨rb,3,none⟩=some (I r1.minute):=HR2.out.cell 3;have u4:W2.cell? ⟨rb,4,none⟩=some (I r1.off):=HR2.out.cell 4;go_wp2_with fail;refine (HYD1.out W2 jc.out.lo).mono ?_;rintro e w3 ⟨rfl,hb3⟩;have kU:=ae (jc.out.grow hb3);have HR3:=ae (HR2.out.below hb3);clear hb3 jc HR2 v0 v1 v2 v3 u0 u1 u2 u3 u4;cases Tt with
      |false=>
       have HEF:=ae (TK.out rfl);clear TK Em;go_wp2_with fail;go_meet;exact ⟨A,n,cp,by omega,by rw [HEF.out];exact kU.out⟩
      |true=>
       have HE1T:=ae (Em.out rfl);clear Em TK;have hfd:=HFD1.out rfl;go_upto_region 17 with fail;have hS0:I5 rb w.heap.size yb (yo+4) r1.minute r1.off r0.off (.slice (some ⟨yb,yo,none⟩) 2 d0) w3.drew:=⟨HR3.out.drew.cell 3,HR3.out.drew.cell 4,kU.out.drew.z.cell 7,(HY.out _ kU.out.drew.lo).a 4 _ rfl⟩;have HKB1:=ae kU.out.drew;have Ac:=ae HR3.out.drew;clear kU HR3;refine wp_region_held_drew (S:=I5 rb w.heap.size yb (yo+4) r1.minute r1.off r0.off (.slice (some ⟨yb,yo,none⟩) 2 d0)) (by kernel_rfl) hS0 (fun _=>?_);generalize w3.drew=V at hS0 HKB1 Ac ⊢;have wk0:IntKind.i64.wrap 0=0:=by rw [IntKind.wrap_i64];omega
       have w1:IntKind.i64.wrap (fd1*1440)=fd1*1440:=by rw [IntKind.wrap_i64];omega
       have w2:IntKind.i64.wrap (fd1*1440+r1.minute)=fd1*1440+r1.minute:=by rw [IntKind.wrap_i64];omega
       have w3:IntKind.i64.wrap (fd1*1440+r1.minute - r0.off)=fd1*1440+r1.minute - r0.off:=by rw [IntKind.wrap_i64];omega
       refine aK 0 (.pointer (some ⟨w.heap.size+1,0,none⟩)) 79 hS0 (fun w' hSw=>?_) ?_
       ·clear hSw
        first|(go_simp;done)|(go_simp;with_reducible rfl)
       refine ax ?_;refine aK 1 (.pointer (some ⟨w.heap.size+1,0,none⟩)) 80 hS0 (fun w' hSw=>?_) ?_
       ·clear hSw
        first|(go_simp;done)|(go_simp;with_reducible rfl)
       refine ax ?_;refine aK 2 (.pointer (some ⟨w.heap.size+1,0,none⟩)) 81 hS0 (fun w' hSw=>?_) ?_
       ·clear hSw
        first|(go_simp;done)|(go_simp;with_reducible rfl)
       refine ax ?_;refine aK 3 (.pointer (some ⟨w.heap.size+1,8,none⟩)) 82 hS0 (fun w' hSw=>?_) ?_
       ·clear hSw
        first|(go_simp;done)|(go_simp;with_reducible rfl)
       refine ax ?_;refine aK 5 (I fd1) 84 hS0 (fun w' hSw=>?_) ?_
       ·clear hSw
        first|(go_simp;done)|(go_simp;with_reducible rfl)
       refine ax ?_;refine aK 6 (I (fd1*1440)) 85 hS0 (fun w' hSw=>?_) ?_
       ·clear hSw
        first|(go_simp;done)|(go_simp;with_reducible rfl)
       refine ax ?_;refine aK 7 (.pointer (some ⟨rb,3,none⟩)) 86 hS0 (fun w' hSw=>?_) ?_
       ·clear hSw
        first|(go_simp;done)|(go_simp;with_reducible rfl)
       refine ax ?_;refine aK 8 (I r1.minute) 87 hS0 (fun w' hSw=>?_) ?_
       ·obtain ⟨s0,s1,s2,s3⟩:=hSw
        first|(go_simp;done)|(go_simp;with_reducible rfl)
       refine ax ?_;refine aK 9 (I (fd1*1440+r1.minute)) 88 hS0 (fun w' hSw=>?_) ?_
       ·clear hSw
        first|(go_simp;done)|(go_simp;with_reducible rfl)
       refine ax ?_;refine aK 10 (.pointer (some ⟨w.heap.size,7,none⟩)) 89 hS0 (fun w' hSw=>?_) ?_
       ·clear hSw
        first|(go_simp;done)|(go_simp;with_reducible rfl)
       refine ax ?_;refine aK 11 (.slice (some ⟨yb,yo,none⟩) 2 d0) 90 hS0 (fun w' hSw=>?_) ?_
       ·obtain ⟨s0,s1,s2,s3⟩:=hSw
        first|(go_simp;done)|(go_simp;with_reducible rfl)
       refine ax ?_;refine aK 12 (I 1) 91 hS0 (fun w' hSw=>?_) ?_
       ·clear hSw
        first|(go_simp;done)|(go_simp;with_reducible rfl)
       refine ax ?_;refine aK 13 (I 0) 92 hS0 (fun w' hSw=>?_) ?_
       ·clear hSw
        first|(go_simp;done)|(go_simp;with_reducible rfl)
       refine ax ?_;refine aK 14 (.pointer (some ⟨yb,yo,none⟩)) 93 hS0 (fun w' hSw=>?_) ?_
       ·clear hSw
        first|(go_simp;done)|(go_simp;with_reducible rfl)
       refine ax ?_;refine aK 15 (.pointer (some ⟨yb,yo+4,none⟩)) 94 hS0 (fun w' hSw=>?_) ?_
       ·clear hSw
        first|(go_simp;done)|(go_simp;with_reducible rfl)
       refine ax ?_;refine aK 16 (I r0.off) 95 hS0 (fun w' hSw=>?_) ?_
       ·obtain ⟨s0,s1,s2,s3⟩:=hSw
        first|(go_simp;done)|(go_simp;with_reducible rfl)
       refine ax ?_;refine aK 17 (I (fd1*1440+r1.minute - r0.off)) 96 hS0 (fun w' hSw=>?_) ?_
       ·clear hSw
        first|(go_simp;done)|(go_simp;with_reducible rfl)
       refine ax ?_;refine aK 18 (.pointer (some ⟨rb,4,none⟩)) 97 hS0 (fun w' hSw=>?_) ?_
       ·clear hSw
        first|(go_simp;done)|(go_simp;with_reducible rfl)
       refine ax ?_;refine aK 19 (I r1.off) 98 hS0 (fun w' hSw=>?_) ?_
       ·obtain ⟨s0,s1,s2,s3⟩:=hSw
        first|(go_simp;done)|(go_simp;with_reducible rfl)
       refine ax ?_;refine mW 20 ( .agg #[I (fd1*1440+r1.minute - r0.off),I r1.off]) 99 rfl rfl hS0 (bV rfl 100 _ rfl _ (by kernel_rfl)) ?_;refine ax ?_;refine lJ 4 21 (fun K hK=>?_) (fun K hK=>?_)
       ·have c8:V.cell? ⟨w.heap.size+1,8,none⟩=some (.slice A n cp):=HKB1.out.k.cell 8;go_simp;clear c8;refine hK.out _ _ hS0 (fun _=>?_);clear hK K;refine ax ?_;refine bI 21 (fun K hK=>?_);go_simp;have hS5:I5 rb w.heap.size yb (yo+4) r1.minute r1.off r0.off (.slice (some ⟨yb,yo,none⟩) 2 d0) (V.alloc (.cells #[I (fd1*1440+r1.minute - r0.off),I r1.off] 100)):=⟨(Ac.out.below (ag _ _)).cell 3,(Ac.out.below (ag _ _)).cell 4,(HKB1.out.grow (ag _ _)).z.cell 7,(HY.out _ (HKB1.out.grow (ag _ _)).lo).a 4 _ rfl⟩;refine hK.out _ _ hS5 (fun _=>?_);clear hK K;refine ax ?_;refine bI 22 (fun K hK=>?_);have hvl:=HKB1.out.k.lt;refine step_append_lies _ (by rfl) _ _ _ (by rfl) (w.heap.size+2) 100 i0 (.agg #[I 0,I 0]) 2 16 Tryz.underlying48 HI.out zD.out oG.out lL.out rfl (by omega) (.slice A n cp) n (vK.flatMap Tr.cells) (by rfl) (own_below HKB1.out.own (ag _ _)) ⟨V.heap.size,0,none⟩ 1 1 [I (fd1*1440+r1.minute - r0.off),I r1.off] (by rfl) rfl (dC V _ _ _ rfl) (uU ⟨fd1*1440+r1.minute - r0.off,r1.off⟩) (by omega) (by unfold maxLen;omega) (by omega) (by simp;omega) _ rfl ?_;intro gg cap w6 hown6 hgrow6 _ _;have hxk:=ae (oP.add (x:=⟨fd1*1440+r1.minute - r0.off,r1.off⟩) HKB1.out rfl rfl hown6 hgrow6);have wY:Hid (AV rb 130 #[I r1.month,I r1.bZ,I r1.cZ,I r1.minute,I r1.off] w6):=ae ⟨(hgrow6.block _ (by have:=Ac.out.lt;simp;omega) Ad.out).trans ((Below.heap_alloc _ _ _ Ac.out.lt).trans Ac.out.var)⟩;have hk6:Hid (AV (w.heap.size+1) 92 ([I ep, .slice A0 n0 a,I lp, .slice R0 n1 r,I st, .slice C0 n2 c0,I ho, .slice (some ⟨yb,yo,none⟩) 2 d0]++ [Value.slice A n cp,I q]).toArray w6):=ae ⟨(hgrow6.block _ (by have:=HKB1.out.k.lt;simp;omega) (dV HKB1.out.own _ (by omega))).trans ((Below.heap_alloc _ _ _ HKB1.out.k.lt).trans HKB1.out.k.var)⟩;have DT:Hid (AV w.heap.size 51 #[I ep, .slice A0 n0 a,I lp, .slice R0 n1 r,I st, .slice C0 n2 c0,I ho, .slice (some ⟨yb,yo,none⟩) 2 d0] w6):=ae ⟨(hgrow6.block _ (by have:=HKB1.out.z.lt;simp;omega) (dV HKB1.out.own _ (by omega))).trans ((Below.heap_alloc _ _ _ HKB1.out.z.lt).trans HKB1.out.z.var)⟩;have JL:Hid (w6.cell? ⟨yb,yo+4,none⟩=some (I r0.off)):=ae (by
         have hb6:Below w.heap.size w w6:=di (ah HKB1.out.lo (ag _ _)) (aX (own_below HKB1.out.own (ag _ _)) (by omega)) (ah HKB1.out.lo (ag _ _)).size hgrow6;exact (HY.out w6 hb6).a 4 _ rfl)
        clear hown6 hgrow6;have hS6:I5 rb w.heap.size yb (yo+4) r1.minute r1.off r0.off (.slice (some ⟨yb,yo,none⟩) 2 d0) w6:=⟨wY.out.cell 3,wY.out.cell 4,DT.out.cell 7,JL.out⟩;refine hK.out _ _ hS6 (fun _=>?_);clear hK K;try simp only [Act.put,List.setIfInBounds_toArray]
        refine aK 23 (.pointer (some ⟨w.heap.size+1,0,none⟩)) 102 hS6 (fun w' hSw=>?_) ?_
        ·clear hSw
         first|(go_simp;done)|(go_simp;with_reducible rfl)
        try simp only [Act.put]
        refine aK 24 (.pointer (some ⟨w.heap.size+1,8,none⟩)) 103 hS6 (fun w' hSw=>?_) ?_
        ·clear hSw
         first|(go_simp;done)|(go_simp;with_reducible rfl)
        try simp only [Act.put]
        refine bI 25 (fun K hK=>?_);have c8:=hk6.out.cell 8;have f8:=hk6.out.gm 8;go_simp;have hS7:I5 rb w.heap.size yb (yo+4) r1.minute r1.off r0.off (.slice (some ⟨yb,yo,none⟩) 2 d0) (w6.setCell ⟨w.heap.size+1,8,none⟩ (.slice (some ⟨gg,0,none⟩) (n+1) cap)):=⟨(wY.out.far PN.out 8 _).cell 3,(wY.out.far PN.out 8 _).cell 4,hxk.out.z.cell 7,(HY.out _ hxk.out.lo).a 4 _ rfl⟩;refine hK.out _ _ hS7 (fun _=>?_);clear hK K;refine wpAnyH_done (by kernel_rfl) ?_ _;go_wp2_with fail;go_meet;exact ⟨some ⟨gg,0,none⟩,n+1,cap,by omega,by rw [show Cb=vK++ [⟨fd1*1440+r1.minute - r0.off,r1.off⟩] from HE1T.out];exact hxk.out⟩
       ·go_simp;have hS5:I5 rb w.heap.size yb (yo+4) r1.minute r1.off r0.off (.slice (some ⟨yb,yo,none⟩) 2 d0) (V.alloc (.cells #[I (fd1*1440+r1.minute - r0.off),I r1.off] 100)):=⟨(Ac.out.below (ag _ _)).cell 3,(Ac.out.below (ag _ _)).cell 4,(HKB1.out.grow (ag _ _)).z.cell 7,(HY.out _ (HKB1.out.grow (ag _ _)).lo).a 4 _ rfl⟩;refine hK.out _ _ hS5 (fun _=>?_);clear hK K;refine ax ?_;refine bI 4 (fun K hK=>?_);have c8:(V.alloc (.cells #[I (fd1*1440+r1.minute - r0.off),I r1.off] 100)).cell? ⟨w.heap.size+1,8,none⟩=some (.slice A n cp):=(HKB1.out.grow (ag _ _)).k.cell 8;go_simp;clear c8;refine hK.out _ _ hS5 (fun _=>?_);clear hK K;refine ax ?_;refine bI 22 (fun K hK=>?_);have hvl:=HKB1.out.k.lt;refine step_append_lies _ (by rfl) _ _ _ (by rfl) (w.heap.size+2) 100 i0 (.agg #[I 0,I 0]) 2 16 Tryz.underlying48 HI.out zD.out oG.out lL.out rfl (by omega) (.slice A n cp) n (vK.flatMap Tr.cells) (by rfl) (own_below HKB1.out.own (ag _ _)) ⟨V.heap.size,0,none⟩ 1 1 [I (fd1*1440+r1.minute - r0.off),I r1.off] (by rfl) rfl (dC V _ _ _ rfl) (uU ⟨fd1*1440+r1.minute - r0.off,r1.off⟩) (by omega) (by unfold maxLen;omega) (by omega) (by simp;omega) _ rfl ?_;intro gg cap w6 hown6 hgrow6 _ _;have hxk:=ae (oP.add (x:=⟨fd1*1440+r1.minute - r0.off,r1.off⟩) HKB1.out rfl rfl hown6 hgrow6);have wY:Hid (AV rb 130 #[I r1.month,I r1.bZ,I r1.cZ,I r1.minute,I r1.off] w6):=ae ⟨(hgrow6.block _ (by have:=Ac.out.lt;simp;omega) Ad.out).trans ((Below.heap_alloc _ _ _ Ac.out.lt).trans Ac.out.var)⟩;have hk6:Hid (AV (w.heap.size+1) 92 ([I ep, .slice A0 n0 a,I lp, .slice R0 n1 r,I st, .slice C0 n2 c0,I ho, .slice (some ⟨yb,yo,none⟩) 2 d0]++ [Value.slice A n cp,I q]).toArray w6):=ae ⟨(hgrow6.block _ (by have:=HKB1.out.k.lt;simp;omega) (dV HKB1.out.own _ (by omega))).trans ((Below.heap_alloc _ _ _ HKB1.out.k.lt).trans HKB1.out.k.var)⟩;have DT:Hid (AV w.heap.size 51 #[I ep, .slice A0 n0 a,I lp, .slice R0 n1 r,I st, .slice C0 n2 c0,I ho, .slice (some ⟨yb,yo,none⟩) 2 d0] w6):=ae ⟨(hgrow6.block _ (by have:=HKB1.out.z.lt;simp;omega) (dV HKB1.out.own _ (by omega))).trans ((Below.heap_alloc _ _ _ HKB1.out.z.lt).trans HKB1.out.z.var)⟩;have JL:Hid (w6.cell? ⟨yb,yo+4,none⟩=some (I r0.off)):=ae (by
         have hb6:Below w.heap.size w w6:=di (ah HKB1.out.lo (ag _ _)) (aX (own_below HKB1.out.own (ag _ _)) (by omega)) (ah HKB1.out.lo (ag _ _)).size hgrow6;exact (HY.out w6 hb6).a 4 _ rfl)
        clear hown6 hgrow6;have hS6:I5 rb w.heap.size yb (yo+4) r1.minute r1.off r0.off (.slice (some ⟨yb,yo,none⟩) 2 d0) w6:=⟨wY.out.cell 3,wY.out.cell 4,DT.out.cell 7,JL.out⟩;refine hK.out _ _ hS6 (fun _=>?_);clear hK K;try simp only [Act.put,List.setIfInBounds_toArray]
        refine aK 23 (.pointer (some ⟨w.heap.size+1,0,none⟩)) 102 hS6 (fun w' hSw=>?_) ?_
        ·clear hSw
         first|(go_simp;done)|(go_simp;with_reducible rfl)
        try simp only [Act.put]
        refine aK 24 (.pointer (some ⟨w.heap.size+1,8,none⟩)) 103 hS6 (fun w' hSw=>?_) ?_
        ·clear hSw
         first|(go_simp;done)|(go_simp;with_reducible rfl)
        try simp only [Act.put]
        refine bI 25 (fun K hK=>?_);have c8:=hk6.out.cell 8;have f8:=hk6.out.gm 8;go_simp;have hS7:I5 rb w.heap.size yb (yo+4) r1.minute r1.off r0.off (.slice (some ⟨yb,yo,none⟩) 2 d0) (w6.setCell ⟨w.heap.size+1,8,none⟩ (.slice (some ⟨gg,0,none⟩) (n+1) cap)):=⟨(wY.out.far PN.out 8 _).cell 3,(wY.out.far PN.out 8 _).cell 4,hxk.out.z.cell 7,(HY.out _ hxk.out.lo).a 4 _ rfl⟩;refine hK.out _ _ hS7 (fun _=>?_);clear hK K;refine wpAnyH_done (by kernel_rfl) ?_ _;go_wp2_with fail;go_meet;exact ⟨some ⟨gg,0,none⟩,n+1,cap,by omega,by rw [show Cb=vK++ [⟨fd1*1440+r1.minute - r0.off,r1.off⟩] from HE1T.out];exact hxk.out⟩
     case rest=>
      obtain ⟨A',n',cp',hnn,hk2⟩:=hcut;have jc:=ae hk2;have hnd:(n':Int)≤2*yy:=by omega
      clear hk2 hnn iP HYD1 HFD1 Em TK v0 v1 v2 v3 v7 dF xM xN xO xP xQ xR xU xW y13 xX;have v0:wc.cell? ⟨w.heap.size,0,none⟩=some (I ep):=jc.out.z.cell 0;have v1:wc.cell? ⟨w.heap.size,1,none⟩=some (.slice A0 n0 a):=jc.out.z.cell 1;have v2:wc.cell? ⟨w.heap.size,2,none⟩=some (I lp):=jc.out.z.cell 2;have v3:wc.cell? ⟨w.heap.size,3,none⟩=some (.slice R0 n1 r):=jc.out.z.cell 3;have v7:wc.cell? ⟨w.heap.size,7,none⟩=some (.slice (some ⟨yb,yo,none⟩) 2 d0):=jc.out.z.cell 7;go_wp2_with fail;rw [rounds_succ];have hge:=pG cal yy HC.out;have hbd2:=jF cal yy HC.out;obtain ⟨f',hf1,hf2⟩:=Ro HF.out hlt V8.out hge;rw [HTS0.out,HTS1.out] at hf2;obtain ⟨yl,hyl⟩:∃v,dK cal yy=v:=⟨_,rfl⟩;have hcy:=kX.out yy wc jc.out.lo;rw [hyl] at hf1 hf2 hcy hge hbd2;have TL:=ae hf1;have HF2:=ae hf2;have fU:=ae hcy;clear hcy hyl hf1 hf2;go_wp2_with fail;refine fU.out.mono ?_;rintro e w9 ⟨rfl,xE⟩;have HK9:=ae (jc.out.grow xE);clear xE jc v0 v1 v2 v3 v7;go_wp2_with fail;go_roundw
      case rel=>exact ⟨f',bg+yl,yy+1,A',n',cp',Cb,by go_num,by go_num,by omega,by omega,by omega,by omega,by omega,TL.out,HF2.out,HK9.out⟩
      case measure=>simp [intOf];omega
   ·have hre:=Om HF.out hlt;subst hre;clear HF V8;go_wp2_with fail;go_quiet (fail);obtain ⟨W7,QG⟩:∃W,wr.drewN nq=W:=⟨_,rfl⟩;rw [QG];have xg:Hid (oP w [I ep, .slice A0 n0 a,I lp, .slice R0 n1 r,I st, .slice C0 n2 c0,I ho, .slice (some ⟨yb,yo,none⟩) 2 d0] q A n cp ts W7):=ae (by rw [←QG];exact HW.out.drewN nq);clear QG v0 c9 HW;have c8:W7.cell? ⟨w.heap.size+1,8,none⟩=some (.slice A n cp):=xg.out.k.cell 8;have HSRT:=ae (J9 xg.out.own xg.out.len (by omega));go_wp2_with fail;refine HSRT.out.mono ?_;rintro e w8 ⟨rfl,us,hp,hs,ho,hg⟩;have hus:us=ys:=Ou Dq.out (hp.trans SY.out.symm) hs;subst hus;have hul:us.length=n:=by rw [hp.length_eq];exact xg.out.len
    have We:=ae (xg.out.sorted hul ho hg);have Wp:Hid (Gt us):=ae HTBY.out;clear hp hs ho hg HSRT xg c8 SY;have c8:w8.cell? ⟨w.heap.size+1,8,none⟩=some (.slice A n cp):=We.out.k.cell 8;go_wp2_with fail;clear c8
    go_loopw [121] (fun i wr=>∃k:Nat,k≤n∧i=I (k:Nat)∧oP w [I ep, .slice A0 n0 a,I lp, .slice R0 n1 r,I st, .slice C0 n2 c0,I ho, .slice (some ⟨yb,yo,none⟩) 2 d0] q A n cp us wr) (fun i _=>n - (intOf i).toNat)
    case atStart=>exact ⟨0,Nat.zero_le _,rfl,We.out⟩
    case round=>
     clear We;obtain ⟨k,hkn,rfl,hks⟩:=hrel;have HX:=ae hks;clear hks;by_cases hlt2:k<n
     ·have i1:(k:Int)<(n:Int):=by omega
      have i0':(0:Int)≤(k:Int):=by omega
      have hga:=vT Dq.out k (by rw [hul];exact hlt2);unfold mJ at hga;rw [hul] at hga;have a0:=lQ 0 Wp.out;have ak:=lQ k Wp.out;have ak1:=lQ (k+1) Wp.out;obtain ⟨g,hAg⟩:∃g,A=some ⟨g,0,none⟩:=by
       rcases HX.out.own.2 with ⟨_,hz⟩|⟨g,cap,cur,hv,_⟩
       ·omega
       ·injection hv with h1 _ _;exact ⟨g,h1⟩
      subst hAg;have HAT:=ae (fun (W:World) (h:oP w [I ep, .slice A0 n0 a,I lp, .slice R0 n1 r,I st, .slice C0 n2 c0,I ho, .slice (some ⟨yb,yo,none⟩) 2 d0] q (some ⟨g,0,none⟩) n cp us W) (j:Nat) (hj:j<n)=>pR h.own h.len j hj);have O1:=ae (qL HX.out.own HX.out.len k hlt2);obtain ⟨t0,ht0⟩:∃t,df us 0=t:=⟨_,rfl⟩;obtain ⟨tk,htk⟩:∃t,df us k=t:=⟨_,rfl⟩;obtain ⟨tl,htl⟩:∃t,df us (k+1)=t:=⟨_,rfl⟩;obtain ⟨ok,hok⟩:∃t,fD us k=t:=⟨_,rfl⟩;have uf:Hid (∀W,oP w [I ep, .slice A0 n0 a,I lp, .slice R0 n1 r,I st, .slice C0 n2 c0,I ho, .slice (some ⟨yb,yo,none⟩) 2 d0] q (some ⟨g,0,none⟩) n cp us W→W.cell? ⟨g,0,none⟩=some (I t0)):=ae (fun W h=>by have:=HAT.out W h 0 (by omega);rw [ht0] at this;simpa using this);have FW:Hid (∀W,oP w [I ep, .slice A0 n0 a,I lp, .slice R0 n1 r,I st, .slice C0 n2 c0,I ho, .slice (some ⟨yb,yo,none⟩) 2 d0] q (some ⟨g,0,none⟩) n cp us W→k+1<n→W.cell? ⟨g,(k+1)*2,none⟩=some (I tl)):=ae (fun W h hj=>by have:=HAT.out W h (k+1) hj;rw [htl] at this;exact this);have e0:=HAT.out wr HX.out k hlt2;have e1:=O1.out;rw [htk] at e0;rw [hok] at e1;rw [ht0,htk,htl] at hga;rw [ht0] at a0;rw [htk] at ak;rw [htl] at ak1;clear ht0 htk htl hok HAT O1;go_upto_region 24 with (first
       |((with_reducible refine bn 100 ?_);refine aG rfl 100 rfl #[I 0,I 0] (by kernel_rfl) ?_)
       |((with_reducible refine bT 100 ?_);go_must (refine wpList_store_row rfl _ _ _ rfl wr.heap.size #[I tk,I ok] rfl rfl 100 #[I 0,I 0] (heap_alloc_last wr _) (by kernel_rfl) rfl (by simp [Value.oneCell']) ?_)))
      have hbr:Below wr.heap.size wr ((wr.alloc (.cells #[I 0,I 0] 100)).setRow wr.heap.size #[I tk,I ok]):=aC (ag wr _) (Nat.le_refl _) _;have HXR:=ae (AV.lq (AV.new wr #[I 0,I 0] 100) #[I tk,I ok]);have uJ:=ae (HX.out.grow hbr);clear hbr HX e0 e1;generalize (wr.alloc (.cells #[I 0,I 0] 100)).setRow wr.heap.size #[I tk,I ok]=W2 at uJ HXR ⊢;generalize wr.heap.size=rb at HXR ⊢;have c8:W2.cell? ⟨w.heap.size+1,8,none⟩=some (.slice (some ⟨g,0,none⟩) n cp):=uJ.out.k.cell 8;have c9:W2.cell? ⟨w.heap.size+1,9,none⟩=some (I q):=uJ.out.k.cell 9;have a00:=uf.out W2 uJ.out;have hn0:0<n:=by omega
      have wq:IntKind.i64.wrap (q*1440)=q*1440:=by rw [IntKind.wrap_i64];omega
      have wt:IntKind.i64.wrap (t0+q*1440)=t0+q*1440:=by rw [IntKind.wrap_i64];omega
      go_quiet ((go_at_call 59;exact mg _ q W2 c9 (by omega) (by omega) _));obtain ⟨W3,hW3⟩:∃W,W2.drewN nq=W:=⟨_,rfl⟩;rw [hW3];have BR:Hid (oP w [I ep, .slice A0 n0 a,I lp, .slice R0 n1 r,I st, .slice C0 n2 c0,I ho, .slice (some ⟨yb,yo,none⟩) 2 d0] q (some ⟨g,0,none⟩) n cp us W3):=ae (by rw [←hW3];exact uJ.out.drewN nq);have HR3:Hid (AV rb 100 #[I tk,I ok] W3):=ae (by rw [←hW3];exact HXR.out.below (below_drewN' _ _));clear hW3 c8 c9 a00 uJ HXR;have c8:W3.cell? ⟨w.heap.size+1,8,none⟩=some (.slice (some ⟨g,0,none⟩) n cp):=BR.out.k.cell 8;have r00:W3.cell? ⟨rb,0,none⟩=some (I tk):=HR3.out.cell 0;by_cases hl:k+1<n
      ·have i2:(k:Int)+1<(n:Int):=by omega
       have al:=FW.out W3 BR.out hl;rw [if_pos hl] at hga;have hnl:¬tl - tk<2160:=by omega
       clear hga uf FW;go_wp2_with fail;go_roundw
       case rel=>exact ⟨k+1,by omega,by go_num,BR.out⟩
       case measure=>simp [intOf];omega
      ·have i2:¬(k:Int)+1<(n:Int):=by omega
       rw [if_neg hl] at hga;have hnl:¬t0+q*1440 - tk<2160:=by omega
       clear hga uf FW;go_wp2_with fail;go_roundw
       case rel=>exact ⟨k+1,by omega,by go_num,BR.out⟩
       case measure=>simp [intOf];omega
     ·have i1:¬(k:Int)<(n:Int):=by omega
      go_wp2_with fail;go_ret2;exact ⟨rfl,A,n,cp,HX.out⟩
end Go.Proofs.YtdibbemgpikgjaaGreat
