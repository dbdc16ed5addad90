/- The texts Ji, in this order. -/
import Derived.Test.YtbaehbbonkljpaaGreatDoorS00
import Derived.Test.YtbaehbbonkljpaaGreatDoorS07
import Derived.Test.YtbaehbbonkljpaaGreatDoorS09
import Derived.Test.YtbaehbbonkljpaaGreatDoorS10
import Derived.Test.YtbaehbbonkljpaaGreatDoorS11
set_option maxRecDepth 10000
set_option maxHeartbeats 8000000
namespace Go.Proofs.YtbaehbbonkljpaaGreatDoor
open Go Go.RowKit
theorem tickG (z:Zn) (s:Zs) (r0 r1:Yr) (w:World) (hc:fJ z.cal) (h:iP w w.heap.size s z) (hy:z.aH= [r0,r1]) (hr0:ui z.cal.au.length r0) (hr1:ui z.cal.au.length r1):
  Calls Tryz.prog 90 #[.agg (ay z s)] w fun e w'=>(eH (tJ z) (gy z*1440)=true/\e= .returned (.tuple #[.pointer (some ⟨w.heap.size+1,0,none⟩), .bool true])/\∃A n c,qW w (ay z s).toList (gy z) A n c (tJ z) w')\/(eH (tJ z) (gy z*1440)=false/\e= .returned (.tuple #[.pointer none, .bool false])/\Below w.heap.size w w'):=by
 have qX:=ae (fun (W:World) (hb:Below w.heap.size w W)=>Qd z.cal s.A s.B s.a s.b W hc ⟨h.au.grow hb,h.rules.grow hb⟩);have Xf:=ae (fun (bg y:Int) (x:Yr) (W:World) (hx:ui z.cal.au.length x) (h1:0<=bg) (h2:bg<=100000000) (hb:Below w.heap.size w W)=>Vw z.cal s.A s.B s.a s.b bg y x W hc ⟨h.au.grow hb,h.rules.grow hb⟩ h1 h2 hx);have qo:=ae (fun (y:Int) (W:World) (hb:Below w.heap.size w W)=>Vx z.cal s.A s.B s.a s.b y W hc ⟨h.au.grow hb,h.rules.grow hb⟩);have hbd:=xU z hc;have hge1:=hbd.1;have mJ:=hc.ep;have V9:=ae (fun (bg y:Int) (x:Yr) (hx:ui z.cal.au.length x)=>Vu z.cal bg y x hc hx);have HPB:=ae (fun (bg y:Int) (x x':Yr) (ts:List Tr) (hx:ui z.cal.au.length x) (hx':ui z.cal.au.length x') (h1:0<=bg) (h2:bg<=4000000) (h3:oG ts)=>Cm z.cal bg y x x' ts hc hx hx' h1 h2 h3);have HYRB:=ae (fun (y:Int)=>l7 z.cal y hc);have PQ:=ae (uK z);have ZE:=ae (Dn z);have hrw:uy z=pR z.cal r0 r1 (z.cal.bn+gy z) (gy z).toNat z.cal.bn 1 []:=by unfold uy;rw [hy]
 obtain ⟨yb,yo,hD,hyb,KJ⟩:=h.aH.there (by rw [hy];simp [Yr.cells]);have HY:Hid (∀W,Below w.heap.size w W->YC W yb yo r0 r1):=ae fun W hb=>by
  rw [hy] at KJ;exact ⟨aS (aA.elem (s:=5) (f:=Yr.cells) (xs:= [r0,r1]) (fun _ _=>rfl) KJ 0 r0 rfl) hb hyb,aS (aA.elem (s:=5) (f:=Yr.cells) (xs:= [r0,r1]) (fun _ _=>rfl) KJ 1 r1 rfl) hb hyb⟩
 clear KJ;have X4:gy z=I9 (Ic z.cal):=by unfold gy;rw [hy]
 have hcd:=Md hc;obtain ⟨dd,hdd⟩:∃d,Ic z.cal=d:=⟨_,rfl⟩;rw [hdd] at qX X4 hcd;obtain ⟨res,hres⟩:∃res,uy z=res:=⟨_,rfl⟩;rw [hres] at PQ;rw [hrw] at hres;obtain ⟨q,hq⟩:∃q,gy z=q:=⟨_,rfl⟩;rw [hq] at hbd hge1 hres X4 ⊢;obtain ⟨ys,hys⟩:∃ys,tJ z=ys:=⟨_,rfl⟩;rw [hys] at PQ ZE ⊢;have rF:=ae hres;have PS:=ae hr0;have PT:=ae hr1;have hmi0:=hr0.mi;have hof0:=hr0.of;have XX:=hr1.mi;have XY:=hr1.of;clear hres hq hys hr0 hr1 hc h hdd hrw;obtain ⟨cal,st,tr,ho,yr⟩:=z;obtain ⟨A0,a,R0,r,C0,c0,D0,d0⟩:=s;simp only at hy hD qX Xf qo V9 HPB HYRB PS PT mJ rF ⊢;subst hy hD;obtain ⟨ep,yG⟩:∃ep,cal.bn=ep:=⟨_,rfl⟩;rw [yG] at mJ rF;obtain ⟨lp,BQ⟩:∃lp,cal.dA=lp:=⟨_,rfl⟩;obtain ⟨n0,hn0⟩:∃n,cal.au.length=n:=⟨_,rfl⟩;obtain ⟨n1,hn1⟩:∃n,cal.rules.length=n:=⟨_,rfl⟩;obtain ⟨n2,hn2⟩:∃n,tr.length=n:=⟨_,rfl⟩;unfold ay aI at*;simp only [yG,BQ,hn0,hn1,hn2,List.length_cons,List.length_nil,Nat.zero_add,Nat.reduceAdd] at qX Xf qo V9 HPB HYRB PS PT ⊢;clear yG BQ hn0 hn1 hn2;obtain ⟨i0,hi,hq0,hq1,hq2⟩:=info_parts xy;have HI:=ae hi;have sU:=ae hq0;have kD:=ae hq1;have jr:=ae hq2;clear hi hq0 hq1 hq2;show Calls Tryz.prog _ #[.agg #[I ep, .slice A0 n0 a,I lp, .slice R0 n1 r,I st, .slice C0 n2 c0,I ho, .slice (some ⟨yb,yo,none⟩) 2 d0]] w _;show Calls Tryz.prog _ _ w (fun e w'=>(eH ys (q*1440)=true/\e= .returned (.tuple #[.pointer (some ⟨w.heap.size+1,0,none⟩), .bool true])/\∃A n c,qW w [I ep, .slice A0 n0 a,I lp, .slice R0 n1 r,I st, .slice C0 n2 c0,I ho, .slice (some ⟨yb,yo,none⟩) 2 d0] q A n c ys w')\/(eH ys (q*1440)=false/\e= .returned (.tuple #[.pointer none, .bool false])/\Below w.heap.size w w'));have hone:(#[I ep, .slice A0 n0 a,I lp, .slice R0 n1 r,I st, .slice C0 n2 c0,I ho, .slice (some ⟨yb,yo,none⟩) 2 d0, .slice none 0 0,I 1]:Array Value).all (·.oneCell')=true:=by simp [Value.oneCell']
 have HV:=ae (AV.new w #[I ep, .slice A0 n0 a,I lp, .slice R0 n1 r,I st, .slice C0 n2 c0,I ho, .slice (some ⟨yb,yo,none⟩) 2 d0] 69);go_enter Tryz.func90,Tryz.ntmps90;go_wp2_with (first
  |((with_reducible refine dY 69 ?_);go_must (refine aP rfl _ _ rfl w.heap.size rfl #[I ep, .slice A0 n0 a,I lp, .slice R0 n1 r,I st, .slice C0 n2 c0,I ho, .slice (some ⟨yb,yo,none⟩) 2 d0] HV.out.jw _ Tryz.underlying69 rfl (by kernel_rfl) ?_))
  |((with_reducible refine fP 205 ?_);refine bz rfl 205 rfl #[I ep, .slice A0 n0 a,I lp, .slice R0 n1 r,I st, .slice C0 n2 c0,I ho, .slice (some ⟨yb,yo,none⟩) 2 d0, .slice none 0 0,I 1] (by kernel_rfl) ?_))
 have HK:Hid (qW w [I ep, .slice A0 n0 a,I lp, .slice R0 n1 r,I st, .slice C0 n2 c0,I ho, .slice (some ⟨yb,yo,none⟩) 2 d0] 1 none 0 0 [] ((w.alloc (.cells #[I ep, .slice A0 n0 a,I lp, .slice R0 n1 r,I st, .slice C0 n2 c0,I ho, .slice (some ⟨yb,yo,none⟩) 2 d0] 69)).alloc (.cells #[I ep, .slice A0 n0 a,I lp, .slice R0 n1 r,I st, .slice C0 n2 c0,I ho, .slice (some ⟨yb,yo,none⟩) 2 d0, .slice none 0 0,I 1] 205))):=ae ⟨ah (ag w _) (ag _ _),HV.out.below (ag _ _),by have:=AV.new (w.alloc (.cells #[I ep, .slice A0 n0 a,I lp, .slice R0 n1 r,I st, .slice C0 n2 c0,I ho, .slice (some ⟨yb,yo,none⟩) 2 d0] 69)) #[I ep, .slice A0 n0 a,I lp, .slice R0 n1 r,I st, .slice C0 n2 c0,I ho, .slice (some ⟨yb,yo,none⟩) 2 d0, .slice none 0 0,I 1] 205;rw [oU] at this;exact this,World.ownsRow_nil _ _ _ _,rfl⟩;clear HV;generalize (w.alloc (.cells #[I ep, .slice A0 n0 a,I lp, .slice R0 n1 r,I st, .slice C0 n2 c0,I ho, .slice (some ⟨yb,yo,none⟩) 2 d0] 69)).alloc (.cells #[I ep, .slice A0 n0 a,I lp, .slice R0 n1 r,I st, .slice C0 n2 c0,I ho, .slice (some ⟨yb,yo,none⟩) 2 d0, .slice none 0 0,I 1] 205)=W0 at HK ⊢;have v0:W0.cell? ⟨w.heap.size,0,none⟩=some (I ep):=HK.out.z.cell 0;have v1:W0.cell? ⟨w.heap.size,1,none⟩=some (.slice A0 n0 a):=HK.out.z.cell 1;have v2:W0.cell? ⟨w.heap.size,2,none⟩=some (I lp):=HK.out.z.cell 2;have v3:W0.cell? ⟨w.heap.size,3,none⟩=some (.slice R0 n1 r):=HK.out.z.cell 3;have v7:W0.cell? ⟨w.heap.size,7,none⟩=some (.slice (some ⟨yb,yo,none⟩) 2 d0):=HK.out.z.cell 7;go_wp2_with fail;refine (qX.out _ HK.out.lo).mono ?_;rintro e w1 ⟨rfl,hb1⟩;have jP:=ae (HK.out.grow hb1);clear hb1 HK qX v0 v1 v2 v3 v7;have c9:w1.cell? ⟨w.heap.size+1,9,none⟩=some (I 1):=jP.out.k.cell 9;have f9:w1.frozen? ⟨w.heap.size+1,9,none⟩=false:=jP.out.k.fZ 9;have jA:=ae (jP.out.setCy rfl dd);have OE:Int.tmod dd 7=dd%7:=Int.tmod_eq_emod_of_nonneg (by omega);obtain ⟨p,hp⟩:∃p,dd%7=p:=⟨_,rfl⟩;rw [hp] at OE;have HP:=ae hp;have HZQ:=ae X4;clear hp X4;go_upto_if 38 with fail
 go_cut [6] (fun d wx=>d=I dd/\qW w [I ep, .slice A0 n0 a,I lp, .slice R0 n1 r,I st, .slice C0 n2 c0,I ho, .slice (some ⟨yb,yo,none⟩) 2 d0] q none 0 0 [] wx)
 case first=>
  by_cases h7:p=0
  ·subst h7;have hqq:q=dd:=by rw [HZQ.out];unfold I9;rw [if_pos HP.out]
   have HQE:=ae hqq;clear hqq;go_wp2_with fail;go_meet;exact ⟨rfl,by rw [HQE.out];exact jA.out⟩
  ·have hqq:q=7*dd:=by rw [HZQ.out];unfold I9;rw [if_neg (by rw [HP.out];exact h7)]
   have HQE:=ae hqq;clear hqq;have hpb:(p !=0)=true:=by simpa using h7
   have w0:IntKind.i64.wrap (dd*7)=dd*7:=by rw [IntKind.wrap_i64];omega
   clear c9 f9;generalize w1.setCell ⟨w.heap.size+1,9,none⟩ (I dd)=W2 at jA ⊢;have c9:W2.cell? ⟨w.heap.size+1,9,none⟩=some (I dd):=jA.out.k.cell 9;have f9:W2.frozen? ⟨w.heap.size+1,9,none⟩=false:=jA.out.k.fZ 9;have nC:=ae (jA.out.setCy rfl (dd*7));go_wp2_with fail;go_meet;exact ⟨rfl,by rw [HQE.out,Int.mul_comm];exact nC.out⟩
 case rest=>
  obtain ⟨rfl,hk⟩:=hcut;have HK:=ae hk;clear hk jA jP c9 f9 OE HP HZQ;have v0:wc.cell? ⟨w.heap.size,0,none⟩=some (I ep):=HK.out.z.cell 0;go_wp2_with fail;clear v0
  go_loopw [8,9] (fun b y wr=>∃(f:Nat) (bg yy:Int) (A:Option Addr) (n cp:Nat) (ts:List Tr),b=I bg/\y=I yy/\1<=yy/\ep+(yy - 1)<=bg/\0<=bg/\bg<=ep+q+700/\(n:Int)<=2*(yy - 1)/\(ep+q - bg).toNat<=f/\pR cal r0 r1 (ep+q) f bg yy ts=res/\oG ts/\qW w [I ep, .slice A0 n0 a,I lp, .slice R0 n1 r,I st, .slice C0 n2 c0,I ho, .slice (some ⟨yb,yo,none⟩) 2 d0] q A n cp ts wr) (fun b _ _=>((ep+q) - intOf b).toNat)
  case atStart=>exact ⟨q.toNat,ep,1,none,0,0,[],rfl,rfl,by omega,by omega,by omega,by omega,by omega,by omega,rF.out,(fun _ h=>nomatch h),HK.out⟩
  case round=>
   clear HK;obtain ⟨f,bg,yy,A,n,cp,ts,rfl,rfl,hy1,hy2,hb0,hbs,hn2,hf,hyf,htb,hys⟩:=hrel;have IA:=ae htb;have HF:=ae hyf;have HW:=ae hys;have Zw:=ae hf;clear hyf hys hf htb;have v0:wr.cell? ⟨w.heap.size,0,none⟩=some (I ep):=HW.out.z.cell 0;have c9:wr.cell? ⟨w.heap.size+1,9,none⟩=some (I q):=HW.out.k.cell 9;by_cases hlt:bg<ep+q
   ·go_wp2_with fail;go_quiet (fail);obtain ⟨W7,TP⟩:∃W,wr.drewN nq=W:=⟨_,rfl⟩;rw [TP];have vP:Hid (qW w [I ep, .slice A0 n0 a,I lp, .slice R0 n1 r,I st, .slice C0 n2 c0,I ho, .slice (some ⟨yb,yo,none⟩) 2 d0] q A n cp ts W7):=ae (by rw [<-TP];exact HW.out.drewN nq);clear TP v0 c9 HW;have v0:W7.cell? ⟨w.heap.size,0,none⟩=some (I ep):=vP.out.z.cell 0;have v1:W7.cell? ⟨w.heap.size,1,none⟩=some (.slice A0 n0 a):=vP.out.z.cell 1;have v2:W7.cell? ⟨w.heap.size,2,none⟩=some (I lp):=vP.out.z.cell 2;have v3:W7.cell? ⟨w.heap.size,3,none⟩=some (.slice R0 n1 r):=vP.out.z.cell 3;have v7:W7.cell? ⟨w.heap.size,7,none⟩=some (.slice (some ⟨yb,yo,none⟩) 2 d0):=vP.out.z.cell 7;have dE:=ae (HY.out W7 vP.out.lo);have zI:W7.cell? ⟨yb,yo,none⟩=some (I r0.month):=dE.out.a 0 _ rfl;have zJ:W7.cell? ⟨yb,yo+1,none⟩=some (I r0.cZ):=dE.out.a 1 _ rfl;have zK:W7.cell? ⟨yb,yo+2,none⟩=some (I r0.dh):=dE.out.a 2 _ rfl;have zL:W7.cell? ⟨yb,yo+3,none⟩=some (I r0.minute):=dE.out.a 3 _ rfl;have zM:W7.cell? ⟨yb,yo+4,none⟩=some (I r0.off):=dE.out.a 4 _ rfl;have zZ:W7.cell? ⟨yb,yo+5,none⟩=some (I r1.month):=dE.out.b 0 _ rfl;have Aa:W7.cell? ⟨yb,yo+6,none⟩=some (I r1.cZ):=dE.out.b 1 _ rfl;have Ac:W7.cell? ⟨yb,yo+7,none⟩=some (I r1.dh):=dE.out.b 2 _ rfl;have y13:W7.cell? ⟨yb,yo+8,none⟩=some (I r1.minute):=dE.out.b 3 _ rfl;have Ad:W7.cell? ⟨yb,yo+9,none⟩=some (I r1.off):=dE.out.b 4 _ rfl;go_wp2_with fail;refine wp_loop_rounds 3 ?_;rw [rounds_succ];go_upto_block 3 with fail;obtain ⟨xh,Qn⟩:∃t,pM cal bg yy r0 r1 ts=t:=⟨_,rfl⟩;have rM:=fun (W:World) hb=>Xf.out bg yy r0 W PS.out (by omega) (by omega) hb;have XZ:=V9.out bg yy r0 PS.out;obtain ⟨pr0,MI⟩:∃pr,Q8 cal bg yy r0=pr:=⟨_,rfl⟩;rw [MI] at rM XZ;have hps0:=Qn;unfold pM at hps0;rw [MI] at hps0;obtain ⟨fd0,fb0⟩:=pr0;simp only at rM XZ hps0;have HYD0:=ae rM;have HFD0:Hid (fb0=true->bg - 10<=fd0/\fd0<=bg+800):=ae (fun _=>XZ);have Kw:Hid (fb0=true->xh=ts++ [⟨fd0*1440+r0.minute - r1.off,r0.off⟩]):=ae (fun h=>by rw [<-hps0,if_pos h]);have WT:Hid (fb0=false->xh=ts):=ae (fun h=>by rw [<-hps0,if_neg (by rw [h];decide)]);have HTS0:=ae Qn;clear Qn rM XZ MI hps0
    go_cut [10] (fun _ wx=>∃(A':Option Addr) (n' cp':Nat),n'<=n+1/\qW w [I ep, .slice A0 n0 a,I lp, .slice R0 n1 r,I st, .slice C0 n2 c0,I ho, .slice (some ⟨yb,yo,none⟩) 2 d0] q A' n' cp' xh wx)
    case first=>
     go_upto_region 15 with (first
      |((with_reducible refine aZ 110 ?_);refine aG rfl 110 rfl #[I 0,I 0,I 0,I 0,I 0] (by kernel_rfl) ?_)
      |((with_reducible refine bY 110 ?_);go_must (refine wpList_store_row rfl _ _ _ rfl W7.heap.size #[I r0.month,I r0.cZ,I r0.dh,I r0.minute,I r0.off] rfl rfl 110 #[I 0,I 0,I 0,I 0,I 0] (heap_alloc_last W7 _) (by kernel_rfl) rfl (by simp [Value.oneCell']) ?_)))
     have hb2:Below W7.heap.size W7 ((W7.alloc (.cells #[I 0,I 0,I 0,I 0,I 0] 110)).setRow W7.heap.size #[I r0.month,I r0.cZ,I r0.dh,I r0.minute,I r0.off]):=aB (ag W7 _) (Nat.le_refl _) _;have HR2:=ae (AV.qy (AV.new W7 #[I 0,I 0,I 0,I 0,I 0] 110) #[I r0.month,I r0.cZ,I r0.dh,I r0.minute,I r0.off]);have Bd:Hid (some W7.heap.size≠(Value.slice A n cp).ownBlock):=ae (uw (fun g hg=>(World.ownsRow.lt vP.out.own g hg).2));have Oc:Hid (W7.heap.size≠w.heap.size+1):=ae (by have:=vP.out.k.lt;omega);have jA:=ae (vP.out.grow hb2);clear hb2 vP;clear v0 v1 v2 v3 v7;clear dE zI zJ zK zL zM zZ Aa Ac y13 Ad;generalize (W7.alloc (.cells #[I 0,I 0,I 0,I 0,I 0] 110)).setRow W7.heap.size #[I r0.month,I r0.cZ,I r0.dh,I r0.minute,I r0.off]=W2 at jA HR2 ⊢;generalize W7.heap.size=rb at HR2 Bd Oc ⊢;have v0:W2.cell? ⟨w.heap.size,0,none⟩=some (I ep):=jA.out.z.cell 0;have v1:W2.cell? ⟨w.heap.size,1,none⟩=some (.slice A0 n0 a):=jA.out.z.cell 1;have v2:W2.cell? ⟨w.heap.size,2,none⟩=some (I lp):=jA.out.z.cell 2;have v3:W2.cell? ⟨w.heap.size,3,none⟩=some (.slice R0 n1 r):=jA.out.z.cell 3;have v7:W2.cell? ⟨w.heap.size,7,none⟩=some (.slice (some ⟨yb,yo,none⟩) 2 d0):=jA.out.z.cell 7;clear v7;have u0:W2.cell? ⟨rb,0,none⟩=some (I r0.month):=HR2.out.cell 0;have u1:W2.cell? ⟨rb,1,none⟩=some (I r0.cZ):=HR2.out.cell 1;have u2:W2.cell? ⟨rb,2,none⟩=some (I r0.dh):=HR2.out.cell 2;have u3:W2.cell? ⟨rb,3,none⟩=some (I r0.minute):=HR2.out.cell 3;have u4:W2.cell? ⟨rb,4,none⟩=some (I r0.off):=HR2.out.cell 4;go_wp2_with fail;refine (HYD0.out W2 jA.out.lo).mono ?_;rintro e w3 ⟨rfl,hb3⟩;have nC:=ae (jA.out.grow hb3);have HR3:=ae (HR2.out.below hb3);clear hb3 jA HR2 v0 v1 v2 v3 u0 u1 u2 u3 u4;cases fb0 with
     |false=>
      have HEF:=ae (WT.out rfl);clear WT Kw;go_wp2_with fail;go_meet;exact ⟨A,n,cp,by omega,by rw [HEF.out];exact nC.out⟩
     |true=>
      have HE0T:=ae (Kw.out rfl);clear Kw WT;have hfd:=HFD0.out rfl;go_upto_region 17 with fail;have hS0:KF rb w.heap.size yb (yo+9) r0.minute r0.off r1.off (.slice (some ⟨yb,yo,none⟩) 2 d0) w3.drew:=⟨HR3.out.drew.cell 3,HR3.out.drew.cell 4,nC.out.drew.z.cell 7,(HY.out _ nC.out.drew.lo).b 4 _ rfl⟩;have jE:=ae nC.out.drew;have Ba:=ae HR3.out.drew;clear nC HR3;refine wp_region_held_drew (S:=KF rb w.heap.size yb (yo+9) r0.minute r0.off r1.off (.slice (some ⟨yb,yo,none⟩) 2 d0)) (by kernel_rfl) hS0 (fun _=>?_);generalize w3.drew=V at hS0 jE Ba ⊢;have wk0:IntKind.i64.wrap 1=1:=by rw [IntKind.wrap_i64];omega
      have w1:IntKind.i64.wrap (fd0*1440)=fd0*1440:=by rw [IntKind.wrap_i64];omega
      have w2:IntKind.i64.wrap (fd0*1440+r0.minute)=fd0*1440+r0.minute:=by rw [IntKind.wrap_i64];omega
      have w3:IntKind.i64.wrap (fd0*1440+r0.minute - r1.off)=fd0*1440+r0.minute - r1.off:=by rw [IntKind.wrap_i64];omega
      refine aN 0 (.pointer (some ⟨w.heap.size+1,0,none⟩)) 79 hS0 (fun w' hSw=>?_) ?_
      ·clear hSw
       first|(go_simp;done)|(go_simp;with_reducible rfl)
      refine az ?_;refine aN 1 (.pointer (some ⟨w.heap.size+1,0,none⟩)) 80 hS0 (fun w' hSw=>?_) ?_
      ·clear hSw
       first|(go_simp;done)|(go_simp;with_reducible rfl)
      refine az ?_;refine aN 2 (.pointer (some ⟨w.heap.size+1,0,none⟩)) 81 hS0 (fun w' hSw=>?_) ?_
      ·clear hSw
       first|(go_simp;done)|(go_simp;with_reducible rfl)
      refine az ?_;refine aN 3 (.pointer (some ⟨w.heap.size+1,8,none⟩)) 82 hS0 (fun w' hSw=>?_) ?_
      ·clear hSw
       first|(go_simp;done)|(go_simp;with_reducible rfl)
      refine az ?_;refine aN 5 (I fd0) 84 hS0 (fun w' hSw=>?_) ?_
      ·clear hSw
       first|(go_simp;done)|(go_simp;with_reducible rfl)
      refine az ?_;refine aN 6 (I (fd0*1440)) 85 hS0 (fun w' hSw=>?_) ?_
      ·clear hSw
       first|(go_simp;done)|(go_simp;with_reducible rfl)
      refine az ?_;refine aN 7 (.pointer (some ⟨rb,3,none⟩)) 86 hS0 (fun w' hSw=>?_) ?_
      ·clear hSw
       first|(go_simp;done)|(go_simp;with_reducible rfl)
      refine az ?_;refine aN 8 (I r0.minute) 87 hS0 (fun w' hSw=>?_) ?_
      ·obtain ⟨s0,s1,s2,s3⟩:=hSw
       first|(go_simp;done)|(go_simp;with_reducible rfl)
      refine az ?_;refine aN 9 (I (fd0*1440+r0.minute)) 88 hS0 (fun w' hSw=>?_) ?_
      ·clear hSw
       first|(go_simp;done)|(go_simp;with_reducible rfl)
      refine az ?_;refine aN 10 (.pointer (some ⟨w.heap.size,7,none⟩)) 89 hS0 (fun w' hSw=>?_) ?_
      ·clear hSw
       first|(go_simp;done)|(go_simp;with_reducible rfl)
      refine az ?_;refine aN 11 (.slice (some ⟨yb,yo,none⟩) 2 d0) 90 hS0 (fun w' hSw=>?_) ?_
      ·obtain ⟨s0,s1,s2,s3⟩:=hSw
       first|(go_simp;done)|(go_simp;with_reducible rfl)
      refine az ?_;refine aN 12 (I 0) 91 hS0 (fun w' hSw=>?_) ?_
      ·clear hSw
       first|(go_simp;done)|(go_simp;with_reducible rfl)
      refine az ?_;refine aN 13 (I 1) 92 hS0 (fun w' hSw=>?_) ?_
      ·clear hSw
       first|(go_simp;done)|(go_simp;with_reducible rfl)
      refine az ?_;refine aN 14 (.pointer (some ⟨yb,yo+5,none⟩)) 93 hS0 (fun w' hSw=>?_) ?_
      ·clear hSw
       first|(go_simp;done)|(go_simp;with_reducible rfl)
      refine az ?_;refine aN 15 (.pointer (some ⟨yb,yo+9,none⟩)) 94 hS0 (fun w' hSw=>?_) ?_
      ·clear hSw
       first|(go_simp;done)|(go_simp;with_reducible rfl)
      refine az ?_;refine aN 16 (I r1.off) 95 hS0 (fun w' hSw=>?_) ?_
      ·obtain ⟨s0,s1,s2,s3⟩:=hSw
       first|(go_simp;done)|(go_simp;with_reducible rfl)
      refine az ?_;refine aN 17 (I (fd0*1440+r0.minute - r1.off)) 96 hS0 (fun w' hSw=>?_) ?_
      ·clear hSw
       first|(go_simp;done)|(go_simp;with_reducible rfl)
      refine az ?_;refine aN 18 (.pointer (some ⟨rb,4,none⟩)) 97 hS0 (fun w' hSw=>?_) ?_
      ·clear hSw
       first|(go_simp;done)|(go_simp;with_reducible rfl)
      refine az ?_;refine aN 19 (I r0.off) 98 hS0 (fun w' hSw=>?_) ?_
      ·obtain ⟨s0,s1,s2,s3⟩:=hSw
       first|(go_simp;done)|(go_simp;with_reducible rfl)
      refine az ?_;refine kY 20 ( .agg #[I (fd0*1440+r0.minute - r1.off),I r0.off]) 99 rfl rfl hS0 (bJ rfl 108 _ rfl _ (by kernel_rfl)) ?_;refine az ?_;refine kW 4 21 (fun K hK=>?_) (fun K hK=>?_)
      ·have c8:V.cell? ⟨w.heap.size+1,8,none⟩=some (.slice A n cp):=jE.out.k.cell 8;go_simp;clear c8;refine hK.out _ _ hS0 (fun _=>?_);clear hK K;refine az ?_;refine aY 21 (fun K hK=>?_);go_simp;have hS5:KF rb w.heap.size yb (yo+9) r0.minute r0.off r1.off (.slice (some ⟨yb,yo,none⟩) 2 d0) (V.alloc (.cells #[I (fd0*1440+r0.minute - r1.off),I r0.off] 108)):=⟨(Ba.out.below (ag _ _)).cell 3,(Ba.out.below (ag _ _)).cell 4,(jE.out.grow (ag _ _)).z.cell 7,(HY.out _ (jE.out.grow (ag _ _)).lo).b 4 _ rfl⟩;refine hK.out _ _ hS5 (fun _=>?_);clear hK K;refine az ?_;refine aY 22 (fun K hK=>?_);have hvl:=jE.out.k.lt;refine step_append_lies _ (by rfl) _ _ _ (by rfl) (w.heap.size+2) 108 i0 (.agg #[I 0,I 0]) 2 16 Tryz.underlying66 HI.out sU.out kD.out jr.out rfl (by omega) (.slice A n cp) n (ts.flatMap Tr.cells) (by rfl) (own_below jE.out.own (ag _ _)) ⟨V.heap.size,0,none⟩ 1 1 [I (fd0*1440+r0.minute - r1.off),I r0.off] (by rfl) rfl (dB V _ _ _ rfl) (wS ⟨fd0*1440+r0.minute - r1.off,r0.off⟩) (by omega) (by unfold maxLen;omega) (by omega) (by simp;omega) _ rfl ?_;intro gg cap w6 hown6 hgrow6 _ _;have hxk:=ae (qW.add (x:=⟨fd0*1440+r0.minute - r1.off,r0.off⟩) jE.out rfl rfl hown6 hgrow6);have DI:Hid (AV rb 110 #[I r0.month,I r0.cZ,I r0.dh,I r0.minute,I r0.off] w6):=ae ⟨(hgrow6.block _ (by have:=Ba.out.lt;simp;omega) Bd.out).trans ((Below.heap_alloc _ _ _ Ba.out.lt).trans Ba.out.var)⟩;have hk6:Hid (AV (w.heap.size+1) 205 ([I ep, .slice A0 n0 a,I lp, .slice R0 n1 r,I st, .slice C0 n2 c0,I ho, .slice (some ⟨yb,yo,none⟩) 2 d0]++ [Value.slice A n cp,I q]).toArray w6):=ae ⟨(hgrow6.block _ (by have:=jE.out.k.lt;simp;omega) (eG jE.out.own _ (by omega))).trans ((Below.heap_alloc _ _ _ jE.out.k.lt).trans jE.out.k.var)⟩;have MO:Hid (AV w.heap.size 69 #[I ep, .slice A0 n0 a,I lp, .slice R0 n1 r,I st, .slice C0 n2 c0,I ho, .slice (some ⟨yb,yo,none⟩) 2 d0] w6):=ae ⟨(hgrow6.block _ (by have:=jE.out.z.lt;simp;omega) (eG jE.out.own _ (by omega))).trans ((Below.heap_alloc _ _ _ jE.out.z.lt).trans jE.out.z.var)⟩;have MK:Hid (w6.cell? ⟨yb,yo+9,none⟩=some (I r1.off)):=ae (by
        have hb6:Below w.heap.size w w6:=di (ah jE.out.lo (ag _ _)) (aX (own_below jE.out.own (ag _ _)) (by omega)) (ah jE.out.lo (ag _ _)).size hgrow6;exact (HY.out w6 hb6).b 4 _ rfl)
       clear hown6 hgrow6;have hS6:KF rb w.heap.size yb (yo+9) r0.minute r0.off r1.off (.slice (some ⟨yb,yo,none⟩) 2 d0) w6:=⟨DI.out.cell 3,DI.out.cell 4,MO.out.cell 7,MK.out⟩;refine hK.out _ _ hS6 (fun _=>?_);clear hK K;try simp only [Act.put,List.setIfInBounds_toArray]
       refine aN 23 (.pointer (some ⟨w.heap.size+1,0,none⟩)) 102 hS6 (fun w' hSw=>?_) ?_
       ·clear hSw
        first|(go_simp;done)|(go_simp;with_reducible rfl)
       try simp only [Act.put]
       refine aN 24 (.pointer (some ⟨w.heap.size+1,8,none⟩)) 103 hS6 (fun w' hSw=>?_) ?_
       ·clear hSw
        first|(go_simp;done)|(go_simp;with_reducible rfl)
       try simp only [Act.put]
       refine aY 25 (fun K hK=>?_);have c8:=hk6.out.cell 8;have f8:=hk6.out.fZ 8;go_simp;have hS7:KF rb w.heap.size yb (yo+9) r0.minute r0.off r1.off (.slice (some ⟨yb,yo,none⟩) 2 d0) (w6.setCell ⟨w.heap.size+1,8,none⟩ (.slice (some ⟨gg,0,none⟩) (n+1) cap)):=⟨(DI.out.far Oc.out 8 _).cell 3,(DI.out.far Oc.out 8 _).cell 4,hxk.out.z.cell 7,(HY.out _ hxk.out.lo).b 4 _ rfl⟩;refine hK.out _ _ hS7 (fun _=>?_);clear hK K;refine wpAnyH_done (by kernel_rfl) ?_ _;go_wp2_with fail;go_meet;exact ⟨some ⟨gg,0,none⟩,n+1,cap,by omega,by rw [show xh=ts++ [⟨fd0*1440+r0.minute - r1.off,r0.off⟩] from HE0T.out];exact hxk.out⟩
      ·go_simp;have hS5:KF rb w.heap.size yb (yo+9) r0.minute r0.off r1.off (.slice (some ⟨yb,yo,none⟩) 2 d0) (V.alloc (.cells #[I (fd0*1440+r0.minute - r1.off),I r0.off] 108)):=⟨(Ba.out.below (ag _ _)).cell 3,(Ba.out.below (ag _ _)).cell 4,(jE.out.grow (ag _ _)).z.cell 7,(HY.out _ (jE.out.grow (ag _ _)).lo).b 4 _ rfl⟩;refine hK.out _ _ hS5 (fun _=>?_);clear hK K;refine az ?_;refine aY 4 (fun K hK=>?_);have c8:(V.alloc (.cells #[I (fd0*1440+r0.minute - r1.off),I r0.off] 108)).cell? ⟨w.heap.size+1,8,none⟩=some (.slice A n cp):=(jE.out.grow (ag _ _)).k.cell 8;go_simp;clear c8;refine hK.out _ _ hS5 (fun _=>?_);clear hK K;refine az ?_;refine aY 22 (fun K hK=>?_);have hvl:=jE.out.k.lt;refine step_append_lies _ (by rfl) _ _ _ (by rfl) (w.heap.size+2) 108 i0 (.agg #[I 0,I 0]) 2 16 Tryz.underlying66 HI.out sU.out kD.out jr.out rfl (by omega) (.slice A n cp) n (ts.flatMap Tr.cells) (by rfl) (own_below jE.out.own (ag _ _)) ⟨V.heap.size,0,none⟩ 1 1 [I (fd0*1440+r0.minute - r1.off),I r0.off] (by rfl) rfl (dB V _ _ _ rfl) (wS ⟨fd0*1440+r0.minute - r1.off,r0.off⟩) (by omega) (by unfold maxLen;omega) (by omega) (by simp;omega) _ rfl ?_;intro gg cap w6 hown6 hgrow6 _ _;have hxk:=ae (qW.add (x:=⟨fd0*1440+r0.minute - r1.off,r0.off⟩) jE.out rfl rfl hown6 hgrow6);have DI:Hid (AV rb 110 #[I r0.month,I r0.cZ,I r0.dh,I r0.minute,I r0.off] w6):=ae ⟨(hgrow6.block _ (by have:=Ba.out.lt;simp;omega) Bd.out).trans ((Below.heap_alloc _ _ _ Ba.out.lt).trans Ba.out.var)⟩;have hk6:Hid (AV (w.heap.size+1) 205 ([I ep, .slice A0 n0 a,I lp, .slice R0 n1 r,I st, .slice C0 n2 c0,I ho, .slice (some ⟨yb,yo,none⟩) 2 d0]++ [Value.slice A n cp,I q]).toArray w6):=ae ⟨(hgrow6.block _ (by have:=jE.out.k.lt;simp;omega) (eG jE.out.own _ (by omega))).trans ((Below.heap_alloc _ _ _ jE.out.k.lt).trans jE.out.k.var)⟩;have MO:Hid (AV w.heap.size 69 #[I ep, .slice A0 n0 a,I lp, .slice R0 n1 r,I st, .slice C0 n2 c0,I ho, .slice (some ⟨yb,yo,none⟩) 2 d0] w6):=ae ⟨(hgrow6.block _ (by have:=jE.out.z.lt;simp;omega) (eG jE.out.own _ (by omega))).trans ((Below.heap_alloc _ _ _ jE.out.z.lt).trans jE.out.z.var)⟩;have MK:Hid (w6.cell? ⟨yb,yo+9,none⟩=some (I r1.off)):=ae (by
        have hb6:Below w.heap.size w w6:=di (ah jE.out.lo (ag _ _)) (aX (own_below jE.out.own (ag _ _)) (by omega)) (ah jE.out.lo (ag _ _)).size hgrow6;exact (HY.out w6 hb6).b 4 _ rfl)
       clear hown6 hgrow6;have hS6:KF rb w.heap.size yb (yo+9) r0.minute r0.off r1.off (.slice (some ⟨yb,yo,none⟩) 2 d0) w6:=⟨DI.out.cell 3,DI.out.cell 4,MO.out.cell 7,MK.out⟩;refine hK.out _ _ hS6 (fun _=>?_);clear hK K;try simp only [Act.put,List.setIfInBounds_toArray]
       refine aN 23 (.pointer (some ⟨w.heap.size+1,0,none⟩)) 102 hS6 (fun w' hSw=>?_) ?_
       ·clear hSw
        first|(go_simp;done)|(go_simp;with_reducible rfl)
       try simp only [Act.put]
       refine aN 24 (.pointer (some ⟨w.heap.size+1,8,none⟩)) 103 hS6 (fun w' hSw=>?_) ?_
       ·clear hSw
        first|(go_simp;done)|(go_simp;with_reducible rfl)
       try simp only [Act.put]
       refine aY 25 (fun K hK=>?_);have c8:=hk6.out.cell 8;have f8:=hk6.out.fZ 8;go_simp;have hS7:KF rb w.heap.size yb (yo+9) r0.minute r0.off r1.off (.slice (some ⟨yb,yo,none⟩) 2 d0) (w6.setCell ⟨w.heap.size+1,8,none⟩ (.slice (some ⟨gg,0,none⟩) (n+1) cap)):=⟨(DI.out.far Oc.out 8 _).cell 3,(DI.out.far Oc.out 8 _).cell 4,hxk.out.z.cell 7,(HY.out _ hxk.out.lo).b 4 _ rfl⟩;refine hK.out _ _ hS7 (fun _=>?_);clear hK K;refine wpAnyH_done (by kernel_rfl) ?_ _;go_wp2_with fail;go_meet;exact ⟨some ⟨gg,0,none⟩,n+1,cap,by omega,by rw [show xh=ts++ [⟨fd0*1440+r0.minute - r1.off,r0.off⟩] from HE0T.out];exact hxk.out⟩
    case rest=>
     obtain ⟨A',n',cp',hnn,hk1⟩:=hcut;have jP:=ae hk1;have hnb:n'<=8000000:=by omega
     have hnc:(n':Int)<=2*(yy - 1)+1:=by omega
     clear hk1 hnn vP;clear HYD0 HFD0 Kw WT;obtain ⟨A,rfl⟩:∃A,A=A':=⟨_,rfl⟩;obtain ⟨n,rfl⟩:∃n,n=n':=⟨_,rfl⟩;obtain ⟨cp,rfl⟩:∃c,c=cp':=⟨_,rfl⟩;clear v0 v1 v2 v3 v7 dE zI zJ zK zL zM zZ Aa Ac y13 Ad;have v0:wc.cell? ⟨w.heap.size,0,none⟩=some (I ep):=jP.out.z.cell 0;have v1:wc.cell? ⟨w.heap.size,1,none⟩=some (.slice A0 n0 a):=jP.out.z.cell 1;have v2:wc.cell? ⟨w.heap.size,2,none⟩=some (I lp):=jP.out.z.cell 2;have v3:wc.cell? ⟨w.heap.size,3,none⟩=some (.slice R0 n1 r):=jP.out.z.cell 3;have v7:wc.cell? ⟨w.heap.size,7,none⟩=some (.slice (some ⟨yb,yo,none⟩) 2 d0):=jP.out.z.cell 7;have dE:=ae (HY.out wc jP.out.lo);have zI:wc.cell? ⟨yb,yo,none⟩=some (I r0.month):=dE.out.a 0 _ rfl;have zJ:wc.cell? ⟨yb,yo+1,none⟩=some (I r0.cZ):=dE.out.a 1 _ rfl;have zK:wc.cell? ⟨yb,yo+2,none⟩=some (I r0.dh):=dE.out.a 2 _ rfl;have zL:wc.cell? ⟨yb,yo+3,none⟩=some (I r0.minute):=dE.out.a 3 _ rfl;have zM:wc.cell? ⟨yb,yo+4,none⟩=some (I r0.off):=dE.out.a 4 _ rfl;have zZ:wc.cell? ⟨yb,yo+5,none⟩=some (I r1.month):=dE.out.b 0 _ rfl;have Aa:wc.cell? ⟨yb,yo+6,none⟩=some (I r1.cZ):=dE.out.b 1 _ rfl;have Ac:wc.cell? ⟨yb,yo+7,none⟩=some (I r1.dh):=dE.out.b 2 _ rfl;have y13:wc.cell? ⟨yb,yo+8,none⟩=some (I r1.minute):=dE.out.b 3 _ rfl;have Ad:wc.cell? ⟨yb,yo+9,none⟩=some (I r1.off):=dE.out.b 4 _ rfl;go_wp2_with fail;rw [rounds_succ];go_upto_block 3 with fail;obtain ⟨CV,Gs⟩:∃t,pM cal bg yy r1 r0 xh=t:=⟨_,rfl⟩;have lL:=fun (W:World) hb=>Xf.out bg yy r1 W PT.out (by omega) (by omega) hb;have X3:=V9.out bg yy r1 PT.out;obtain ⟨pr1,BR⟩:∃pr,Q8 cal bg yy r1=pr:=⟨_,rfl⟩;rw [BR] at lL X3;have hps1:=Gs;unfold pM at hps1;rw [BR] at hps1;obtain ⟨fd1,Wi⟩:=pr1;simp only at lL X3 hps1;have HYD1:=ae lL;have HFD1:Hid (Wi=true->bg - 10<=fd1/\fd1<=bg+800):=ae (fun _=>X3);have FH:Hid (Wi=true->CV=xh++ [⟨fd1*1440+r1.minute - r0.off,r1.off⟩]):=ae (fun h=>by rw [<-hps1,if_pos h]);have WU:Hid (Wi=false->CV=xh):=ae (fun h=>by rw [<-hps1,if_neg (by rw [h];decide)]);have HTS1:=ae Gs;clear Gs lL X3 BR hps1
     go_cut [10] (fun _ wx=>∃(A':Option Addr) (n' cp':Nat),n'<=n+1/\qW w [I ep, .slice A0 n0 a,I lp, .slice R0 n1 r,I st, .slice C0 n2 c0,I ho, .slice (some ⟨yb,yo,none⟩) 2 d0] q A' n' cp' CV wx)
     case first=>
      go_upto_region 15 with (first
       |((with_reducible refine aZ 110 ?_);refine aG rfl 110 rfl #[I 0,I 0,I 0,I 0,I 0] (by kernel_rfl) ?_)
       |((with_reducible refine bY 110 ?_);go_must (refine wpList_store_row rfl _ _ _ rfl wc.heap.size #[I r1.month,I r1.cZ,I r1.dh,I r1.minute,I r1.off] rfl rfl 110 #[I 0,I 0,I 0,I 0,I 0] (heap_alloc_last wc _) (by kernel_rfl) rfl (by simp [Value.oneCell']) ?_)))
      have hb2:Below wc.heap.size wc ((wc.alloc (.cells #[I 0,I 0,I 0,I 0,I 0] 110)).setRow wc.heap.size #[I r1.month,I r1.cZ,I r1.dh,I r1.minute,I r1.off]):=aB (ag wc _) (Nat.le_refl _) _;have HR2:=ae (AV.qy (AV.new wc #[I 0,I 0,I 0,I 0,I 0] 110) #[I r1.month,I r1.cZ,I r1.dh,I r1.minute,I r1.off]);have Bd:Hid (some wc.heap.size≠(Value.slice A n cp).ownBlock):=ae (uw (fun g hg=>(World.ownsRow.lt jP.out.own g hg).2));have Oc:Hid (wc.heap.size≠w.heap.size+1):=ae (by have:=jP.out.k.lt;omega);have jA:=ae (jP.out.grow hb2);clear hb2 jP;clear v0 v1 v2 v3 v7;clear dE zI zJ zK zL zM zZ Aa Ac y13 Ad;generalize (wc.alloc (.cells #[I 0,I 0,I 0,I 0,I 0] 110)).setRow wc.heap.size #[I r1.month,I r1.cZ,I r1.dh,I r1.minute,I r1.off]=W2 at jA HR2 ⊢;generalize wc.heap.size=rb at HR2 Bd Oc ⊢;have v0:W2.cell? ⟨w.heap.size,0,none⟩=some (I ep):=jA.out.z.cell 0;have v1:W2.cell? ⟨w.heap.size,1,none⟩=some (.slice A0 n0 a):=jA.out.z.cell 1;have v2:W2.cell? ⟨w.heap.size,2,none⟩=some (I lp):=jA.out.z.cell 2;have v3:W2.cell? ⟨w.heap.size,3,none⟩=some (.slice R0 n1 r):=jA.out.z.cell 3;have v7:W2.cell? ⟨w.heap.size,7,none⟩=some (.slice (some ⟨yb,yo,none⟩) 2 d0):=jA.out.z.cell 7;clear v7;have u0:W2.cell? ⟨rb,0,none⟩=some (I r1.month):=HR2.out.cell 0;have u1:W2.cell? ⟨rb,1,none⟩=some (I r1.cZ):=HR2.out.cell 1;have u2:W2.cell? ⟨rb,2,none⟩=some (I r1.dh):=HR2.out.cell 2;have u3:W2.cell? ⟨rb,3,none⟩=some (I r1.minute):=HR2.out.cell 3;have u4:W2.cell? ⟨rb,4,none⟩=some (I r1.off):=HR2.out.cell 4;go_wp2_with fail;refine (HYD1.out W2 jA.out.lo).mono ?_;rintro e w3 ⟨rfl,hb3⟩;have nC:=ae (jA.out.grow hb3);have HR3:=ae (HR2.out.below hb3);clear hb3 jA HR2 v0 v1 v2 v3 u0 u1 u2 u3 u4;cases Wi with
      |false=>
       have HEF:=ae (WU.out rfl);clear WU FH;go_wp2_with fail;go_meet;exact ⟨A,n,cp,by omega,by rw [HEF.out];exact nC.out⟩
      |true=>
       have HE1T:=ae (FH.out rfl);clear FH WU;have hfd:=HFD1.out rfl;go_upto_region 17 with fail;have hS0:KF rb w.heap.size yb (yo+4) r1.minute r1.off r0.off (.slice (some ⟨yb,yo,none⟩) 2 d0) w3.drew:=⟨HR3.out.drew.cell 3,HR3.out.drew.cell 4,nC.out.drew.z.cell 7,(HY.out _ nC.out.drew.lo).a 4 _ rfl⟩;have HKB1:=ae nC.out.drew;have Bc:=ae HR3.out.drew;clear nC HR3;refine wp_region_held_drew (S:=KF rb w.heap.size yb (yo+4) r1.minute r1.off r0.off (.slice (some ⟨yb,yo,none⟩) 2 d0)) (by kernel_rfl) hS0 (fun _=>?_);generalize w3.drew=V at hS0 HKB1 Bc ⊢;have wk0:IntKind.i64.wrap 0=0:=by rw [IntKind.wrap_i64];omega
       have w1:IntKind.i64.wrap (fd1*1440)=fd1*1440:=by rw [IntKind.wrap_i64];omega
       have w2:IntKind.i64.wrap (fd1*1440+r1.minute)=fd1*1440+r1.minute:=by rw [IntKind.wrap_i64];omega
       have w3:IntKind.i64.wrap (fd1*1440+r1.minute - r0.off)=fd1*1440+r1.minute - r0.off:=by rw [IntKind.wrap_i64];omega
       refine aN 0 (.pointer (some ⟨w.heap.size+1,0,none⟩)) 79 hS0 (fun w' hSw=>?_) ?_
       ·clear hSw
        first|(go_simp;done)|(go_simp;with_reducible rfl)
       refine az ?_;refine aN 1 (.pointer (some ⟨w.heap.size+1,0,none⟩)) 80 hS0 (fun w' hSw=>?_) ?_
       ·clear hSw
        first|(go_simp;done)|(go_simp;with_reducible rfl)
       refine az ?_;refine aN 2 (.pointer (some ⟨w.heap.size+1,0,none⟩)) 81 hS0 (fun w' hSw=>?_) ?_
       ·clear hSw
        first|(go_simp;done)|(go_simp;with_reducible rfl)
       refine az ?_;refine aN 3 (.pointer (some ⟨w.heap.size+1,8,none⟩)) 82 hS0 (fun w' hSw=>?_) ?_
       ·clear hSw
        first|(go_simp;done)|(go_simp;with_reducible rfl)
       refine az ?_;refine aN 5 (I fd1) 84 hS0 (fun w' hSw=>?_) ?_
       ·clear hSw
        first|(go_simp;done)|(go_simp;with_reducible rfl)
       refine az ?_;refine aN 6 (I (fd1*1440)) 85 hS0 (fun w' hSw=>?_) ?_
       ·clear hSw
        first|(go_simp;done)|(go_simp;with_reducible rfl)
       refine az ?_;refine aN 7 (.pointer (some ⟨rb,3,none⟩)) 86 hS0 (fun w' hSw=>?_) ?_
       ·clear hSw
        first|(go_simp;done)|(go_simp;with_reducible rfl)
       refine az ?_;refine aN 8 (I r1.minute) 87 hS0 (fun w' hSw=>?_) ?_
       ·obtain ⟨s0,s1,s2,s3⟩:=hSw
        first|(go_simp;done)|(go_simp;with_reducible rfl)
       refine az ?_;refine aN 9 (I (fd1*1440+r1.minute)) 88 hS0 (fun w' hSw=>?_) ?_
       ·clear hSw
        first|(go_simp;done)|(go_simp;with_reducible rfl)
       refine az ?_;refine aN 10 (.pointer (some ⟨w.heap.size,7,none⟩)) 89 hS0 (fun w' hSw=>?_) ?_
       ·clear hSw
        first|(go_simp;done)|(go_simp;with_reducible rfl)
       refine az ?_;refine aN 11 (.slice (some ⟨yb,yo,none⟩) 2 d0) 90 hS0 (fun w' hSw=>?_) ?_
       ·obtain ⟨s0,s1,s2,s3⟩:=hSw
        first|(go_simp;done)|(go_simp;with_reducible rfl)
       refine az ?_;refine aN 12 (I 1) 91 hS0 (fun w' hSw=>?_) ?_
       ·clear hSw
        first|(go_simp;done)|(go_simp;with_reducible rfl)
       refine az ?_;refine aN 13 (I 0) 92 hS0 (fun w' hSw=>?_) ?_
       ·clear hSw
        first|(go_simp;done)|(go_simp;with_reducible rfl)
       refine az ?_;refine aN 14 (.pointer (some ⟨yb,yo,none⟩)) 93 hS0 (fun w' hSw=>?_) ?_
       ·clear hSw
        first|(go_simp;done)|(go_simp;with_reducible rfl)
       refine az ?_;refine aN 15 (.pointer (some ⟨yb,yo+4,none⟩)) 94 hS0 (fun w' hSw=>?_) ?_
       ·clear hSw
        first|(go_simp;done)|(go_simp;with_reducible rfl)
       refine az ?_;refine aN 16 (I r0.off) 95 hS0 (fun w' hSw=>?_) ?_
       ·obtain ⟨s0,s1,s2,s3⟩:=hSw
        first|(go_simp;done)|(go_simp;with_reducible rfl)
       refine az ?_;refine aN 17 (I (fd1*1440+r1.minute - r0.off)) 96 hS0 (fun w' hSw=>?_) ?_
       ·clear hSw
        first|(go_simp;done)|(go_simp;with_reducible rfl)
       refine az ?_;refine aN 18 (.pointer (some ⟨rb,4,none⟩)) 97 hS0 (fun w' hSw=>?_) ?_
       ·clear hSw
        first|(go_simp;done)|(go_simp;with_reducible rfl)
       refine az ?_;refine aN 19 (I r1.off) 98 hS0 (fun w' hSw=>?_) ?_
       ·obtain ⟨s0,s1,s2,s3⟩:=hSw
        first|(go_simp;done)|(go_simp;with_reducible rfl)
       refine az ?_;refine kY 20 ( .agg #[I (fd1*1440+r1.minute - r0.off),I r1.off]) 99 rfl rfl hS0 (bJ rfl 108 _ rfl _ (by kernel_rfl)) ?_;refine az ?_;refine kW 4 21 (fun K hK=>?_) (fun K hK=>?_)
       ·have c8:V.cell? ⟨w.heap.size+1,8,none⟩=some (.slice A n cp):=HKB1.out.k.cell 8;go_simp;clear c8;refine hK.out _ _ hS0 (fun _=>?_);clear hK K;refine az ?_;refine aY 21 (fun K hK=>?_);go_simp;have hS5:KF rb w.heap.size yb (yo+4) r1.minute r1.off r0.off (.slice (some ⟨yb,yo,none⟩) 2 d0) (V.alloc (.cells #[I (fd1*1440+r1.minute - r0.off),I r1.off] 108)):=⟨(Bc.out.below (ag _ _)).cell 3,(Bc.out.below (ag _ _)).cell 4,(HKB1.out.grow (ag _ _)).z.cell 7,(HY.out _ (HKB1.out.grow (ag _ _)).lo).a 4 _ rfl⟩;refine hK.out _ _ hS5 (fun _=>?_);clear hK K;refine az ?_;refine aY 22 (fun K hK=>?_);have hvl:=HKB1.out.k.lt;refine step_append_lies _ (by rfl) _ _ _ (by rfl) (w.heap.size+2) 108 i0 (.agg #[I 0,I 0]) 2 16 Tryz.underlying66 HI.out sU.out kD.out jr.out rfl (by omega) (.slice A n cp) n (xh.flatMap Tr.cells) (by rfl) (own_below HKB1.out.own (ag _ _)) ⟨V.heap.size,0,none⟩ 1 1 [I (fd1*1440+r1.minute - r0.off),I r1.off] (by rfl) rfl (dB V _ _ _ rfl) (wS ⟨fd1*1440+r1.minute - r0.off,r1.off⟩) (by omega) (by unfold maxLen;omega) (by omega) (by simp;omega) _ rfl ?_;intro gg cap w6 hown6 hgrow6 _ _;have hxk:=ae (qW.add (x:=⟨fd1*1440+r1.minute - r0.off,r1.off⟩) HKB1.out rfl rfl hown6 hgrow6);have DI:Hid (AV rb 110 #[I r1.month,I r1.cZ,I r1.dh,I r1.minute,I r1.off] w6):=ae ⟨(hgrow6.block _ (by have:=Bc.out.lt;simp;omega) Bd.out).trans ((Below.heap_alloc _ _ _ Bc.out.lt).trans Bc.out.var)⟩;have hk6:Hid (AV (w.heap.size+1) 205 ([I ep, .slice A0 n0 a,I lp, .slice R0 n1 r,I st, .slice C0 n2 c0,I ho, .slice (some ⟨yb,yo,none⟩) 2 d0]++ [Value.slice A n cp,I q]).toArray w6):=ae ⟨(hgrow6.block _ (by have:=HKB1.out.k.lt;simp;omega) (eG HKB1.out.own _ (by omega))).trans ((Below.heap_alloc _ _ _ HKB1.out.k.lt).trans HKB1.out.k.var)⟩;have MO:Hid (AV w.heap.size 69 #[I ep, .slice A0 n0 a,I lp, .slice R0 n1 r,I st, .slice C0 n2 c0,I ho, .slice (some ⟨yb,yo,none⟩) 2 d0] w6):=ae ⟨(hgrow6.block _ (by have:=HKB1.out.z.lt;simp;omega) (eG HKB1.out.own _ (by omega))).trans ((Below.heap_alloc _ _ _ HKB1.out.z.lt).trans HKB1.out.z.var)⟩;have MK:Hid (w6.cell? ⟨yb,yo+4,none⟩=some (I r0.off)):=ae (by
         have hb6:Below w.heap.size w w6:=di (ah HKB1.out.lo (ag _ _)) (aX (own_below HKB1.out.own (ag _ _)) (by omega)) (ah HKB1.out.lo (ag _ _)).size hgrow6;exact (HY.out w6 hb6).a 4 _ rfl)
        clear hown6 hgrow6;have hS6:KF rb w.heap.size yb (yo+4) r1.minute r1.off r0.off (.slice (some ⟨yb,yo,none⟩) 2 d0) w6:=⟨DI.out.cell 3,DI.out.cell 4,MO.out.cell 7,MK.out⟩;refine hK.out _ _ hS6 (fun _=>?_);clear hK K;try simp only [Act.put,List.setIfInBounds_toArray]
        refine aN 23 (.pointer (some ⟨w.heap.size+1,0,none⟩)) 102 hS6 (fun w' hSw=>?_) ?_
        ·clear hSw
         first|(go_simp;done)|(go_simp;with_reducible rfl)
        try simp only [Act.put]
        refine aN 24 (.pointer (some ⟨w.heap.size+1,8,none⟩)) 103 hS6 (fun w' hSw=>?_) ?_
        ·clear hSw
         first|(go_simp;done)|(go_simp;with_reducible rfl)
        try simp only [Act.put]
        refine aY 25 (fun K hK=>?_);have c8:=hk6.out.cell 8;have f8:=hk6.out.fZ 8;go_simp;have hS7:KF rb w.heap.size yb (yo+4) r1.minute r1.off r0.off (.slice (some ⟨yb,yo,none⟩) 2 d0) (w6.setCell ⟨w.heap.size+1,8,none⟩ (.slice (some ⟨gg,0,none⟩) (n+1) cap)):=⟨(DI.out.far Oc.out 8 _).cell 3,(DI.out.far Oc.out 8 _).cell 4,hxk.out.z.cell 7,(HY.out _ hxk.out.lo).a 4 _ rfl⟩;refine hK.out _ _ hS7 (fun _=>?_);clear hK K;refine wpAnyH_done (by kernel_rfl) ?_ _;go_wp2_with fail;go_meet;exact ⟨some ⟨gg,0,none⟩,n+1,cap,by omega,by rw [show CV=xh++ [⟨fd1*1440+r1.minute - r0.off,r1.off⟩] from HE1T.out];exact hxk.out⟩
       ·go_simp;have hS5:KF rb w.heap.size yb (yo+4) r1.minute r1.off r0.off (.slice (some ⟨yb,yo,none⟩) 2 d0) (V.alloc (.cells #[I (fd1*1440+r1.minute - r0.off),I r1.off] 108)):=⟨(Bc.out.below (ag _ _)).cell 3,(Bc.out.below (ag _ _)).cell 4,(HKB1.out.grow (ag _ _)).z.cell 7,(HY.out _ (HKB1.out.grow (ag _ _)).lo).a 4 _ rfl⟩;refine hK.out _ _ hS5 (fun _=>?_);clear hK K;refine az ?_;refine aY 4 (fun K hK=>?_);have c8:(V.alloc (.cells #[I (fd1*1440+r1.minute - r0.off),I r1.off] 108)).cell? ⟨w.heap.size+1,8,none⟩=some (.slice A n cp):=(HKB1.out.grow (ag _ _)).k.cell 8;go_simp;clear c8;refine hK.out _ _ hS5 (fun _=>?_);clear hK K;refine az ?_;refine aY 22 (fun K hK=>?_);have hvl:=HKB1.out.k.lt;refine step_append_lies _ (by rfl) _ _ _ (by rfl) (w.heap.size+2) 108 i0 (.agg #[I 0,I 0]) 2 16 Tryz.underlying66 HI.out sU.out kD.out jr.out rfl (by omega) (.slice A n cp) n (xh.flatMap Tr.cells) (by rfl) (own_below HKB1.out.own (ag _ _)) ⟨V.heap.size,0,none⟩ 1 1 [I (fd1*1440+r1.minute - r0.off),I r1.off] (by rfl) rfl (dB V _ _ _ rfl) (wS ⟨fd1*1440+r1.minute - r0.off,r1.off⟩) (by omega) (by unfold maxLen;omega) (by omega) (by simp;omega) _ rfl ?_;intro gg cap w6 hown6 hgrow6 _ _;have hxk:=ae (qW.add (x:=⟨fd1*1440+r1.minute - r0.off,r1.off⟩) HKB1.out rfl rfl hown6 hgrow6);have DI:Hid (AV rb 110 #[I r1.month,I r1.cZ,I r1.dh,I r1.minute,I r1.off] w6):=ae ⟨(hgrow6.block _ (by have:=Bc.out.lt;simp;omega) Bd.out).trans ((Below.heap_alloc _ _ _ Bc.out.lt).trans Bc.out.var)⟩;have hk6:Hid (AV (w.heap.size+1) 205 ([I ep, .slice A0 n0 a,I lp, .slice R0 n1 r,I st, .slice C0 n2 c0,I ho, .slice (some ⟨yb,yo,none⟩) 2 d0]++ [Value.slice A n cp,I q]).toArray w6):=ae ⟨(hgrow6.block _ (by have:=HKB1.out.k.lt;simp;omega) (eG HKB1.out.own _ (by omega))).trans ((Below.heap_alloc _ _ _ HKB1.out.k.lt).trans HKB1.out.k.var)⟩;have MO:Hid (AV w.heap.size 69 #[I ep, .slice A0 n0 a,I lp, .slice R0 n1 r,I st, .slice C0 n2 c0,I ho, .slice (some ⟨yb,yo,none⟩) 2 d0] w6):=ae ⟨(hgrow6.block _ (by have:=HKB1.out.z.lt;simp;omega) (eG HKB1.out.own _ (by omega))).trans ((Below.heap_alloc _ _ _ HKB1.out.z.lt).trans HKB1.out.z.var)⟩;have MK:Hid (w6.cell? ⟨yb,yo+4,none⟩=some (I r0.off)):=ae (by
         have hb6:Below w.heap.size w w6:=di (ah HKB1.out.lo (ag _ _)) (aX (own_below HKB1.out.own (ag _ _)) (by omega)) (ah HKB1.out.lo (ag _ _)).size hgrow6;exact (HY.out w6 hb6).a 4 _ rfl)
        clear hown6 hgrow6;have hS6:KF rb w.heap.size yb (yo+4) r1.minute r1.off r0.off (.slice (some ⟨yb,yo,none⟩) 2 d0) w6:=⟨DI.out.cell 3,DI.out.cell 4,MO.out.cell 7,MK.out⟩;refine hK.out _ _ hS6 (fun _=>?_);clear hK K;try simp only [Act.put,List.setIfInBounds_toArray]
        refine aN 23 (.pointer (some ⟨w.heap.size+1,0,none⟩)) 102 hS6 (fun w' hSw=>?_) ?_
        ·clear hSw
         first|(go_simp;done)|(go_simp;with_reducible rfl)
        try simp only [Act.put]
        refine aN 24 (.pointer (some ⟨w.heap.size+1,8,none⟩)) 103 hS6 (fun w' hSw=>?_) ?_
        ·clear hSw
         first|(go_simp;done)|(go_simp;with_reducible rfl)
        try simp only [Act.put]
        refine aY 25 (fun K hK=>?_);have c8:=hk6.out.cell 8;have f8:=hk6.out.fZ 8;go_simp;have hS7:KF rb w.heap.size yb (yo+4) r1.minute r1.off r0.off (.slice (some ⟨yb,yo,none⟩) 2 d0) (w6.setCell ⟨w.heap.size+1,8,none⟩ (.slice (some ⟨gg,0,none⟩) (n+1) cap)):=⟨(DI.out.far Oc.out 8 _).cell 3,(DI.out.far Oc.out 8 _).cell 4,hxk.out.z.cell 7,(HY.out _ hxk.out.lo).a 4 _ rfl⟩;refine hK.out _ _ hS7 (fun _=>?_);clear hK K;refine wpAnyH_done (by kernel_rfl) ?_ _;go_wp2_with fail;go_meet;exact ⟨some ⟨gg,0,none⟩,n+1,cap,by omega,by rw [show CV=xh++ [⟨fd1*1440+r1.minute - r0.off,r1.off⟩] from HE1T.out];exact hxk.out⟩
     case rest=>
      obtain ⟨A',n',cp',hnn,hk2⟩:=hcut;have jA:=ae hk2;have hnd:(n':Int)<=2*yy:=by omega
      clear hk2 hnn jP HYD1 HFD1 FH WU v0 v1 v2 v3 v7 dE zI zJ zK zL zM zZ Aa Ac y13 Ad;have v0:wc.cell? ⟨w.heap.size,0,none⟩=some (I ep):=jA.out.z.cell 0;have v1:wc.cell? ⟨w.heap.size,1,none⟩=some (.slice A0 n0 a):=jA.out.z.cell 1;have v2:wc.cell? ⟨w.heap.size,2,none⟩=some (I lp):=jA.out.z.cell 2;have v3:wc.cell? ⟨w.heap.size,3,none⟩=some (.slice R0 n1 r):=jA.out.z.cell 3;have v7:wc.cell? ⟨w.heap.size,7,none⟩=some (.slice (some ⟨yb,yo,none⟩) 2 d0):=jA.out.z.cell 7;go_wp2_with fail;rw [rounds_succ];have hbd2:=HYRB.out yy;have hge:=hbd2.1;have DU:Hid (oG CV):=ae (by rw [<-HTS1.out,<-HTS0.out];exact HPB.out bg yy r1 r0 _ PT.out PS.out hb0 (by omega) (HPB.out bg yy r0 r1 ts PS.out PT.out hb0 (by omega) IA.out));obtain ⟨f',hf1,hf2⟩:=UM HF.out hlt Zw.out hge;rw [HTS0.out,HTS1.out] at hf2;obtain ⟨yl,hyl⟩:∃v,uY cal yy=v:=⟨_,rfl⟩;have hcy:=qo.out yy wc jA.out.lo;rw [hyl] at hf1 hf2 hcy hge hbd2;have WW:=ae hf1;have HF2:=ae hf2;have iM:=ae hcy;clear hcy hyl hf1 hf2;go_wp2_with fail;refine iM.out.mono ?_;rintro e w9 ⟨rfl,DF⟩;have HK9:=ae (jA.out.grow DF);clear DF jA v0 v1 v2 v3 v7;go_wp2_with fail;go_roundw
      case rel=>exact ⟨f',bg+yl,yy+1,A',n',cp',CV,by go_num,by go_num,by omega,by omega,by omega,by omega,by omega,WW.out,HF2.out,DU.out,HK9.out⟩
      case measure=>simp [intOf];omega
   ·have hre:=QA HF.out hlt;subst hre;clear HF Zw;go_wp2_with fail;go_quiet (fail);obtain ⟨W7,TP⟩:∃W,wr.drewN nq=W:=⟨_,rfl⟩;rw [TP];have vP:Hid (qW w [I ep, .slice A0 n0 a,I lp, .slice R0 n1 r,I st, .slice C0 n2 c0,I ho, .slice (some ⟨yb,yo,none⟩) 2 d0] q A n cp ts W7):=ae (by rw [<-TP];exact HW.out.drewN nq);clear TP v0 c9 HW;have c8:W7.cell? ⟨w.heap.size+1,8,none⟩=some (.slice A n cp):=vP.out.k.cell 8;have HSRT:=ae (JF vP.out.own vP.out.len (by omega));go_wp2_with fail;refine HSRT.out.mono ?_;rintro e w8 ⟨rfl,us,hp,hs,ho,hg⟩;have HGS:Hid (eH us (q*1440)=eH ys (q*1440)):=ae (ES (hp.trans PQ.out.symm) hs ZE.out);have wF:Hid (eH ys (q*1440)=true->us=ys):=ae (fun h=>uT h (hp.trans PQ.out.symm) hs);have hul:us.length=n:=by rw [hp.length_eq];exact vP.out.len
    have Zz:=ae (vP.out.sorted hul ho hg);have HUB:Hid (oG us):=ae (IA.out.perm hp);clear hp hs ho hg HSRT vP c8 PQ ZE IA;have c8:w8.cell? ⟨w.heap.size+1,8,none⟩=some (.slice A n cp):=Zz.out.k.cell 8;go_wp2_with fail;clear c8
    go_loopw [121] (fun i wr=>∃k:Nat,k<=n/\i=I (k:Nat)/\(∀j,j<k->2160<=lq us (q*1440) j)/\qW w [I ep, .slice A0 n0 a,I lp, .slice R0 n1 r,I st, .slice C0 n2 c0,I ho, .slice (some ⟨yb,yo,none⟩) 2 d0] q A n cp us wr) (fun i _=>n - (intOf i).toNat)
    case atStart=>exact ⟨0,Nat.zero_le _,rfl,(fun j hj=>by omega),Zz.out⟩
    case round=>
     clear Zz;obtain ⟨k,hkn,rfl,hgj,hks⟩:=hrel;have HGJ:=ae hgj;have HX:=ae hks;clear hks hgj;by_cases hlt2:k<n
     ·have i1:(k:Int)<(n:Int):=by omega
      have i0':(0:Int)<=(k:Int):=by omega
      obtain ⟨gp,hga⟩:∃v,lq us (q*1440) k=v:=⟨_,rfl⟩;have HGK:=ae hga;unfold lq at hga;rw [hul] at hga;have a0:=nG 0 HUB.out;have ak:=nG k HUB.out;have ak1:=nG (k+1) HUB.out;obtain ⟨g,hAg⟩:∃g,A=some ⟨g,0,none⟩:=by
       rcases HX.out.own.2 with ⟨_,hz⟩|⟨g,cap,cur,hv,_⟩
       ·omega
       ·injection hv with h1 _ _;exact ⟨g,h1⟩
      subst hAg;have HAT:=ae (fun (W:World) (h:qW w [I ep, .slice A0 n0 a,I lp, .slice R0 n1 r,I st, .slice C0 n2 c0,I ho, .slice (some ⟨yb,yo,none⟩) 2 d0] q (some ⟨g,0,none⟩) n cp us W) (j:Nat) (hj:j<n)=>rX h.own h.len j hj);have HOF:=ae (uV HX.out.own HX.out.len k hlt2);obtain ⟨t0,ht0⟩:∃t,gU us 0=t:=⟨_,rfl⟩;obtain ⟨tk,htk⟩:∃t,gU us k=t:=⟨_,rfl⟩;obtain ⟨tl,htl⟩:∃t,gU us (k+1)=t:=⟨_,rfl⟩;obtain ⟨ok,hok⟩:∃t,jI us k=t:=⟨_,rfl⟩;have yV:Hid (∀W,qW w [I ep, .slice A0 n0 a,I lp, .slice R0 n1 r,I st, .slice C0 n2 c0,I ho, .slice (some ⟨yb,yo,none⟩) 2 d0] q (some ⟨g,0,none⟩) n cp us W->W.cell? ⟨g,0,none⟩=some (I t0)):=ae (fun W h=>by have:=HAT.out W h 0 (by omega);rw [ht0] at this;simpa using this);have PI:Hid (∀W,qW w [I ep, .slice A0 n0 a,I lp, .slice R0 n1 r,I st, .slice C0 n2 c0,I ho, .slice (some ⟨yb,yo,none⟩) 2 d0] q (some ⟨g,0,none⟩) n cp us W->k+1<n->W.cell? ⟨g,(k+1)*2,none⟩=some (I tl)):=ae (fun W h hj=>by have:=HAT.out W h (k+1) hj;rw [htl] at this;exact this);have e0:=HAT.out wr HX.out k hlt2;have e1:=HOF.out;rw [htk] at e0;rw [hok] at e1;rw [ht0,htk,htl] at hga;rw [ht0] at a0;rw [htk] at ak;rw [htl] at ak1;clear ht0 htk htl hok HAT HOF;go_upto_region 24 with (first
       |((with_reducible refine aZ 108 ?_);refine aG rfl 108 rfl #[I 0,I 0] (by kernel_rfl) ?_)
       |((with_reducible refine bY 108 ?_);go_must (refine wpList_store_row rfl _ _ _ rfl wr.heap.size #[I tk,I ok] rfl rfl 108 #[I 0,I 0] (heap_alloc_last wr _) (by kernel_rfl) rfl (by simp [Value.oneCell']) ?_)))
      have hbr:Below wr.heap.size wr ((wr.alloc (.cells #[I 0,I 0] 108)).setRow wr.heap.size #[I tk,I ok]):=aB (ag wr _) (Nat.le_refl _) _;have PY:=ae (AV.qy (AV.new wr #[I 0,I 0] 108) #[I tk,I ok]);have zV:=ae (HX.out.grow hbr);clear hbr HX e0 e1;generalize (wr.alloc (.cells #[I 0,I 0] 108)).setRow wr.heap.size #[I tk,I ok]=W2 at zV PY ⊢;generalize wr.heap.size=rb at PY ⊢;have c8:W2.cell? ⟨w.heap.size+1,8,none⟩=some (.slice (some ⟨g,0,none⟩) n cp):=zV.out.k.cell 8;have c9:W2.cell? ⟨w.heap.size+1,9,none⟩=some (I q):=zV.out.k.cell 9;have a00:=yV.out W2 zV.out;have hn0:0<n:=by omega
      have wq:IntKind.i64.wrap (q*1440)=q*1440:=by rw [IntKind.wrap_i64];omega
      have wt:IntKind.i64.wrap (t0+q*1440)=t0+q*1440:=by rw [IntKind.wrap_i64];omega
      go_quiet ((go_at_call 114;exact wO _ q W2 c9 (by omega) (by omega) _));obtain ⟨W3,hW3⟩:∃W,W2.drewN nq=W:=⟨_,rfl⟩;rw [hW3];have Bg:Hid (qW w [I ep, .slice A0 n0 a,I lp, .slice R0 n1 r,I st, .slice C0 n2 c0,I ho, .slice (some ⟨yb,yo,none⟩) 2 d0] q (some ⟨g,0,none⟩) n cp us W3):=ae (by rw [<-hW3];exact zV.out.drewN nq);have HR3:Hid (AV rb 108 #[I tk,I ok] W3):=ae (by rw [<-hW3];exact PY.out.below (below_drewN' _ _));clear hW3 c8 c9 a00 zV PY;have c8:W3.cell? ⟨w.heap.size+1,8,none⟩=some (.slice (some ⟨g,0,none⟩) n cp):=Bg.out.k.cell 8;have r00:W3.cell? ⟨rb,0,none⟩=some (I tk):=HR3.out.cell 0;by_cases hl:k+1<n
      ·have i2:(k:Int)+1<(n:Int):=by omega
       have al:=PI.out W3 Bg.out hl;rw [if_pos hl] at hga;clear yV PI;by_cases hgb:gp<2160
       ·have hnl:tl - tk<2160:=by omega
        have HF:Hid (eH ys (q*1440)=false):=ae (by rw [<-HGS.out];exact Ja (k:=k) (by rw [hul];exact hlt2) (by rw [HGK.out];exact hgb));clear hga;go_wp2_with fail;go_ret2;exact Or.inr ⟨HF.out,rfl,Bg.out.lo⟩
       ·have hnl:¬tl - tk<2160:=by omega
        have HN:Hid (∀j,j<k+1->2160<=lq us (q*1440) j):=ae (fun j hj=>by
         by_cases hj2:j<k
         ·exact HGJ.out j hj2
         ·rw [show j=k by omega,HGK.out];omega)
        clear hga;go_wp2_with fail;go_roundw
        case rel=>exact ⟨k+1,by omega,by go_num,HN.out,Bg.out⟩
        case measure=>simp [intOf];omega
      ·have i2:¬(k:Int)+1<(n:Int):=by omega
       rw [if_neg hl] at hga;clear yV PI;by_cases hgb:gp<2160
       ·have hnl:t0+q*1440 - tk<2160:=by omega
        have HF:Hid (eH ys (q*1440)=false):=ae (by rw [<-HGS.out];exact Ja (k:=k) (by rw [hul];exact hlt2) (by rw [HGK.out];exact hgb));clear hga;go_wp2_with fail;go_ret2;exact Or.inr ⟨HF.out,rfl,Bg.out.lo⟩
       ·have hnl:¬t0+q*1440 - tk<2160:=by omega
        have HN:Hid (∀j,j<k+1->2160<=lq us (q*1440) j):=ae (fun j hj=>by
         by_cases hj2:j<k
         ·exact HGJ.out j hj2
         ·rw [show j=k by omega,HGK.out];omega)
        clear hga;go_wp2_with fail;go_roundw
        case rel=>exact ⟨k+1,by omega,by go_num,HN.out,Bg.out⟩
        case measure=>simp [intOf];omega
     ·have i1:¬(k:Int)<(n:Int):=by omega
      have Ia:Hid (eH us (q*1440)=true):=ae (Jb hul fun j hj=>HGJ.out j (by omega));have PZ:Hid (eH ys (q*1440)=true):=ae (HGS.out.symm.trans Ia.out);go_wp2_with fail;go_ret2;exact Or.inl ⟨PZ.out,rfl,A,n,cp,by rw [<-wF.out PZ.out];exact HX.out⟩
end Go.Proofs.YtbaehbbonkljpaaGreatDoor
