/- The texts Ni, in this order. -/
import Derived.Test.YtdibbemgpikgjaaGreatDoorW00
import Derived.Test.YtdibbemgpikgjaaGreatDoorW14
import Derived.Test.YtdibbemgpikgjaaGreatDoorW27
set_option maxRecDepth 10000
set_option maxHeartbeats 8000000
namespace Go.Proofs.YtdibbemgpikgjaaGreatDoor
open Go Go.RowKit
theorem ys_bd (z:Zn) {r0 r1:Yr} (hc:gW z.cal) (hy:z.aK= [r0,r1]) (h0:yj r0) (h1:yj r1):JO (ry z):=by
 have hz:=qw z hc;unfold ry;rw [hy];exact (Jw z.cal r0 r1 z.cal.aY _ hc h0 h1 (by have:=hc.ep;omega) hc.ep.1 1400 _ _ _ (show JO [] from fun _ h=>nomatch h) (by omega) (by omega) (by omega) (by simp)).1
theorem TM (z:Zn) (s:Zs) (r0 r1:Yr) (w:World) (hc:gW z.cal) (h:jy w w.heap.size s z) (hy:z.aK= [r0,r1]) (hr0:yj r0) (hr1:yj r1) (hg:jT (ry z) (jK z*1440)=true):
  Calls Tryz.prog 86 #[.agg (ay z s)] w fun e w'=>e= .returned (.tuple #[.pointer (some ⟨w.heap.size+1,0,none⟩), .bool true])∧∃A n c,qI w (ay z s).toList (jK z) A n c (ry z) w':=by
 have qH:=ae (fun (W:World) (hb:Below w.heap.size w W)=>Ri z.cal s.A s.B s.a s.b W hc ⟨h.az.grow hb,h.rules.grow hb⟩);have U8:=ae (fun (bg y:Int) (x:Yr) (W:World) (hx:yj x) (h1:0≤bg) (h2:bg≤100000) (hb:Below w.heap.size w W)=>Jv z.cal s.A s.B s.a s.b bg y x W hc ⟨h.az.grow hb,h.rules.grow hb⟩ h1 h2 hx);have nZ:=ae (fun (y:Int) (W:World) (hb:Below w.heap.size w W)=>WW z.cal s.A s.B s.a s.b y W hc ⟨h.az.grow hb,h.rules.grow hb⟩);have hbd:=qw z hc;have hge1:=xN z hc;have hep:=hc.ep;have HC:=ae hc;have Nz:=ae (Tt hc hy hr0 hr1);have hzm:=(ys_bd z hc hy hr0 hr1);have Eb:=ae hg;obtain ⟨yb,yo,hD,hyb,GX⟩:=h.aK.there (by rw [hy];simp [Yr.cells]);have HY:Hid (∀W,Below w.heap.size w W→YC W yb yo r0 r1):=ae fun W hb=>by
  rw [hy] at GX;exact ⟨aN (aA.elem (s:=5) (f:=Yr.cells) (xs:= [r0,r1]) (fun _ _=>rfl) GX 0 r0 rfl) hb hyb,aN (aA.elem (s:=5) (f:=Yr.cells) (xs:= [r0,r1]) (fun _ _=>rfl) GX 1 r1 rfl) hb hyb⟩
 clear GX;have VV:jK z=Iw (rJ z.cal):=by unfold jK;rw [hy]
 have hcd:=FH z.cal hc;obtain ⟨dd,hdd⟩:∃d,rJ z.cal=d:=⟨_,rfl⟩;rw [hdd] at qH VV hcd;obtain ⟨res,hres⟩:∃res,Wl z r0 r1=res:=⟨_,rfl⟩;rw [hres] at Nz;unfold Wl at hres;obtain ⟨q,hq⟩:∃q,jK z=q:=⟨_,rfl⟩;rw [hq] at hbd hge1 hres Eb VV ⊢;obtain ⟨ys,hys⟩:∃ys,ry z=ys:=⟨_,rfl⟩;rw [hys] at Nz Eb hzm ⊢;have HTBY:=ae hzm;clear hzm;have jw:=ae hres;have YG:=ae hr0;have YH:=ae hr1;have hmi0:=hr0.mi;have hof0:=hr0.of;have VP:=hr1.mi;have VR:=hr1.of;clear hres hq hys hr0 hr1 hc h hdd hg;obtain ⟨cal,st,tr,ho,yr⟩:=z;obtain ⟨A0,a,R0,r,C0,c0,D0,d0⟩:=s;simp only at hy hD qH U8 nZ hep HC jw ⊢;subst hy hD;obtain ⟨ep,vg⟩:∃ep,cal.aY=ep:=⟨_,rfl⟩;rw [vg] at hep jw;obtain ⟨lp,xk⟩:∃lp,cal.dP=lp:=⟨_,rfl⟩;obtain ⟨n0,hn0⟩:∃n,cal.az.length=n:=⟨_,rfl⟩;obtain ⟨n1,hn1⟩:∃n,cal.rules.length=n:=⟨_,rfl⟩;obtain ⟨n2,hn2⟩:∃n,tr.length=n:=⟨_,rfl⟩;unfold ay aF at*;simp only [vg,xk,hn0,hn1,hn2,List.length_cons,List.length_nil,Nat.zero_add,Nat.reduceAdd] at qH U8 nZ ⊢;clear vg xk hn0 hn1 hn2;obtain ⟨i0,hi,hq0,hq1,hq2⟩:=info_parts xm;have HI:=ae hi;have zZ:=ae hq0;have qB:=ae hq1;have mV:=ae hq2;clear hi hq0 hq1 hq2;show Calls Tryz.prog _ #[.agg #[I ep, .slice A0 n0 a,I lp, .slice R0 n1 r,I st, .slice C0 n2 c0,I ho, .slice (some ⟨yb,yo,none⟩) 2 d0]] w _;show Calls Tryz.prog _ _ w (fun e w'=>e= .returned (.tuple #[.pointer (some ⟨w.heap.size+1,0,none⟩), .bool true])∧∃A n c,qI w [I ep, .slice A0 n0 a,I lp, .slice R0 n1 r,I st, .slice C0 n2 c0,I ho, .slice (some ⟨yb,yo,none⟩) 2 d0] q A n c ys w');have hone:(#[I ep, .slice A0 n0 a,I lp, .slice R0 n1 r,I st, .slice C0 n2 c0,I ho, .slice (some ⟨yb,yo,none⟩) 2 d0, .slice none 0 0,I 1]:Array Value).all (·.oneCell')=true:=by simp [Value.oneCell']
 have HV:=ae (AV.new w #[I ep, .slice A0 n0 a,I lp, .slice R0 n1 r,I st, .slice C0 n2 c0,I ho, .slice (some ⟨yb,yo,none⟩) 2 d0] 67);go_enter Tryz.func86,Tryz.ntmps86;go_wp2_with (first
  |((with_reducible refine dY 67 ?_);go_must (refine aQ rfl _ _ rfl w.heap.size rfl #[I ep, .slice A0 n0 a,I lp, .slice R0 n1 r,I st, .slice C0 n2 c0,I ho, .slice (some ⟨yb,yo,none⟩) 2 d0] HV.out.jg _ Tryz.underlying67 rfl (by kernel_rfl) ?_))
  |((with_reducible refine iL 206 ?_);refine di rfl 206 rfl #[I ep, .slice A0 n0 a,I lp, .slice R0 n1 r,I st, .slice C0 n2 c0,I ho, .slice (some ⟨yb,yo,none⟩) 2 d0, .slice none 0 0,I 1] (by kernel_rfl) ?_))
 have HK:Hid (qI w [I ep, .slice A0 n0 a,I lp, .slice R0 n1 r,I st, .slice C0 n2 c0,I ho, .slice (some ⟨yb,yo,none⟩) 2 d0] 1 none 0 0 [] ((w.alloc (.cells #[I ep, .slice A0 n0 a,I lp, .slice R0 n1 r,I st, .slice C0 n2 c0,I ho, .slice (some ⟨yb,yo,none⟩) 2 d0] 67)).alloc (.cells #[I ep, .slice A0 n0 a,I lp, .slice R0 n1 r,I st, .slice C0 n2 c0,I ho, .slice (some ⟨yb,yo,none⟩) 2 d0, .slice none 0 0,I 1] 206))):=ae ⟨ah (ag w _) (ag _ _),HV.out.below (ag _ _),by have:=AV.new (w.alloc (.cells #[I ep, .slice A0 n0 a,I lp, .slice R0 n1 r,I st, .slice C0 n2 c0,I ho, .slice (some ⟨yb,yo,none⟩) 2 d0] 67)) #[I ep, .slice A0 n0 a,I lp, .slice R0 n1 r,I st, .slice C0 n2 c0,I ho, .slice (some ⟨yb,yo,none⟩) 2 d0, .slice none 0 0,I 1] 206;rw [oU] at this;exact this,World.ownsRow_nil _ _ _ _,rfl⟩;clear HV;generalize (w.alloc (.cells #[I ep, .slice A0 n0 a,I lp, .slice R0 n1 r,I st, .slice C0 n2 c0,I ho, .slice (some ⟨yb,yo,none⟩) 2 d0] 67)).alloc (.cells #[I ep, .slice A0 n0 a,I lp, .slice R0 n1 r,I st, .slice C0 n2 c0,I ho, .slice (some ⟨yb,yo,none⟩) 2 d0, .slice none 0 0,I 1] 206)=W0 at HK ⊢;have v0:W0.cell? ⟨w.heap.size,0,none⟩=some (I ep):=HK.out.z.cell 0;have v1:W0.cell? ⟨w.heap.size,1,none⟩=some (.slice A0 n0 a):=HK.out.z.cell 1;have v2:W0.cell? ⟨w.heap.size,2,none⟩=some (I lp):=HK.out.z.cell 2;have v3:W0.cell? ⟨w.heap.size,3,none⟩=some (.slice R0 n1 r):=HK.out.z.cell 3;have v7:W0.cell? ⟨w.heap.size,7,none⟩=some (.slice (some ⟨yb,yo,none⟩) 2 d0):=HK.out.z.cell 7;go_wp2_with fail;refine (qH.out _ HK.out.lo).mono ?_;rintro e w1 ⟨rfl,hb1⟩;have iH:=ae (HK.out.grow hb1);clear hb1 HK qH v0 v1 v2 v3 v7;have c9:w1.cell? ⟨w.heap.size+1,9,none⟩=some (I 1):=iH.out.k.cell 9;have f9:w1.frozen? ⟨w.heap.size+1,9,none⟩=false:=iH.out.k.dV 9;have iR:=ae (iH.out.X9 rfl dd);have JR:Int.tmod dd 7=dd%7:=Int.tmod_eq_emod_of_nonneg hcd.1;obtain ⟨p,hp⟩:∃p,dd%7=p:=⟨_,rfl⟩;rw [hp] at JR;have HP:=ae hp;have HZQ:=ae VV;clear hp VV;go_upto_if 38 with fail
 go_cut [6] (fun d wx=>d=I dd∧qI w [I ep, .slice A0 n0 a,I lp, .slice R0 n1 r,I st, .slice C0 n2 c0,I ho, .slice (some ⟨yb,yo,none⟩) 2 d0] q none 0 0 [] wx)
 case first=>
  by_cases h7:p=0
  ·subst h7;have hqq:q=dd:=by rw [HZQ.out];unfold Iw;rw [if_pos HP.out]
   have HQE:=ae hqq;clear hqq;go_wp2_with fail;go_meet;exact ⟨rfl,by rw [HQE.out];exact iR.out⟩
  ·have hqq:q=7*dd:=by rw [HZQ.out];unfold Iw;rw [if_neg (by rw [HP.out];exact h7)]
   have HQE:=ae hqq;clear hqq;have hpb:(p !=0)=true:=by simpa using h7
   have w0:IntKind.i64.wrap (dd*7)=dd*7:=by rw [IntKind.wrap_i64];omega
   clear c9 f9;generalize w1.setCell ⟨w.heap.size+1,9,none⟩ (I dd)=W2 at iR ⊢;have c9:W2.cell? ⟨w.heap.size+1,9,none⟩=some (I dd):=iR.out.k.cell 9;have f9:W2.frozen? ⟨w.heap.size+1,9,none⟩=false:=iR.out.k.dV 9;have mQ:=ae (iR.out.X9 rfl (dd*7));go_wp2_with fail;go_meet;exact ⟨rfl,by rw [HQE.out,Int.mul_comm];exact mQ.out⟩
 case rest=>
  obtain ⟨rfl,hk⟩:=hcut;have HK:=ae hk;clear hk iR iH c9 f9 JR HP HZQ;have v0:wc.cell? ⟨w.heap.size,0,none⟩=some (I ep):=HK.out.z.cell 0;go_wp2_with fail;clear v0
  go_loopw [8,9] (fun b y wr=>∃(f:Nat) (bg yy:Int) (A:Option Addr) (n cp:Nat) (ts:List Tr),b=I bg∧y=I yy∧1≤yy∧ep+12*(yy - 1)≤bg∧0≤bg∧bg≤ep+q+100∧(n:Int)≤2*(yy - 1)∧(ep+q - bg).toNat≤f∧vN cal r0 r1 (ep+q) f bg yy ts=res∧qI w [I ep, .slice A0 n0 a,I lp, .slice R0 n1 r,I st, .slice C0 n2 c0,I ho, .slice (some ⟨yb,yo,none⟩) 2 d0] q A n cp ts wr) (fun b _ _=>((ep+q) - intOf b).toNat)
  case atStart=>exact ⟨1400,ep,1,none,0,0,[],rfl,rfl,by omega,by omega,by omega,by omega,by omega,by omega,jw.out,HK.out⟩
  case round=>
   clear HK;obtain ⟨f,bg,yy,A,n,cp,ts,rfl,rfl,hy1,hy2,hb0,hbs,hn2,hf,hyf,hys⟩:=hrel;have HF:=ae hyf;have HW:=ae hys;have Xx:=ae hf;clear hyf hys hf;have v0:wr.cell? ⟨w.heap.size,0,none⟩=some (I ep):=HW.out.z.cell 0;have c9:wr.cell? ⟨w.heap.size+1,9,none⟩=some (I q):=HW.out.k.cell 9;by_cases hlt:bg<ep+q
   ·go_wp2_with fail;go_quiet (fail);obtain ⟨W7,RP⟩:∃W,wr.drewN nq=W:=⟨_,rfl⟩;rw [RP];have xX:Hid (qI w [I ep, .slice A0 n0 a,I lp, .slice R0 n1 r,I st, .slice C0 n2 c0,I ho, .slice (some ⟨yb,yo,none⟩) 2 d0] q A n cp ts W7):=ae (by rw [←RP];exact HW.out.drewN nq);clear RP v0 c9 HW;have v0:W7.cell? ⟨w.heap.size,0,none⟩=some (I ep):=xX.out.z.cell 0;have v1:W7.cell? ⟨w.heap.size,1,none⟩=some (.slice A0 n0 a):=xX.out.z.cell 1;have v2:W7.cell? ⟨w.heap.size,2,none⟩=some (I lp):=xX.out.z.cell 2;have v3:W7.cell? ⟨w.heap.size,3,none⟩=some (.slice R0 n1 r):=xX.out.z.cell 3;have v7:W7.cell? ⟨w.heap.size,7,none⟩=some (.slice (some ⟨yb,yo,none⟩) 2 d0):=xX.out.z.cell 7;have dC:=ae (HY.out W7 xX.out.lo);have yG:W7.cell? ⟨yb,yo,none⟩=some (I r0.month):=dC.out.a 0 _ rfl;have yH:W7.cell? ⟨yb,yo+1,none⟩=some (I r0.cZ):=dC.out.a 1 _ rfl;have yI:W7.cell? ⟨yb,yo+2,none⟩=some (I r0.df):=dC.out.a 2 _ rfl;have yJ:W7.cell? ⟨yb,yo+3,none⟩=some (I r0.minute):=dC.out.a 3 _ rfl;have yK:W7.cell? ⟨yb,yo+4,none⟩=some (I r0.off):=dC.out.a 4 _ rfl;have yL:W7.cell? ⟨yb,yo+5,none⟩=some (I r1.month):=dC.out.b 0 _ rfl;have yM:W7.cell? ⟨yb,yo+6,none⟩=some (I r1.cZ):=dC.out.b 1 _ rfl;have yN:W7.cell? ⟨yb,yo+7,none⟩=some (I r1.df):=dC.out.b 2 _ rfl;have y13:W7.cell? ⟨yb,yo+8,none⟩=some (I r1.minute):=dC.out.b 3 _ rfl;have yO:W7.cell? ⟨yb,yo+9,none⟩=some (I r1.off):=dC.out.b 4 _ rfl;go_wp2_with fail;refine wp_loop_rounds 3 ?_;rw [rounds_succ];go_upto_block 3 with fail;obtain ⟨wW,Ph⟩:∃t,vM cal bg yy r0 r1 ts=t:=⟨_,rfl⟩;have rP:=fun (W:World) hb=>U8.out bg yy r0 W YG.out (by omega) (by omega) hb;have SE:=GL cal bg yy r0 HC.out YG.out (by omega);have VN:=uM cal bg yy r0 HC.out YG.out (by omega);obtain ⟨pr0,Lj⟩:∃pr,UL cal bg yy r0=pr:=⟨_,rfl⟩;rw [Lj] at rP SE;have hps0:=Ph;unfold vM at hps0;rw [Lj] at hps0;obtain ⟨fd0,Zv⟩:=pr0;simp only at rP SE hps0;have HYD0:=ae rP;have HFD0:Hid (Zv=true→ -1≤fd0∧fd0≤bg+30):=ae (fun h=>by
     have h2:=SE.2 (by rw [←SE.1];exact h);omega)
    have Qj:Hid (Zv=true→wW=ts++ [⟨fd0*1440+r0.minute - r1.off,r0.off⟩]):=ae (fun h=>by rw [←hps0,if_pos h]);have UU:Hid (Zv=false→wW=ts):=ae (fun h=>by rw [←hps0,if_neg (by rw [h];decide)]);have HTS0:=ae Ph;clear Ph rP SE VN Lj hps0
    go_cut [10] (fun _ wx=>∃(A':Option Addr) (n' cp':Nat),n'≤n+1∧qI w [I ep, .slice A0 n0 a,I lp, .slice R0 n1 r,I st, .slice C0 n2 c0,I ho, .slice (some ⟨yb,yo,none⟩) 2 d0] q A' n' cp' wW wx)
    case first=>
     go_upto_region 15 with (first
      |((with_reducible refine bn 129 ?_);refine aG rfl 129 rfl #[I 0,I 0,I 0,I 0,I 0] (by kernel_rfl) ?_)
      |((with_reducible refine bW 129 ?_);go_must (refine wpList_store_row rfl _ _ _ rfl W7.heap.size #[I r0.month,I r0.cZ,I r0.df,I r0.minute,I r0.off] rfl rfl 129 #[I 0,I 0,I 0,I 0,I 0] (heap_alloc_last W7 _) (by kernel_rfl) rfl (by simp [Value.oneCell']) ?_)))
     have hb2:Below W7.heap.size W7 ((W7.alloc (.cells #[I 0,I 0,I 0,I 0,I 0] 129)).setRow W7.heap.size #[I r0.month,I r0.cZ,I r0.df,I r0.minute,I r0.off]):=aB (ag W7 _) (Nat.le_refl _) _;have HR2:=ae (AV.pG (AV.new W7 #[I 0,I 0,I 0,I 0,I 0] 129) #[I r0.month,I r0.cZ,I r0.df,I r0.minute,I r0.off]);have AQ:Hid (some W7.heap.size≠(Value.slice A n cp).ownBlock):=ae (lM (fun g hg=>(World.ownsRow.lt xX.out.own g hg).2));have QJ:Hid (W7.heap.size≠w.heap.size+1):=ae (by have:=xX.out.k.lt;omega);have iR:=ae (xX.out.grow hb2);clear hb2 xX;clear v0 v1 v2 v3 v7;clear dC yG yH yI yJ yK yL yM yN y13 yO;generalize (W7.alloc (.cells #[I 0,I 0,I 0,I 0,I 0] 129)).setRow W7.heap.size #[I r0.month,I r0.cZ,I r0.df,I r0.minute,I r0.off]=W2 at iR HR2 ⊢;generalize W7.heap.size=rb at HR2 AQ QJ ⊢;have v0:W2.cell? ⟨w.heap.size,0,none⟩=some (I ep):=iR.out.z.cell 0;have v1:W2.cell? ⟨w.heap.size,1,none⟩=some (.slice A0 n0 a):=iR.out.z.cell 1;have v2:W2.cell? ⟨w.heap.size,2,none⟩=some (I lp):=iR.out.z.cell 2;have v3:W2.cell? ⟨w.heap.size,3,none⟩=some (.slice R0 n1 r):=iR.out.z.cell 3;have v7:W2.cell? ⟨w.heap.size,7,none⟩=some (.slice (some ⟨yb,yo,none⟩) 2 d0):=iR.out.z.cell 7;clear v7;have u0:W2.cell? ⟨rb,0,none⟩=some (I r0.month):=HR2.out.cell 0;have u1:W2.cell? ⟨rb,1,none⟩=some (I r0.cZ):=HR2.out.cell 1;have u2:W2.cell? ⟨rb,2,none⟩=some (I r0.df):=HR2.out.cell 2;have u3:W2.cell? ⟨rb,3,none⟩=some (I r0.minute):=HR2.out.cell 3;have u4:W2.cell? ⟨rb,4,none⟩=some (I r0.off):=HR2.out.cell 4;go_wp2_with fail;refine (HYD0.out W2 iR.out.lo).mono ?_;rintro e w3 ⟨rfl,hb3⟩;have mQ:=ae (iR.out.grow hb3);have HR3:=ae (HR2.out.below hb3);clear hb3 iR HR2 v0 v1 v2 v3 u0 u1 u2 u3 u4;cases Zv with
     |false=>
      have HEF:=ae (UU.out rfl);clear UU Qj;go_wp2_with fail;go_meet;exact ⟨A,n,cp,by omega,by rw [HEF.out];exact mQ.out⟩
     |true=>
      have HE0T:=ae (Qj.out rfl);clear Qj UU;have hfd:=HFD0.out rfl;go_upto_region 17 with fail;have hS0:JM rb w.heap.size yb (yo+9) r0.minute r0.off r1.off (.slice (some ⟨yb,yo,none⟩) 2 d0) w3.drew:=⟨HR3.out.drew.cell 3,HR3.out.drew.cell 4,mQ.out.drew.z.cell 7,(HY.out _ mQ.out.drew.lo).b 4 _ rfl⟩;have jA:=ae mQ.out.drew;have AO:=ae HR3.out.drew;clear mQ HR3;refine wp_region_held_drew (S:=JM rb w.heap.size yb (yo+9) r0.minute r0.off r1.off (.slice (some ⟨yb,yo,none⟩) 2 d0)) (by kernel_rfl) hS0 (fun _=>?_);generalize w3.drew=V at hS0 jA AO ⊢;have wk0:IntKind.i64.wrap 1=1:=by rw [IntKind.wrap_i64];omega
      have w1:IntKind.i64.wrap (fd0*1440)=fd0*1440:=by rw [IntKind.wrap_i64];omega
      have w2:IntKind.i64.wrap (fd0*1440+r0.minute)=fd0*1440+r0.minute:=by rw [IntKind.wrap_i64];omega
      have w3:IntKind.i64.wrap (fd0*1440+r0.minute - r1.off)=fd0*1440+r0.minute - r1.off:=by rw [IntKind.wrap_i64];omega
      refine aH 0 (.pointer (some ⟨w.heap.size+1,0,none⟩)) 79 hS0 (fun w' hSw=>?_) ?_
      ·clear hSw
       first|(go_simp;done)|(go_simp;with_reducible rfl)
      refine ax ?_;refine aH 1 (.pointer (some ⟨w.heap.size+1,0,none⟩)) 80 hS0 (fun w' hSw=>?_) ?_
      ·clear hSw
       first|(go_simp;done)|(go_simp;with_reducible rfl)
      refine ax ?_;refine aH 2 (.pointer (some ⟨w.heap.size+1,0,none⟩)) 81 hS0 (fun w' hSw=>?_) ?_
      ·clear hSw
       first|(go_simp;done)|(go_simp;with_reducible rfl)
      refine ax ?_;refine aH 3 (.pointer (some ⟨w.heap.size+1,8,none⟩)) 82 hS0 (fun w' hSw=>?_) ?_
      ·clear hSw
       first|(go_simp;done)|(go_simp;with_reducible rfl)
      refine ax ?_;refine aH 5 (I fd0) 84 hS0 (fun w' hSw=>?_) ?_
      ·clear hSw
       first|(go_simp;done)|(go_simp;with_reducible rfl)
      refine ax ?_;refine aH 6 (I (fd0*1440)) 85 hS0 (fun w' hSw=>?_) ?_
      ·clear hSw
       first|(go_simp;done)|(go_simp;with_reducible rfl)
      refine ax ?_;refine aH 7 (.pointer (some ⟨rb,3,none⟩)) 86 hS0 (fun w' hSw=>?_) ?_
      ·clear hSw
       first|(go_simp;done)|(go_simp;with_reducible rfl)
      refine ax ?_;refine aH 8 (I r0.minute) 87 hS0 (fun w' hSw=>?_) ?_
      ·obtain ⟨s0,s1,s2,s3⟩:=hSw
       first|(go_simp;done)|(go_simp;with_reducible rfl)
      refine ax ?_;refine aH 9 (I (fd0*1440+r0.minute)) 88 hS0 (fun w' hSw=>?_) ?_
      ·clear hSw
       first|(go_simp;done)|(go_simp;with_reducible rfl)
      refine ax ?_;refine aH 10 (.pointer (some ⟨w.heap.size,7,none⟩)) 89 hS0 (fun w' hSw=>?_) ?_
      ·clear hSw
       first|(go_simp;done)|(go_simp;with_reducible rfl)
      refine ax ?_;refine aH 11 (.slice (some ⟨yb,yo,none⟩) 2 d0) 90 hS0 (fun w' hSw=>?_) ?_
      ·obtain ⟨s0,s1,s2,s3⟩:=hSw
       first|(go_simp;done)|(go_simp;with_reducible rfl)
      refine ax ?_;refine aH 12 (I 0) 91 hS0 (fun w' hSw=>?_) ?_
      ·clear hSw
       first|(go_simp;done)|(go_simp;with_reducible rfl)
      refine ax ?_;refine aH 13 (I 1) 92 hS0 (fun w' hSw=>?_) ?_
      ·clear hSw
       first|(go_simp;done)|(go_simp;with_reducible rfl)
      refine ax ?_;refine aH 14 (.pointer (some ⟨yb,yo+5,none⟩)) 93 hS0 (fun w' hSw=>?_) ?_
      ·clear hSw
       first|(go_simp;done)|(go_simp;with_reducible rfl)
      refine ax ?_;refine aH 15 (.pointer (some ⟨yb,yo+9,none⟩)) 94 hS0 (fun w' hSw=>?_) ?_
      ·clear hSw
       first|(go_simp;done)|(go_simp;with_reducible rfl)
      refine ax ?_;refine aH 16 (I r1.off) 95 hS0 (fun w' hSw=>?_) ?_
      ·obtain ⟨s0,s1,s2,s3⟩:=hSw
       first|(go_simp;done)|(go_simp;with_reducible rfl)
      refine ax ?_;refine aH 17 (I (fd0*1440+r0.minute - r1.off)) 96 hS0 (fun w' hSw=>?_) ?_
      ·clear hSw
       first|(go_simp;done)|(go_simp;with_reducible rfl)
      refine ax ?_;refine aH 18 (.pointer (some ⟨rb,4,none⟩)) 97 hS0 (fun w' hSw=>?_) ?_
      ·clear hSw
       first|(go_simp;done)|(go_simp;with_reducible rfl)
      refine ax ?_;refine aH 19 (I r0.off) 98 hS0 (fun w' hSw=>?_) ?_
      ·obtain ⟨s0,s1,s2,s3⟩:=hSw
       first|(go_simp;done)|(go_simp;with_reducible rfl)
      refine ax ?_;refine gJ 20 ( .agg #[I (fd0*1440+r0.minute - r1.off),I r0.off]) 99 rfl rfl hS0 (bK rfl 127 _ rfl _ (by kernel_rfl)) ?_;refine ax ?_;refine jG 4 21 (fun K hK=>?_) (fun K hK=>?_)
      ·have c8:V.cell? ⟨w.heap.size+1,8,none⟩=some (.slice A n cp):=jA.out.k.cell 8;go_simp;clear c8;refine hK.out _ _ hS0 (fun _=>?_);clear hK K;refine ax ?_;refine aU 21 (fun K hK=>?_);go_simp;have hS5:JM rb w.heap.size yb (yo+9) r0.minute r0.off r1.off (.slice (some ⟨yb,yo,none⟩) 2 d0) (V.alloc (.cells #[I (fd0*1440+r0.minute - r1.off),I r0.off] 127)):=⟨(AO.out.below (ag _ _)).cell 3,(AO.out.below (ag _ _)).cell 4,(jA.out.grow (ag _ _)).z.cell 7,(HY.out _ (jA.out.grow (ag _ _)).lo).b 4 _ rfl⟩;refine hK.out _ _ hS5 (fun _=>?_);clear hK K;refine ax ?_;refine aU 22 (fun K hK=>?_);have hvl:=jA.out.k.lt;refine step_append_lies _ (by rfl) _ _ _ (by rfl) (w.heap.size+2) 127 i0 (.agg #[I 0,I 0]) 2 16 Tryz.underlying64 HI.out zZ.out qB.out mV.out rfl (by omega) (.slice A n cp) n (ts.flatMap Tr.cells) (by rfl) (own_below jA.out.own (ag _ _)) ⟨V.heap.size,0,none⟩ 1 1 [I (fd0*1440+r0.minute - r1.off),I r0.off] (by rfl) rfl (bJ V _ _ _ rfl) (uC ⟨fd0*1440+r0.minute - r1.off,r0.off⟩) (by omega) (by unfold maxLen;omega) (by omega) (by simp;omega) _ rfl ?_;intro gg cap w6 hown6 hgrow6 _ _;have hxk:=ae (qI.add (x:=⟨fd0*1440+r0.minute - r1.off,r0.off⟩) jA.out rfl rfl hown6 hgrow6);have Dv:Hid (AV rb 129 #[I r0.month,I r0.cZ,I r0.df,I r0.minute,I r0.off] w6):=ae ⟨(hgrow6.block _ (by have:=AO.out.lt;simp;omega) AQ.out).trans ((Below.heap_alloc _ _ _ AO.out.lt).trans AO.out.var)⟩;have hk6:Hid (AV (w.heap.size+1) 206 ([I ep, .slice A0 n0 a,I lp, .slice R0 n1 r,I st, .slice C0 n2 c0,I ho, .slice (some ⟨yb,yo,none⟩) 2 d0]++ [Value.slice A n cp,I q]).toArray w6):=ae ⟨(hgrow6.block _ (by have:=jA.out.k.lt;simp;omega) (eQ jA.out.own _ (by omega))).trans ((Below.heap_alloc _ _ _ jA.out.k.lt).trans jA.out.k.var)⟩;have EC:Hid (AV w.heap.size 67 #[I ep, .slice A0 n0 a,I lp, .slice R0 n1 r,I st, .slice C0 n2 c0,I ho, .slice (some ⟨yb,yo,none⟩) 2 d0] w6):=ae ⟨(hgrow6.block _ (by have:=jA.out.z.lt;simp;omega) (eQ jA.out.own _ (by omega))).trans ((Below.heap_alloc _ _ _ jA.out.z.lt).trans jA.out.z.var)⟩;have Ls:Hid (w6.cell? ⟨yb,yo+9,none⟩=some (I r1.off)):=ae (by
        have hb6:Below w.heap.size w w6:=dm (ah jA.out.lo (ag _ _)) (bD (own_below jA.out.own (ag _ _)) (by omega)) (ah jA.out.lo (ag _ _)).size hgrow6;exact (HY.out w6 hb6).b 4 _ rfl)
       clear hown6 hgrow6;have hS6:JM rb w.heap.size yb (yo+9) r0.minute r0.off r1.off (.slice (some ⟨yb,yo,none⟩) 2 d0) w6:=⟨Dv.out.cell 3,Dv.out.cell 4,EC.out.cell 7,Ls.out⟩;refine hK.out _ _ hS6 (fun _=>?_);clear hK K;try simp only [Act.put,List.setIfInBounds_toArray]
       refine aH 23 (.pointer (some ⟨w.heap.size+1,0,none⟩)) 102 hS6 (fun w' hSw=>?_) ?_
       ·clear hSw
        first|(go_simp;done)|(go_simp;with_reducible rfl)
       try simp only [Act.put]
       refine aH 24 (.pointer (some ⟨w.heap.size+1,8,none⟩)) 103 hS6 (fun w' hSw=>?_) ?_
       ·clear hSw
        first|(go_simp;done)|(go_simp;with_reducible rfl)
       try simp only [Act.put]
       refine aU 25 (fun K hK=>?_);have c8:=hk6.out.cell 8;have f8:=hk6.out.dV 8;go_simp;have hS7:JM rb w.heap.size yb (yo+9) r0.minute r0.off r1.off (.slice (some ⟨yb,yo,none⟩) 2 d0) (w6.setCell ⟨w.heap.size+1,8,none⟩ (.slice (some ⟨gg,0,none⟩) (n+1) cap)):=⟨(Dv.out.far QJ.out 8 _).cell 3,(Dv.out.far QJ.out 8 _).cell 4,hxk.out.z.cell 7,(HY.out _ hxk.out.lo).b 4 _ rfl⟩;refine hK.out _ _ hS7 (fun _=>?_);clear hK K;refine wpAnyH_done (by kernel_rfl) ?_ _;go_wp2_with fail;go_meet;exact ⟨some ⟨gg,0,none⟩,n+1,cap,by omega,by rw [show wW=ts++ [⟨fd0*1440+r0.minute - r1.off,r0.off⟩] from HE0T.out];exact hxk.out⟩
      ·go_simp;have hS5:JM rb w.heap.size yb (yo+9) r0.minute r0.off r1.off (.slice (some ⟨yb,yo,none⟩) 2 d0) (V.alloc (.cells #[I (fd0*1440+r0.minute - r1.off),I r0.off] 127)):=⟨(AO.out.below (ag _ _)).cell 3,(AO.out.below (ag _ _)).cell 4,(jA.out.grow (ag _ _)).z.cell 7,(HY.out _ (jA.out.grow (ag _ _)).lo).b 4 _ rfl⟩;refine hK.out _ _ hS5 (fun _=>?_);clear hK K;refine ax ?_;refine aU 4 (fun K hK=>?_);have c8:(V.alloc (.cells #[I (fd0*1440+r0.minute - r1.off),I r0.off] 127)).cell? ⟨w.heap.size+1,8,none⟩=some (.slice A n cp):=(jA.out.grow (ag _ _)).k.cell 8;go_simp;clear c8;refine hK.out _ _ hS5 (fun _=>?_);clear hK K;refine ax ?_;refine aU 22 (fun K hK=>?_);have hvl:=jA.out.k.lt;refine step_append_lies _ (by rfl) _ _ _ (by rfl) (w.heap.size+2) 127 i0 (.agg #[I 0,I 0]) 2 16 Tryz.underlying64 HI.out zZ.out qB.out mV.out rfl (by omega) (.slice A n cp) n (ts.flatMap Tr.cells) (by rfl) (own_below jA.out.own (ag _ _)) ⟨V.heap.size,0,none⟩ 1 1 [I (fd0*1440+r0.minute - r1.off),I r0.off] (by rfl) rfl (bJ V _ _ _ rfl) (uC ⟨fd0*1440+r0.minute - r1.off,r0.off⟩) (by omega) (by unfold maxLen;omega) (by omega) (by simp;omega) _ rfl ?_;intro gg cap w6 hown6 hgrow6 _ _;have hxk:=ae (qI.add (x:=⟨fd0*1440+r0.minute - r1.off,r0.off⟩) jA.out rfl rfl hown6 hgrow6);have Dv:Hid (AV rb 129 #[I r0.month,I r0.cZ,I r0.df,I r0.minute,I r0.off] w6):=ae ⟨(hgrow6.block _ (by have:=AO.out.lt;simp;omega) AQ.out).trans ((Below.heap_alloc _ _ _ AO.out.lt).trans AO.out.var)⟩;have hk6:Hid (AV (w.heap.size+1) 206 ([I ep, .slice A0 n0 a,I lp, .slice R0 n1 r,I st, .slice C0 n2 c0,I ho, .slice (some ⟨yb,yo,none⟩) 2 d0]++ [Value.slice A n cp,I q]).toArray w6):=ae ⟨(hgrow6.block _ (by have:=jA.out.k.lt;simp;omega) (eQ jA.out.own _ (by omega))).trans ((Below.heap_alloc _ _ _ jA.out.k.lt).trans jA.out.k.var)⟩;have EC:Hid (AV w.heap.size 67 #[I ep, .slice A0 n0 a,I lp, .slice R0 n1 r,I st, .slice C0 n2 c0,I ho, .slice (some ⟨yb,yo,none⟩) 2 d0] w6):=ae ⟨(hgrow6.block _ (by have:=jA.out.z.lt;simp;omega) (eQ jA.out.own _ (by omega))).trans ((Below.heap_alloc _ _ _ jA.out.z.lt).trans jA.out.z.var)⟩;have Ls:Hid (w6.cell? ⟨yb,yo+9,none⟩=some (I r1.off)):=ae (by
        have hb6:Below w.heap.size w w6:=dm (ah jA.out.lo (ag _ _)) (bD (own_below jA.out.own (ag _ _)) (by omega)) (ah jA.out.lo (ag _ _)).size hgrow6;exact (HY.out w6 hb6).b 4 _ rfl)
       clear hown6 hgrow6;have hS6:JM rb w.heap.size yb (yo+9) r0.minute r0.off r1.off (.slice (some ⟨yb,yo,none⟩) 2 d0) w6:=⟨Dv.out.cell 3,Dv.out.cell 4,EC.out.cell 7,Ls.out⟩;refine hK.out _ _ hS6 (fun _=>?_);clear hK K;try simp only [Act.put,List.setIfInBounds_toArray]
       refine aH 23 (.pointer (some ⟨w.heap.size+1,0,none⟩)) 102 hS6 (fun w' hSw=>?_) ?_
       ·clear hSw
        first|(go_simp;done)|(go_simp;with_reducible rfl)
       try simp only [Act.put]
       refine aH 24 (.pointer (some ⟨w.heap.size+1,8,none⟩)) 103 hS6 (fun w' hSw=>?_) ?_
       ·clear hSw
        first|(go_simp;done)|(go_simp;with_reducible rfl)
       try simp only [Act.put]
       refine aU 25 (fun K hK=>?_);have c8:=hk6.out.cell 8;have f8:=hk6.out.dV 8;go_simp;have hS7:JM rb w.heap.size yb (yo+9) r0.minute r0.off r1.off (.slice (some ⟨yb,yo,none⟩) 2 d0) (w6.setCell ⟨w.heap.size+1,8,none⟩ (.slice (some ⟨gg,0,none⟩) (n+1) cap)):=⟨(Dv.out.far QJ.out 8 _).cell 3,(Dv.out.far QJ.out 8 _).cell 4,hxk.out.z.cell 7,(HY.out _ hxk.out.lo).b 4 _ rfl⟩;refine hK.out _ _ hS7 (fun _=>?_);clear hK K;refine wpAnyH_done (by kernel_rfl) ?_ _;go_wp2_with fail;go_meet;exact ⟨some ⟨gg,0,none⟩,n+1,cap,by omega,by rw [show wW=ts++ [⟨fd0*1440+r0.minute - r1.off,r0.off⟩] from HE0T.out];exact hxk.out⟩
    case rest=>
     obtain ⟨A',n',cp',hnn,hk1⟩:=hcut;have iH:=ae hk1;have hnb:n'≤600:=by omega
     have hnc:(n':Int)≤2*(yy - 1)+1:=by omega
     clear hk1 hnn xX;clear HYD0 HFD0 Qj UU;obtain ⟨A,rfl⟩:∃A,A=A':=⟨_,rfl⟩;obtain ⟨n,rfl⟩:∃n,n=n':=⟨_,rfl⟩;obtain ⟨cp,rfl⟩:∃c,c=cp':=⟨_,rfl⟩;clear v0 v1 v2 v3 v7 dC yG yH yI yJ yK yL yM yN y13 yO;have v0:wc.cell? ⟨w.heap.size,0,none⟩=some (I ep):=iH.out.z.cell 0;have v1:wc.cell? ⟨w.heap.size,1,none⟩=some (.slice A0 n0 a):=iH.out.z.cell 1;have v2:wc.cell? ⟨w.heap.size,2,none⟩=some (I lp):=iH.out.z.cell 2;have v3:wc.cell? ⟨w.heap.size,3,none⟩=some (.slice R0 n1 r):=iH.out.z.cell 3;have v7:wc.cell? ⟨w.heap.size,7,none⟩=some (.slice (some ⟨yb,yo,none⟩) 2 d0):=iH.out.z.cell 7;have dC:=ae (HY.out wc iH.out.lo);have yG:wc.cell? ⟨yb,yo,none⟩=some (I r0.month):=dC.out.a 0 _ rfl;have yH:wc.cell? ⟨yb,yo+1,none⟩=some (I r0.cZ):=dC.out.a 1 _ rfl;have yI:wc.cell? ⟨yb,yo+2,none⟩=some (I r0.df):=dC.out.a 2 _ rfl;have yJ:wc.cell? ⟨yb,yo+3,none⟩=some (I r0.minute):=dC.out.a 3 _ rfl;have yK:wc.cell? ⟨yb,yo+4,none⟩=some (I r0.off):=dC.out.a 4 _ rfl;have yL:wc.cell? ⟨yb,yo+5,none⟩=some (I r1.month):=dC.out.b 0 _ rfl;have yM:wc.cell? ⟨yb,yo+6,none⟩=some (I r1.cZ):=dC.out.b 1 _ rfl;have yN:wc.cell? ⟨yb,yo+7,none⟩=some (I r1.df):=dC.out.b 2 _ rfl;have y13:wc.cell? ⟨yb,yo+8,none⟩=some (I r1.minute):=dC.out.b 3 _ rfl;have yO:wc.cell? ⟨yb,yo+9,none⟩=some (I r1.off):=dC.out.b 4 _ rfl;go_wp2_with fail;rw [rounds_succ];go_upto_block 3 with fail;obtain ⟨Dy,FV⟩:∃t,vM cal bg yy r1 r0 wW=t:=⟨_,rfl⟩;have lJ:=fun (W:World) hb=>U8.out bg yy r1 W YH.out (by omega) (by omega) hb;have SG:=GL cal bg yy r1 HC.out YH.out (by omega);have KZ:=uM cal bg yy r1 HC.out YH.out (by omega);obtain ⟨pr1,BJ⟩:∃pr,UL cal bg yy r1=pr:=⟨_,rfl⟩;rw [BJ] at lJ SG;have hps1:=FV;unfold vM at hps1;rw [BJ] at hps1;obtain ⟨fd1,UC⟩:=pr1;simp only at lJ SG hps1;have HYD1:=ae lJ;have HFD1:Hid (UC=true→ -1≤fd1∧fd1≤bg+30):=ae (fun h=>by
      have h2:=SG.2 (by rw [←SG.1];exact h);omega)
     have E8:Hid (UC=true→Dy=wW++ [⟨fd1*1440+r1.minute - r0.off,r1.off⟩]):=ae (fun h=>by rw [←hps1,if_pos h]);have UW:Hid (UC=false→Dy=wW):=ae (fun h=>by rw [←hps1,if_neg (by rw [h];decide)]);have HTS1:=ae FV;clear FV lJ SG KZ BJ hps1
     go_cut [10] (fun _ wx=>∃(A':Option Addr) (n' cp':Nat),n'≤n+1∧qI w [I ep, .slice A0 n0 a,I lp, .slice R0 n1 r,I st, .slice C0 n2 c0,I ho, .slice (some ⟨yb,yo,none⟩) 2 d0] q A' n' cp' Dy wx)
     case first=>
      go_upto_region 15 with (first
       |((with_reducible refine bn 129 ?_);refine aG rfl 129 rfl #[I 0,I 0,I 0,I 0,I 0] (by kernel_rfl) ?_)
       |((with_reducible refine bW 129 ?_);go_must (refine wpList_store_row rfl _ _ _ rfl wc.heap.size #[I r1.month,I r1.cZ,I r1.df,I r1.minute,I r1.off] rfl rfl 129 #[I 0,I 0,I 0,I 0,I 0] (heap_alloc_last wc _) (by kernel_rfl) rfl (by simp [Value.oneCell']) ?_)))
      have hb2:Below wc.heap.size wc ((wc.alloc (.cells #[I 0,I 0,I 0,I 0,I 0] 129)).setRow wc.heap.size #[I r1.month,I r1.cZ,I r1.df,I r1.minute,I r1.off]):=aB (ag wc _) (Nat.le_refl _) _;have HR2:=ae (AV.pG (AV.new wc #[I 0,I 0,I 0,I 0,I 0] 129) #[I r1.month,I r1.cZ,I r1.df,I r1.minute,I r1.off]);have AQ:Hid (some wc.heap.size≠(Value.slice A n cp).ownBlock):=ae (lM (fun g hg=>(World.ownsRow.lt iH.out.own g hg).2));have QJ:Hid (wc.heap.size≠w.heap.size+1):=ae (by have:=iH.out.k.lt;omega);have iR:=ae (iH.out.grow hb2);clear hb2 iH;clear v0 v1 v2 v3 v7;clear dC yG yH yI yJ yK yL yM yN y13 yO;generalize (wc.alloc (.cells #[I 0,I 0,I 0,I 0,I 0] 129)).setRow wc.heap.size #[I r1.month,I r1.cZ,I r1.df,I r1.minute,I r1.off]=W2 at iR HR2 ⊢;generalize wc.heap.size=rb at HR2 AQ QJ ⊢;have v0:W2.cell? ⟨w.heap.size,0,none⟩=some (I ep):=iR.out.z.cell 0;have v1:W2.cell? ⟨w.heap.size,1,none⟩=some (.slice A0 n0 a):=iR.out.z.cell 1;have v2:W2.cell? ⟨w.heap.size,2,none⟩=some (I lp):=iR.out.z.cell 2;have v3:W2.cell? ⟨w.heap.size,3,none⟩=some (.slice R0 n1 r):=iR.out.z.cell 3;have v7:W2.cell? ⟨w.heap.size,7,none⟩=some (.slice (some ⟨yb,yo,none⟩) 2 d0):=iR.out.z.cell 7;clear v7;have u0:W2.cell? ⟨rb,0,none⟩=some (I r1.month):=HR2.out.cell 0;have u1:W2.cell? ⟨rb,1,none⟩=some (I r1.cZ):=HR2.out.cell 1;have u2:W2.cell? ⟨rb,2,none⟩=some (I r1.df):=HR2.out.cell 2;have u3:W2.cell? ⟨rb,3,none⟩=some (I r1.minute):=HR2.out.cell 3;have u4:W2.cell? ⟨rb,4,none⟩=some (I r1.off):=HR2.out.cell 4;go_wp2_with fail;refine (HYD1.out W2 iR.out.lo).mono ?_;rintro e w3 ⟨rfl,hb3⟩;have mQ:=ae (iR.out.grow hb3);have HR3:=ae (HR2.out.below hb3);clear hb3 iR HR2 v0 v1 v2 v3 u0 u1 u2 u3 u4;cases UC with
      |false=>
       have HEF:=ae (UW.out rfl);clear UW E8;go_wp2_with fail;go_meet;exact ⟨A,n,cp,by omega,by rw [HEF.out];exact mQ.out⟩
      |true=>
       have HE1T:=ae (E8.out rfl);clear E8 UW;have hfd:=HFD1.out rfl;go_upto_region 17 with fail;have hS0:JM rb w.heap.size yb (yo+4) r1.minute r1.off r0.off (.slice (some ⟨yb,yo,none⟩) 2 d0) w3.drew:=⟨HR3.out.drew.cell 3,HR3.out.drew.cell 4,mQ.out.drew.z.cell 7,(HY.out _ mQ.out.drew.lo).a 4 _ rfl⟩;have HKB1:=ae mQ.out.drew;have AP:=ae HR3.out.drew;clear mQ HR3;refine wp_region_held_drew (S:=JM rb w.heap.size yb (yo+4) r1.minute r1.off r0.off (.slice (some ⟨yb,yo,none⟩) 2 d0)) (by kernel_rfl) hS0 (fun _=>?_);generalize w3.drew=V at hS0 HKB1 AP ⊢;have wk0:IntKind.i64.wrap 0=0:=by rw [IntKind.wrap_i64];omega
       have w1:IntKind.i64.wrap (fd1*1440)=fd1*1440:=by rw [IntKind.wrap_i64];omega
       have w2:IntKind.i64.wrap (fd1*1440+r1.minute)=fd1*1440+r1.minute:=by rw [IntKind.wrap_i64];omega
       have w3:IntKind.i64.wrap (fd1*1440+r1.minute - r0.off)=fd1*1440+r1.minute - r0.off:=by rw [IntKind.wrap_i64];omega
       refine aH 0 (.pointer (some ⟨w.heap.size+1,0,none⟩)) 79 hS0 (fun w' hSw=>?_) ?_
       ·clear hSw
        first|(go_simp;done)|(go_simp;with_reducible rfl)
       refine ax ?_;refine aH 1 (.pointer (some ⟨w.heap.size+1,0,none⟩)) 80 hS0 (fun w' hSw=>?_) ?_
       ·clear hSw
        first|(go_simp;done)|(go_simp;with_reducible rfl)
       refine ax ?_;refine aH 2 (.pointer (some ⟨w.heap.size+1,0,none⟩)) 81 hS0 (fun w' hSw=>?_) ?_
       ·clear hSw
        first|(go_simp;done)|(go_simp;with_reducible rfl)
       refine ax ?_;refine aH 3 (.pointer (some ⟨w.heap.size+1,8,none⟩)) 82 hS0 (fun w' hSw=>?_) ?_
       ·clear hSw
        first|(go_simp;done)|(go_simp;with_reducible rfl)
       refine ax ?_;refine aH 5 (I fd1) 84 hS0 (fun w' hSw=>?_) ?_
       ·clear hSw
        first|(go_simp;done)|(go_simp;with_reducible rfl)
       refine ax ?_;refine aH 6 (I (fd1*1440)) 85 hS0 (fun w' hSw=>?_) ?_
       ·clear hSw
        first|(go_simp;done)|(go_simp;with_reducible rfl)
       refine ax ?_;refine aH 7 (.pointer (some ⟨rb,3,none⟩)) 86 hS0 (fun w' hSw=>?_) ?_
       ·clear hSw
        first|(go_simp;done)|(go_simp;with_reducible rfl)
       refine ax ?_;refine aH 8 (I r1.minute) 87 hS0 (fun w' hSw=>?_) ?_
       ·obtain ⟨s0,s1,s2,s3⟩:=hSw
        first|(go_simp;done)|(go_simp;with_reducible rfl)
       refine ax ?_;refine aH 9 (I (fd1*1440+r1.minute)) 88 hS0 (fun w' hSw=>?_) ?_
       ·clear hSw
        first|(go_simp;done)|(go_simp;with_reducible rfl)
       refine ax ?_;refine aH 10 (.pointer (some ⟨w.heap.size,7,none⟩)) 89 hS0 (fun w' hSw=>?_) ?_
       ·clear hSw
        first|(go_simp;done)|(go_simp;with_reducible rfl)
       refine ax ?_;refine aH 11 (.slice (some ⟨yb,yo,none⟩) 2 d0) 90 hS0 (fun w' hSw=>?_) ?_
       ·obtain ⟨s0,s1,s2,s3⟩:=hSw
        first|(go_simp;done)|(go_simp;with_reducible rfl)
       refine ax ?_;refine aH 12 (I 1) 91 hS0 (fun w' hSw=>?_) ?_
       ·clear hSw
        first|(go_simp;done)|(go_simp;with_reducible rfl)
       refine ax ?_;refine aH 13 (I 0) 92 hS0 (fun w' hSw=>?_) ?_
       ·clear hSw
        first|(go_simp;done)|(go_simp;with_reducible rfl)
       refine ax ?_;refine aH 14 (.pointer (some ⟨yb,yo,none⟩)) 93 hS0 (fun w' hSw=>?_) ?_
       ·clear hSw
        first|(go_simp;done)|(go_simp;with_reducible rfl)
       refine ax ?_;refine aH 15 (.pointer (some ⟨yb,yo+4,none⟩)) 94 hS0 (fun w' hSw=>?_) ?_
       ·clear hSw
        first|(go_simp;done)|(go_simp;with_reducible rfl)
       refine ax ?_;refine aH 16 (I r0.off) 95 hS0 (fun w' hSw=>?_) ?_
       ·obtain ⟨s0,s1,s2,s3⟩:=hSw
        first|(go_simp;done)|(go_simp;with_reducible rfl)
       refine ax ?_;refine aH 17 (I (fd1*1440+r1.minute - r0.off)) 96 hS0 (fun w' hSw=>?_) ?_
       ·clear hSw
        first|(go_simp;done)|(go_simp;with_reducible rfl)
       refine ax ?_;refine aH 18 (.pointer (some ⟨rb,4,none⟩)) 97 hS0 (fun w' hSw=>?_) ?_
       ·clear hSw
        first|(go_simp;done)|(go_simp;with_reducible rfl)
       refine ax ?_;refine aH 19 (I r1.off) 98 hS0 (fun w' hSw=>?_) ?_
       ·obtain ⟨s0,s1,s2,s3⟩:=hSw
        first|(go_simp;done)|(go_simp;with_reducible rfl)
       refine ax ?_;refine gJ 20 ( .agg #[I (fd1*1440+r1.minute - r0.off),I r1.off]) 99 rfl rfl hS0 (bK rfl 127 _ rfl _ (by kernel_rfl)) ?_;refine ax ?_;refine jG 4 21 (fun K hK=>?_) (fun K hK=>?_)
       ·have c8:V.cell? ⟨w.heap.size+1,8,none⟩=some (.slice A n cp):=HKB1.out.k.cell 8;go_simp;clear c8;refine hK.out _ _ hS0 (fun _=>?_);clear hK K;refine ax ?_;refine aU 21 (fun K hK=>?_);go_simp;have hS5:JM rb w.heap.size yb (yo+4) r1.minute r1.off r0.off (.slice (some ⟨yb,yo,none⟩) 2 d0) (V.alloc (.cells #[I (fd1*1440+r1.minute - r0.off),I r1.off] 127)):=⟨(AP.out.below (ag _ _)).cell 3,(AP.out.below (ag _ _)).cell 4,(HKB1.out.grow (ag _ _)).z.cell 7,(HY.out _ (HKB1.out.grow (ag _ _)).lo).a 4 _ rfl⟩;refine hK.out _ _ hS5 (fun _=>?_);clear hK K;refine ax ?_;refine aU 22 (fun K hK=>?_);have hvl:=HKB1.out.k.lt;refine step_append_lies _ (by rfl) _ _ _ (by rfl) (w.heap.size+2) 127 i0 (.agg #[I 0,I 0]) 2 16 Tryz.underlying64 HI.out zZ.out qB.out mV.out rfl (by omega) (.slice A n cp) n (wW.flatMap Tr.cells) (by rfl) (own_below HKB1.out.own (ag _ _)) ⟨V.heap.size,0,none⟩ 1 1 [I (fd1*1440+r1.minute - r0.off),I r1.off] (by rfl) rfl (bJ V _ _ _ rfl) (uC ⟨fd1*1440+r1.minute - r0.off,r1.off⟩) (by omega) (by unfold maxLen;omega) (by omega) (by simp;omega) _ rfl ?_;intro gg cap w6 hown6 hgrow6 _ _;have hxk:=ae (qI.add (x:=⟨fd1*1440+r1.minute - r0.off,r1.off⟩) HKB1.out rfl rfl hown6 hgrow6);have Dv:Hid (AV rb 129 #[I r1.month,I r1.cZ,I r1.df,I r1.minute,I r1.off] w6):=ae ⟨(hgrow6.block _ (by have:=AP.out.lt;simp;omega) AQ.out).trans ((Below.heap_alloc _ _ _ AP.out.lt).trans AP.out.var)⟩;have hk6:Hid (AV (w.heap.size+1) 206 ([I ep, .slice A0 n0 a,I lp, .slice R0 n1 r,I st, .slice C0 n2 c0,I ho, .slice (some ⟨yb,yo,none⟩) 2 d0]++ [Value.slice A n cp,I q]).toArray w6):=ae ⟨(hgrow6.block _ (by have:=HKB1.out.k.lt;simp;omega) (eQ HKB1.out.own _ (by omega))).trans ((Below.heap_alloc _ _ _ HKB1.out.k.lt).trans HKB1.out.k.var)⟩;have EC:Hid (AV w.heap.size 67 #[I ep, .slice A0 n0 a,I lp, .slice R0 n1 r,I st, .slice C0 n2 c0,I ho, .slice (some ⟨yb,yo,none⟩) 2 d0] w6):=ae ⟨(hgrow6.block _ (by have:=HKB1.out.z.lt;simp;omega) (eQ HKB1.out.own _ (by omega))).trans ((Below.heap_alloc _ _ _ HKB1.out.z.lt).trans HKB1.out.z.var)⟩;have Ls:Hid (w6.cell? ⟨yb,yo+4,none⟩=some (I r0.off)):=ae (by
         have hb6:Below w.heap.size w w6:=dm (ah HKB1.out.lo (ag _ _)) (bD (own_below HKB1.out.own (ag _ _)) (by omega)) (ah HKB1.out.lo (ag _ _)).size hgrow6;exact (HY.out w6 hb6).a 4 _ rfl)
        clear hown6 hgrow6;have hS6:JM rb w.heap.size yb (yo+4) r1.minute r1.off r0.off (.slice (some ⟨yb,yo,none⟩) 2 d0) w6:=⟨Dv.out.cell 3,Dv.out.cell 4,EC.out.cell 7,Ls.out⟩;refine hK.out _ _ hS6 (fun _=>?_);clear hK K;try simp only [Act.put,List.setIfInBounds_toArray]
        refine aH 23 (.pointer (some ⟨w.heap.size+1,0,none⟩)) 102 hS6 (fun w' hSw=>?_) ?_
        ·clear hSw
         first|(go_simp;done)|(go_simp;with_reducible rfl)
        try simp only [Act.put]
        refine aH 24 (.pointer (some ⟨w.heap.size+1,8,none⟩)) 103 hS6 (fun w' hSw=>?_) ?_
        ·clear hSw
         first|(go_simp;done)|(go_simp;with_reducible rfl)
        try simp only [Act.put]
        refine aU 25 (fun K hK=>?_);have c8:=hk6.out.cell 8;have f8:=hk6.out.dV 8;go_simp;have hS7:JM rb w.heap.size yb (yo+4) r1.minute r1.off r0.off (.slice (some ⟨yb,yo,none⟩) 2 d0) (w6.setCell ⟨w.heap.size+1,8,none⟩ (.slice (some ⟨gg,0,none⟩) (n+1) cap)):=⟨(Dv.out.far QJ.out 8 _).cell 3,(Dv.out.far QJ.out 8 _).cell 4,hxk.out.z.cell 7,(HY.out _ hxk.out.lo).a 4 _ rfl⟩;refine hK.out _ _ hS7 (fun _=>?_);clear hK K;refine wpAnyH_done (by kernel_rfl) ?_ _;go_wp2_with fail;go_meet;exact ⟨some ⟨gg,0,none⟩,n+1,cap,by omega,by rw [show Dy=wW++ [⟨fd1*1440+r1.minute - r0.off,r1.off⟩] from HE1T.out];exact hxk.out⟩
       ·go_simp;have hS5:JM rb w.heap.size yb (yo+4) r1.minute r1.off r0.off (.slice (some ⟨yb,yo,none⟩) 2 d0) (V.alloc (.cells #[I (fd1*1440+r1.minute - r0.off),I r1.off] 127)):=⟨(AP.out.below (ag _ _)).cell 3,(AP.out.below (ag _ _)).cell 4,(HKB1.out.grow (ag _ _)).z.cell 7,(HY.out _ (HKB1.out.grow (ag _ _)).lo).a 4 _ rfl⟩;refine hK.out _ _ hS5 (fun _=>?_);clear hK K;refine ax ?_;refine aU 4 (fun K hK=>?_);have c8:(V.alloc (.cells #[I (fd1*1440+r1.minute - r0.off),I r1.off] 127)).cell? ⟨w.heap.size+1,8,none⟩=some (.slice A n cp):=(HKB1.out.grow (ag _ _)).k.cell 8;go_simp;clear c8;refine hK.out _ _ hS5 (fun _=>?_);clear hK K;refine ax ?_;refine aU 22 (fun K hK=>?_);have hvl:=HKB1.out.k.lt;refine step_append_lies _ (by rfl) _ _ _ (by rfl) (w.heap.size+2) 127 i0 (.agg #[I 0,I 0]) 2 16 Tryz.underlying64 HI.out zZ.out qB.out mV.out rfl (by omega) (.slice A n cp) n (wW.flatMap Tr.cells) (by rfl) (own_below HKB1.out.own (ag _ _)) ⟨V.heap.size,0,none⟩ 1 1 [I (fd1*1440+r1.minute - r0.off),I r1.off] (by rfl) rfl (bJ V _ _ _ rfl) (uC ⟨fd1*1440+r1.minute - r0.off,r1.off⟩) (by omega) (by unfold maxLen;omega) (by omega) (by simp;omega) _ rfl ?_;intro gg cap w6 hown6 hgrow6 _ _;have hxk:=ae (qI.add (x:=⟨fd1*1440+r1.minute - r0.off,r1.off⟩) HKB1.out rfl rfl hown6 hgrow6);have Dv:Hid (AV rb 129 #[I r1.month,I r1.cZ,I r1.df,I r1.minute,I r1.off] w6):=ae ⟨(hgrow6.block _ (by have:=AP.out.lt;simp;omega) AQ.out).trans ((Below.heap_alloc _ _ _ AP.out.lt).trans AP.out.var)⟩;have hk6:Hid (AV (w.heap.size+1) 206 ([I ep, .slice A0 n0 a,I lp, .slice R0 n1 r,I st, .slice C0 n2 c0,I ho, .slice (some ⟨yb,yo,none⟩) 2 d0]++ [Value.slice A n cp,I q]).toArray w6):=ae ⟨(hgrow6.block _ (by have:=HKB1.out.k.lt;simp;omega) (eQ HKB1.out.own _ (by omega))).trans ((Below.heap_alloc _ _ _ HKB1.out.k.lt).trans HKB1.out.k.var)⟩;have EC:Hid (AV w.heap.size 67 #[I ep, .slice A0 n0 a,I lp, .slice R0 n1 r,I st, .slice C0 n2 c0,I ho, .slice (some ⟨yb,yo,none⟩) 2 d0] w6):=ae ⟨(hgrow6.block _ (by have:=HKB1.out.z.lt;simp;omega) (eQ HKB1.out.own _ (by omega))).trans ((Below.heap_alloc _ _ _ HKB1.out.z.lt).trans HKB1.out.z.var)⟩;have Ls:Hid (w6.cell? ⟨yb,yo+4,none⟩=some (I r0.off)):=ae (by
         have hb6:Below w.heap.size w w6:=dm (ah HKB1.out.lo (ag _ _)) (bD (own_below HKB1.out.own (ag _ _)) (by omega)) (ah HKB1.out.lo (ag _ _)).size hgrow6;exact (HY.out w6 hb6).a 4 _ rfl)
        clear hown6 hgrow6;have hS6:JM rb w.heap.size yb (yo+4) r1.minute r1.off r0.off (.slice (some ⟨yb,yo,none⟩) 2 d0) w6:=⟨Dv.out.cell 3,Dv.out.cell 4,EC.out.cell 7,Ls.out⟩;refine hK.out _ _ hS6 (fun _=>?_);clear hK K;try simp only [Act.put,List.setIfInBounds_toArray]
        refine aH 23 (.pointer (some ⟨w.heap.size+1,0,none⟩)) 102 hS6 (fun w' hSw=>?_) ?_
        ·clear hSw
         first|(go_simp;done)|(go_simp;with_reducible rfl)
        try simp only [Act.put]
        refine aH 24 (.pointer (some ⟨w.heap.size+1,8,none⟩)) 103 hS6 (fun w' hSw=>?_) ?_
        ·clear hSw
         first|(go_simp;done)|(go_simp;with_reducible rfl)
        try simp only [Act.put]
        refine aU 25 (fun K hK=>?_);have c8:=hk6.out.cell 8;have f8:=hk6.out.dV 8;go_simp;have hS7:JM rb w.heap.size yb (yo+4) r1.minute r1.off r0.off (.slice (some ⟨yb,yo,none⟩) 2 d0) (w6.setCell ⟨w.heap.size+1,8,none⟩ (.slice (some ⟨gg,0,none⟩) (n+1) cap)):=⟨(Dv.out.far QJ.out 8 _).cell 3,(Dv.out.far QJ.out 8 _).cell 4,hxk.out.z.cell 7,(HY.out _ hxk.out.lo).a 4 _ rfl⟩;refine hK.out _ _ hS7 (fun _=>?_);clear hK K;refine wpAnyH_done (by kernel_rfl) ?_ _;go_wp2_with fail;go_meet;exact ⟨some ⟨gg,0,none⟩,n+1,cap,by omega,by rw [show Dy=wW++ [⟨fd1*1440+r1.minute - r0.off,r1.off⟩] from HE1T.out];exact hxk.out⟩
     case rest=>
      obtain ⟨A',n',cp',hnn,hk2⟩:=hcut;have iR:=ae hk2;have hnd:(n':Int)≤2*yy:=by omega
      clear hk2 hnn iH HYD1 HFD1 E8 UW v0 v1 v2 v3 v7 dC yG yH yI yJ yK yL yM yN y13 yO;have v0:wc.cell? ⟨w.heap.size,0,none⟩=some (I ep):=iR.out.z.cell 0;have v1:wc.cell? ⟨w.heap.size,1,none⟩=some (.slice A0 n0 a):=iR.out.z.cell 1;have v2:wc.cell? ⟨w.heap.size,2,none⟩=some (I lp):=iR.out.z.cell 2;have v3:wc.cell? ⟨w.heap.size,3,none⟩=some (.slice R0 n1 r):=iR.out.z.cell 3;have v7:wc.cell? ⟨w.heap.size,7,none⟩=some (.slice (some ⟨yb,yo,none⟩) 2 d0):=iR.out.z.cell 7;go_wp2_with fail;rw [rounds_succ];have hge:=qo cal yy HC.out;have hbd2:=jv cal yy HC.out;obtain ⟨f',hf1,hf2⟩:=Tu HF.out hlt Xx.out hge;rw [HTS0.out,HTS1.out] at hf2;obtain ⟨yl,hyl⟩:∃v,dG cal yy=v:=⟨_,rfl⟩;have hcy:=nZ.out yy wc iR.out.lo;rw [hyl] at hf1 hf2 hcy hge hbd2;have UX:=ae hf1;have HF2:=ae hf2;have gq:=ae hcy;clear hcy hyl hf1 hf2;go_wp2_with fail;refine gq.out.mono ?_;rintro e w9 ⟨rfl,IB⟩;have HK9:=ae (iR.out.grow IB);clear IB iR v0 v1 v2 v3 v7;go_wp2_with fail;go_roundw
      case rel=>exact ⟨f',bg+yl,yy+1,A',n',cp',Dy,by go_num,by go_num,by omega,by omega,by omega,by omega,by omega,UX.out,HF2.out,HK9.out⟩
      case measure=>simp [intOf];omega
   ·have hre:=PD HF.out hlt;subst hre;clear HF Xx;go_wp2_with fail;go_quiet (fail);obtain ⟨W7,RP⟩:∃W,wr.drewN nq=W:=⟨_,rfl⟩;rw [RP];have xX:Hid (qI w [I ep, .slice A0 n0 a,I lp, .slice R0 n1 r,I st, .slice C0 n2 c0,I ho, .slice (some ⟨yb,yo,none⟩) 2 d0] q A n cp ts W7):=ae (by rw [←RP];exact HW.out.drewN nq);clear RP v0 c9 HW;have c8:W7.cell? ⟨w.heap.size+1,8,none⟩=some (.slice A n cp):=xX.out.k.cell 8;have HSRT:=ae (MC xX.out.own xX.out.len (by omega));go_wp2_with fail;refine HSRT.out.mono ?_;rintro e w8 ⟨rfl,us,hp,hs,ho,hg⟩;have hus:us=ys:=PM Eb.out (hp.trans Nz.out.symm) hs;subst hus;have hul:us.length=n:=by rw [hp.length_eq];exact xX.out.len
    have Xy:=ae (xX.out.sorted hul ho hg);have HUB:Hid (JO us):=ae HTBY.out;clear hp hs ho hg HSRT xX c8 Nz;have c8:w8.cell? ⟨w.heap.size+1,8,none⟩=some (.slice A n cp):=Xy.out.k.cell 8;go_wp2_with fail;clear c8
    go_loopw [121] (fun i wr=>∃k:Nat,k≤n∧i=I (k:Nat)∧qI w [I ep, .slice A0 n0 a,I lp, .slice R0 n1 r,I st, .slice C0 n2 c0,I ho, .slice (some ⟨yb,yo,none⟩) 2 d0] q A n cp us wr) (fun i _=>n - (intOf i).toNat)
    case atStart=>exact ⟨0,Nat.zero_le _,rfl,Xy.out⟩
    case round=>
     clear Xy;obtain ⟨k,hkn,rfl,hks⟩:=hrel;have HX:=ae hks;clear hks;by_cases hlt2:k<n
     ·have i1:(k:Int)<(n:Int):=by omega
      have i0':(0:Int)≤(k:Int):=by omega
      have hga:=FN Eb.out k (by rw [hul];exact hlt2);unfold oZ at hga;rw [hul] at hga;have a0:=qE 0 HUB.out;have ak:=qE k HUB.out;have ak1:=qE (k+1) HUB.out;obtain ⟨g,hAg⟩:∃g,A=some ⟨g,0,none⟩:=by
       rcases HX.out.own.2 with ⟨_,hz⟩|⟨g,cap,cur,hv,_⟩
       ·omega
       ·injection hv with h1 _ _;exact ⟨g,h1⟩
      subst hAg;have HAT:=ae (fun (W:World) (h:qI w [I ep, .slice A0 n0 a,I lp, .slice R0 n1 r,I st, .slice C0 n2 c0,I ho, .slice (some ⟨yb,yo,none⟩) 2 d0] q (some ⟨g,0,none⟩) n cp us W) (j:Nat) (hj:j<n)=>rW h.own h.len j hj);have HOF:=ae (uT HX.out.own HX.out.len k hlt2);obtain ⟨t0,ht0⟩:∃t,iY us 0=t:=⟨_,rfl⟩;obtain ⟨tk,htk⟩:∃t,iY us k=t:=⟨_,rfl⟩;obtain ⟨tl,htl⟩:∃t,iY us (k+1)=t:=⟨_,rfl⟩;obtain ⟨ok,hok⟩:∃t,lZ us k=t:=⟨_,rfl⟩;have uJ:Hid (∀W,qI w [I ep, .slice A0 n0 a,I lp, .slice R0 n1 r,I st, .slice C0 n2 c0,I ho, .slice (some ⟨yb,yo,none⟩) 2 d0] q (some ⟨g,0,none⟩) n cp us W→W.cell? ⟨g,0,none⟩=some (I t0)):=ae (fun W h=>by have:=HAT.out W h 0 (by omega);rw [ht0] at this;simpa using this);have Xm:Hid (∀W,qI w [I ep, .slice A0 n0 a,I lp, .slice R0 n1 r,I st, .slice C0 n2 c0,I ho, .slice (some ⟨yb,yo,none⟩) 2 d0] q (some ⟨g,0,none⟩) n cp us W→k+1<n→W.cell? ⟨g,(k+1)*2,none⟩=some (I tl)):=ae (fun W h hj=>by have:=HAT.out W h (k+1) hj;rw [htl] at this;exact this);have e0:=HAT.out wr HX.out k hlt2;have e1:=HOF.out;rw [htk] at e0;rw [hok] at e1;rw [ht0,htk,htl] at hga;rw [ht0] at a0;rw [htk] at ak;rw [htl] at ak1;clear ht0 htk htl hok HAT HOF;go_upto_region 24 with (first
       |((with_reducible refine bn 127 ?_);refine aG rfl 127 rfl #[I 0,I 0] (by kernel_rfl) ?_)
       |((with_reducible refine bW 127 ?_);go_must (refine wpList_store_row rfl _ _ _ rfl wr.heap.size #[I tk,I ok] rfl rfl 127 #[I 0,I 0] (heap_alloc_last wr _) (by kernel_rfl) rfl (by simp [Value.oneCell']) ?_)))
      have hbr:Below wr.heap.size wr ((wr.alloc (.cells #[I 0,I 0] 127)).setRow wr.heap.size #[I tk,I ok]):=aB (ag wr _) (Nat.le_refl _) _;have UA:=ae (AV.pG (AV.new wr #[I 0,I 0] 127) #[I tk,I ok]);have xZ:=ae (HX.out.grow hbr);clear hbr HX e0 e1;generalize (wr.alloc (.cells #[I 0,I 0] 127)).setRow wr.heap.size #[I tk,I ok]=W2 at xZ UA ⊢;generalize wr.heap.size=rb at UA ⊢;have c8:W2.cell? ⟨w.heap.size+1,8,none⟩=some (.slice (some ⟨g,0,none⟩) n cp):=xZ.out.k.cell 8;have c9:W2.cell? ⟨w.heap.size+1,9,none⟩=some (I q):=xZ.out.k.cell 9;have a00:=uJ.out W2 xZ.out;have hn0:0<n:=by omega
      have wq:IntKind.i64.wrap (q*1440)=q*1440:=by rw [IntKind.wrap_i64];omega
      have wt:IntKind.i64.wrap (t0+q*1440)=t0+q*1440:=by rw [IntKind.wrap_i64];omega
      go_quiet ((go_at_call 109;exact qG _ q W2 c9 (by omega) (by omega) _));obtain ⟨W3,hW3⟩:∃W,W2.drewN nq=W:=⟨_,rfl⟩;rw [hW3];have yV:Hid (qI w [I ep, .slice A0 n0 a,I lp, .slice R0 n1 r,I st, .slice C0 n2 c0,I ho, .slice (some ⟨yb,yo,none⟩) 2 d0] q (some ⟨g,0,none⟩) n cp us W3):=ae (by rw [←hW3];exact xZ.out.drewN nq);have HR3:Hid (AV rb 127 #[I tk,I ok] W3):=ae (by rw [←hW3];exact UA.out.below (below_drewN' _ _));clear hW3 c8 c9 a00 xZ UA;have c8:W3.cell? ⟨w.heap.size+1,8,none⟩=some (.slice (some ⟨g,0,none⟩) n cp):=yV.out.k.cell 8;have r00:W3.cell? ⟨rb,0,none⟩=some (I tk):=HR3.out.cell 0;by_cases hl:k+1<n
      ·have i2:(k:Int)+1<(n:Int):=by omega
       have al:=Xm.out W3 yV.out hl;rw [if_pos hl] at hga;have hnl:¬tl - tk<2160:=by omega
       clear hga uJ Xm;go_wp2_with fail;go_roundw
       case rel=>exact ⟨k+1,by omega,by go_num,yV.out⟩
       case measure=>simp [intOf];omega
      ·have i2:¬(k:Int)+1<(n:Int):=by omega
       rw [if_neg hl] at hga;have hnl:¬t0+q*1440 - tk<2160:=by omega
       clear hga uJ Xm;go_wp2_with fail;go_roundw
       case rel=>exact ⟨k+1,by omega,by go_num,yV.out⟩
       case measure=>simp [intOf];omega
     ·have i1:¬(k:Int)<(n:Int):=by omega
      go_wp2_with fail;go_ret2;exact ⟨rfl,A,n,cp,HX.out⟩
end Go.Proofs.YtdibbemgpikgjaaGreatDoor
