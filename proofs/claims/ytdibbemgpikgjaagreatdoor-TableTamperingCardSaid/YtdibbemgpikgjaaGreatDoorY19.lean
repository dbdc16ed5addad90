/- The texts Ni, in this order. -/
import Derived.Test.YtdibbemgpikgjaaGreatDoorY00
import Derived.Test.YtdibbemgpikgjaaGreatDoorY15
import Derived.Test.YtdibbemgpikgjaaGreatDoorY18
set_option maxRecDepth 10000
set_option maxHeartbeats 8000000
namespace Go.Proofs.YtdibbemgpikgjaaGreatDoor
open Go Go.RowKit
theorem ys_bd (z:Zn) {r0 r1:Yr} (hc:gW z.cal) (hy:z.aN= [r0,r1]) (h0:yh r0) (h1:yh r1):J3 (rf z):=by
 have hz:=qo z hc;unfold rf;rw [hy];exact (JL z.cal r0 r1 z.cal.aX _ hc h0 h1 (by have:=hc.ep;omega) hc.ep.1 1400 _ _ _ (show J3 [] from fun _ h=>nomatch h) (by omega) (by omega) (by omega) (by simp)).1
theorem Un (z:Zn) (s:Zs) (r0 r1:Yr) (w:World) (hc:gW z.cal) (h:jG w w.heap.size s z) (hy:z.aN= [r0,r1]) (hr0:yh r0) (hr1:yh r1) (hg:jS (rf z) (jL z*1440)=true):
  Calls Tryz.prog 86 #[.agg (ay z s)] w fun e w'=>e= .returned (.tuple #[.pointer (some ⟨w.heap.size+1,0,none⟩), .bool true])∧∃A n c,qF w (ay z s).toList (jL z) A n c (rf z) w':=by
 have qE:=ae (fun (W:World) (hb:Below w.heap.size w W)=>Sl z.cal s.A s.B s.a s.b W hc ⟨h.az.grow hb,h.rules.grow hb⟩);have VA:=ae (fun (bg y:Int) (x:Yr) (W:World) (hx:yh x) (h1:0≤bg) (h2:bg≤100000) (hb:Below w.heap.size w W)=>JK z.cal s.A s.B s.a s.b bg y x W hc ⟨h.az.grow hb,h.rules.grow hb⟩ h1 h2 hx);have nI:=ae (fun (y:Int) (W:World) (hb:Below w.heap.size w W)=>XD z.cal s.A s.B s.a s.b y W hc ⟨h.az.grow hb,h.rules.grow hb⟩);have hbd:=qo z hc;have hge1:=xN z hc;have hep:=hc.ep;have HC:=ae hc;have NR:=ae (Ua hc hy hr0 hr1);have hzm:=(ys_bd z hc hy hr0 hr1);have En:=ae hg;obtain ⟨yb,yo,hD,hyb,D5⟩:=h.aN.there (by rw [hy];simp [Yr.cells]);have HY:Hid (∀W,Below w.heap.size w W→YC W yb yo r0 r1):=ae fun W hb=>by
  rw [hy] at D5;exact ⟨aQ (aA.elem (s:=5) (f:=Yr.cells) (xs:= [r0,r1]) (fun _ _=>rfl) D5 0 r0 rfl) hb hyb,aQ (aA.elem (s:=5) (f:=Yr.cells) (xs:= [r0,r1]) (fun _ _=>rfl) D5 1 r1 rfl) hb hyb⟩
 clear D5;have WG:jL z=IP (rG z.cal):=by unfold jL;rw [hy]
 have hcd:=FY z.cal hc;obtain ⟨dd,hdd⟩:∃d,rG z.cal=d:=⟨_,rfl⟩;rw [hdd] at qE WG hcd;obtain ⟨res,hres⟩:∃res,Xd z r0 r1=res:=⟨_,rfl⟩;rw [hres] at NR;unfold Xd at hres;obtain ⟨q,hq⟩:∃q,jL z=q:=⟨_,rfl⟩;rw [hq] at hbd hge1 hres En WG ⊢;obtain ⟨ys,hys⟩:∃ys,rf z=ys:=⟨_,rfl⟩;rw [hys] at NR En hzm ⊢;have HTBY:=ae hzm;clear hzm;have jD:=ae hres;have Zm:=ae hr0;have Zo:=ae hr1;have hmi0:=hr0.mi;have hof0:=hr0.of;have Wv:=hr1.mi;have WA:=hr1.of;clear hres hq hys hr0 hr1 hc h hdd hg;obtain ⟨cal,st,tr,ho,yr⟩:=z;obtain ⟨A0,a,R0,r,C0,c0,D0,d0⟩:=s;simp only at hy hD qE VA nI hep HC jD ⊢;subst hy hD;obtain ⟨ep,uT⟩:∃ep,cal.aX=ep:=⟨_,rfl⟩;rw [uT] at hep jD;obtain ⟨lp,xg⟩:∃lp,cal.dM=lp:=⟨_,rfl⟩;obtain ⟨n0,hn0⟩:∃n,cal.az.length=n:=⟨_,rfl⟩;obtain ⟨n1,hn1⟩:∃n,cal.rules.length=n:=⟨_,rfl⟩;obtain ⟨n2,hn2⟩:∃n,tr.length=n:=⟨_,rfl⟩;unfold ay aG at*;simp only [uT,xg,hn0,hn1,hn2,List.length_cons,List.length_nil,Nat.zero_add,Nat.reduceAdd] at qE VA nI ⊢;clear uT xg hn0 hn1 hn2;obtain ⟨i0,hi,hq0,hq1,hq2⟩:=info_parts Am;have HI:=ae hi;have wM:=ae hq0;have nY:=ae hq1;have lC:=ae hq2;clear hi hq0 hq1 hq2;show Calls Tryz.prog _ #[.agg #[I ep, .slice A0 n0 a,I lp, .slice R0 n1 r,I st, .slice C0 n2 c0,I ho, .slice (some ⟨yb,yo,none⟩) 2 d0]] w _;show Calls Tryz.prog _ _ w (fun e w'=>e= .returned (.tuple #[.pointer (some ⟨w.heap.size+1,0,none⟩), .bool true])∧∃A n c,qF w [I ep, .slice A0 n0 a,I lp, .slice R0 n1 r,I st, .slice C0 n2 c0,I ho, .slice (some ⟨yb,yo,none⟩) 2 d0] q A n c ys w');have hone:(#[I ep, .slice A0 n0 a,I lp, .slice R0 n1 r,I st, .slice C0 n2 c0,I ho, .slice (some ⟨yb,yo,none⟩) 2 d0, .slice none 0 0,I 1]:Array Value).all (·.oneCell')=true:=by simp [Value.oneCell']
 have HV:=ae (AV.new w #[I ep, .slice A0 n0 a,I lp, .slice R0 n1 r,I st, .slice C0 n2 c0,I ho, .slice (some ⟨yb,yo,none⟩) 2 d0] 67);go_enter Tryz.func86,Tryz.ntmps86;go_wp2_with (first
  |((with_reducible refine dN 67 ?_);go_must (refine aT rfl _ _ rfl w.heap.size rfl #[I ep, .slice A0 n0 a,I lp, .slice R0 n1 r,I st, .slice C0 n2 c0,I ho, .slice (some ⟨yb,yo,none⟩) 2 d0] HV.out.iY _ Tryz.underlying67 rfl (by kernel_rfl) ?_))
  |((with_reducible refine iJ 206 ?_);refine di rfl 206 rfl #[I ep, .slice A0 n0 a,I lp, .slice R0 n1 r,I st, .slice C0 n2 c0,I ho, .slice (some ⟨yb,yo,none⟩) 2 d0, .slice none 0 0,I 1] (by kernel_rfl) ?_))
 have HK:Hid (qF w [I ep, .slice A0 n0 a,I lp, .slice R0 n1 r,I st, .slice C0 n2 c0,I ho, .slice (some ⟨yb,yo,none⟩) 2 d0] 1 none 0 0 [] ((w.alloc (.cells #[I ep, .slice A0 n0 a,I lp, .slice R0 n1 r,I st, .slice C0 n2 c0,I ho, .slice (some ⟨yb,yo,none⟩) 2 d0] 67)).alloc (.cells #[I ep, .slice A0 n0 a,I lp, .slice R0 n1 r,I st, .slice C0 n2 c0,I ho, .slice (some ⟨yb,yo,none⟩) 2 d0, .slice none 0 0,I 1] 206))):=ae ⟨ah (ag w _) (ag _ _),HV.out.below (ag _ _),by have:=AV.new (w.alloc (.cells #[I ep, .slice A0 n0 a,I lp, .slice R0 n1 r,I st, .slice C0 n2 c0,I ho, .slice (some ⟨yb,yo,none⟩) 2 d0] 67)) #[I ep, .slice A0 n0 a,I lp, .slice R0 n1 r,I st, .slice C0 n2 c0,I ho, .slice (some ⟨yb,yo,none⟩) 2 d0, .slice none 0 0,I 1] 206;rw [oL] at this;exact this,World.ownsRow_nil _ _ _ _,rfl⟩;clear HV;generalize (w.alloc (.cells #[I ep, .slice A0 n0 a,I lp, .slice R0 n1 r,I st, .slice C0 n2 c0,I ho, .slice (some ⟨yb,yo,none⟩) 2 d0] 67)).alloc (.cells #[I ep, .slice A0 n0 a,I lp, .slice R0 n1 r,I st, .slice C0 n2 c0,I ho, .slice (some ⟨yb,yo,none⟩) 2 d0, .slice none 0 0,I 1] 206)=W0 at HK ⊢;have v0:W0.cell? ⟨w.heap.size,0,none⟩=some (I ep):=HK.out.z.cell 0;have v1:W0.cell? ⟨w.heap.size,1,none⟩=some (.slice A0 n0 a):=HK.out.z.cell 1;have v2:W0.cell? ⟨w.heap.size,2,none⟩=some (I lp):=HK.out.z.cell 2;have v3:W0.cell? ⟨w.heap.size,3,none⟩=some (.slice R0 n1 r):=HK.out.z.cell 3;have v7:W0.cell? ⟨w.heap.size,7,none⟩=some (.slice (some ⟨yb,yo,none⟩) 2 d0):=HK.out.z.cell 7;go_wp2_with fail;refine (qE.out _ HK.out.lo).mono ?_;rintro e w1 ⟨rfl,hb1⟩;have iF:=ae (HK.out.grow hb1);clear hb1 HK qE v0 v1 v2 v3 v7;have c9:w1.cell? ⟨w.heap.size+1,9,none⟩=some (I 1):=iF.out.k.cell 9;have f9:w1.frozen? ⟨w.heap.size+1,9,none⟩=false:=iF.out.k.dZ 9;have iO:=ae (iF.out.YL rfl dd);have J6:Int.tmod dd 7=dd%7:=Int.tmod_eq_emod_of_nonneg hcd.1;obtain ⟨p,hp⟩:∃p,dd%7=p:=⟨_,rfl⟩;rw [hp] at J6;have HP:=ae hp;have HZQ:=ae WG;clear hp WG;go_upto_if 38 with fail
 go_cut [6] (fun d wx=>d=I dd∧qF w [I ep, .slice A0 n0 a,I lp, .slice R0 n1 r,I st, .slice C0 n2 c0,I ho, .slice (some ⟨yb,yo,none⟩) 2 d0] q none 0 0 [] wx)
 case first=>
  by_cases h7:p=0
  ·subst h7;have hqq:q=dd:=by rw [HZQ.out];unfold IP;rw [if_pos HP.out]
   have HQE:=ae hqq;clear hqq;go_wp2_with fail;go_meet;exact ⟨rfl,by rw [HQE.out];exact iO.out⟩
  ·have hqq:q=7*dd:=by rw [HZQ.out];unfold IP;rw [if_neg (by rw [HP.out];exact h7)]
   have HQE:=ae hqq;clear hqq;have hpb:(p !=0)=true:=by simpa using h7
   have w0:IntKind.i64.wrap (dd*7)=dd*7:=by rw [IntKind.wrap_i64];omega
   clear c9 f9;generalize w1.setCell ⟨w.heap.size+1,9,none⟩ (I dd)=W2 at iO ⊢;have c9:W2.cell? ⟨w.heap.size+1,9,none⟩=some (I dd):=iO.out.k.cell 9;have f9:W2.frozen? ⟨w.heap.size+1,9,none⟩=false:=iO.out.k.dZ 9;have mV:=ae (iO.out.YL rfl (dd*7));go_wp2_with fail;go_meet;exact ⟨rfl,by rw [HQE.out,Int.mul_comm];exact mV.out⟩
 case rest=>
  obtain ⟨rfl,hk⟩:=hcut;have HK:=ae hk;clear hk iO iF c9 f9 J6 HP HZQ;have v0:wc.cell? ⟨w.heap.size,0,none⟩=some (I ep):=HK.out.z.cell 0;go_wp2_with fail;clear v0
  go_loopw [8,9] (fun b y wr=>∃(f:Nat) (bg yy:Int) (A:Option Addr) (n cp:Nat) (ts:List Tr),b=I bg∧y=I yy∧1≤yy∧ep+12*(yy - 1)≤bg∧0≤bg∧bg≤ep+q+100∧(n:Int)≤2*(yy - 1)∧(ep+q - bg).toNat≤f∧vI cal r0 r1 (ep+q) f bg yy ts=res∧qF w [I ep, .slice A0 n0 a,I lp, .slice R0 n1 r,I st, .slice C0 n2 c0,I ho, .slice (some ⟨yb,yo,none⟩) 2 d0] q A n cp ts wr) (fun b _ _=>((ep+q) - intOf b).toNat)
  case atStart=>exact ⟨1400,ep,1,none,0,0,[],rfl,rfl,by omega,by omega,by omega,by omega,by omega,by omega,jD.out,HK.out⟩
  case round=>
   clear HK;obtain ⟨f,bg,yy,A,n,cp,ts,rfl,rfl,hy1,hy2,hb0,hbs,hn2,hf,hyf,hys⟩:=hrel;have HF:=ae hyf;have HW:=ae hys;have X6:=ae hf;clear hyf hys hf;have v0:wr.cell? ⟨w.heap.size,0,none⟩=some (I ep):=HW.out.z.cell 0;have c9:wr.cell? ⟨w.heap.size+1,9,none⟩=some (I q):=HW.out.k.cell 9;by_cases hlt:bg<ep+q
   ·go_wp2_with fail;go_quiet (fail);obtain ⟨W7,SY⟩:∃W,wr.drewN nq=W:=⟨_,rfl⟩;rw [SY];have xU:Hid (qF w [I ep, .slice A0 n0 a,I lp, .slice R0 n1 r,I st, .slice C0 n2 c0,I ho, .slice (some ⟨yb,yo,none⟩) 2 d0] q A n cp ts W7):=ae (by rw [←SY];exact HW.out.drewN nq);clear SY v0 c9 HW;have v0:W7.cell? ⟨w.heap.size,0,none⟩=some (I ep):=xU.out.z.cell 0;have v1:W7.cell? ⟨w.heap.size,1,none⟩=some (.slice A0 n0 a):=xU.out.z.cell 1;have v2:W7.cell? ⟨w.heap.size,2,none⟩=some (I lp):=xU.out.z.cell 2;have v3:W7.cell? ⟨w.heap.size,3,none⟩=some (.slice R0 n1 r):=xU.out.z.cell 3;have v7:W7.cell? ⟨w.heap.size,7,none⟩=some (.slice (some ⟨yb,yo,none⟩) 2 d0):=xU.out.z.cell 7;have dC:=ae (HY.out W7 xU.out.lo);have yE:W7.cell? ⟨yb,yo,none⟩=some (I r0.month):=dC.out.a 0 _ rfl;have yG:W7.cell? ⟨yb,yo+1,none⟩=some (I r0.df):=dC.out.a 1 _ rfl;have yH:W7.cell? ⟨yb,yo+2,none⟩=some (I r0.dh):=dC.out.a 2 _ rfl;have yI:W7.cell? ⟨yb,yo+3,none⟩=some (I r0.minute):=dC.out.a 3 _ rfl;have yJ:W7.cell? ⟨yb,yo+4,none⟩=some (I r0.off):=dC.out.a 4 _ rfl;have yK:W7.cell? ⟨yb,yo+5,none⟩=some (I r1.month):=dC.out.b 0 _ rfl;have yL:W7.cell? ⟨yb,yo+6,none⟩=some (I r1.df):=dC.out.b 1 _ rfl;have yM:W7.cell? ⟨yb,yo+7,none⟩=some (I r1.dh):=dC.out.b 2 _ rfl;have y13:W7.cell? ⟨yb,yo+8,none⟩=some (I r1.minute):=dC.out.b 3 _ rfl;have yN:W7.cell? ⟨yb,yo+9,none⟩=some (I r1.off):=dC.out.b 4 _ rfl;go_wp2_with fail;refine wp_loop_rounds 3 ?_;rw [rounds_succ];go_upto_block 3 with fail;obtain ⟨wV,PR⟩:∃t,vH cal bg yy r0 r1 ts=t:=⟨_,rfl⟩;have rM:=fun (W:World) hb=>VA.out bg yy r0 W Zm.out (by omega) (by omega) hb;have TB:=G5 cal bg yy r0 HC.out Zm.out (by omega);have Wq:=uF cal bg yy r0 HC.out Zm.out (by omega);obtain ⟨pr0,LC⟩:∃pr,Va cal bg yy r0=pr:=⟨_,rfl⟩;rw [LC] at rM TB;have hps0:=PR;unfold vH at hps0;rw [LC] at hps0;obtain ⟨fd0,fb0⟩:=pr0;simp only at rM TB hps0;have HYD0:=ae rM;have HFD0:Hid (fb0=true→ -1≤fd0∧fd0≤bg+30):=ae (fun h=>by
     have h2:=TB.2 (by rw [←TB.1];exact h);omega)
    have G9:Hid (fb0=true→wV=ts++ [⟨fd0*1440+r0.minute - r1.off,r0.off⟩]):=ae (fun h=>by rw [←hps0,if_pos h]);have Vj:Hid (fb0=false→wV=ts):=ae (fun h=>by rw [←hps0,if_neg (by rw [h];decide)]);have HTS0:=ae PR;clear PR rM TB Wq LC hps0
    go_cut [10] (fun _ wx=>∃(A':Option Addr) (n' cp':Nat),n'≤n+1∧qF w [I ep, .slice A0 n0 a,I lp, .slice R0 n1 r,I st, .slice C0 n2 c0,I ho, .slice (some ⟨yb,yo,none⟩) 2 d0] q A' n' cp' wV wx)
    case first=>
     go_upto_region 15 with (first
      |((with_reducible refine bC 129 ?_);refine aH rfl 129 rfl #[I 0,I 0,I 0,I 0,I 0] (by kernel_rfl) ?_)
      |((with_reducible refine cZ 129 ?_);go_must (refine wpList_store_row rfl _ _ _ rfl W7.heap.size #[I r0.month,I r0.df,I r0.dh,I r0.minute,I r0.off] rfl rfl 129 #[I 0,I 0,I 0,I 0,I 0] (heap_alloc_last W7 _) (by kernel_rfl) rfl (by simp [Value.oneCell']) ?_)))
     have hb2:Below W7.heap.size W7 ((W7.alloc (.cells #[I 0,I 0,I 0,I 0,I 0] 129)).setRow W7.heap.size #[I r0.month,I r0.df,I r0.dh,I r0.minute,I r0.off]):=aB (ag W7 _) (Nat.le_refl _) _;have HR2:=ae (AV.oZ (AV.new W7 #[I 0,I 0,I 0,I 0,I 0] 129) #[I r0.month,I r0.df,I r0.dh,I r0.minute,I r0.off]);have Bf:Hid (some W7.heap.size≠(Value.slice A n cp).ownBlock):=ae (uk (fun g hg=>(World.ownsRow.lt xU.out.own g hg).2));have Rk:Hid (W7.heap.size≠w.heap.size+1):=ae (by have:=xU.out.k.lt;omega);have iO:=ae (xU.out.grow hb2);clear hb2 xU;clear v0 v1 v2 v3 v7;clear dC yE yG yH yI yJ yK yL yM y13 yN;generalize (W7.alloc (.cells #[I 0,I 0,I 0,I 0,I 0] 129)).setRow W7.heap.size #[I r0.month,I r0.df,I r0.dh,I r0.minute,I r0.off]=W2 at iO HR2 ⊢;generalize W7.heap.size=rb at HR2 Bf Rk ⊢;have v0:W2.cell? ⟨w.heap.size,0,none⟩=some (I ep):=iO.out.z.cell 0;have v1:W2.cell? ⟨w.heap.size,1,none⟩=some (.slice A0 n0 a):=iO.out.z.cell 1;have v2:W2.cell? ⟨w.heap.size,2,none⟩=some (I lp):=iO.out.z.cell 2;have v3:W2.cell? ⟨w.heap.size,3,none⟩=some (.slice R0 n1 r):=iO.out.z.cell 3;have v7:W2.cell? ⟨w.heap.size,7,none⟩=some (.slice (some ⟨yb,yo,none⟩) 2 d0):=iO.out.z.cell 7;clear v7;have u0:W2.cell? ⟨rb,0,none⟩=some (I r0.month):=HR2.out.cell 0;have u1:W2.cell? ⟨rb,1,none⟩=some (I r0.df):=HR2.out.cell 1;have u2:W2.cell? ⟨rb,2,none⟩=some (I r0.dh):=HR2.out.cell 2;have u3:W2.cell? ⟨rb,3,none⟩=some (I r0.minute):=HR2.out.cell 3;have u4:W2.cell? ⟨rb,4,none⟩=some (I r0.off):=HR2.out.cell 4;go_wp2_with fail;refine (HYD0.out W2 iO.out.lo).mono ?_;rintro e w3 ⟨rfl,hb3⟩;have mV:=ae (iO.out.grow hb3);have HR3:=ae (HR2.out.below hb3);clear hb3 iO HR2 v0 v1 v2 v3 u0 u1 u2 u3 u4;cases fb0 with
     |false=>
      have HEF:=ae (Vj.out rfl);clear Vj G9;go_wp2_with fail;go_meet;exact ⟨A,n,cp,by omega,by rw [HEF.out];exact mV.out⟩
     |true=>
      have HE0T:=ae (G9.out rfl);clear G9 Vj;have hfd:=HFD0.out rfl;go_upto_region 17 with fail;have hS0:JZ rb w.heap.size yb (yo+9) r0.minute r0.off r1.off (.slice (some ⟨yb,yo,none⟩) 2 d0) w3.drew:=⟨HR3.out.drew.cell 3,HR3.out.drew.cell 4,mV.out.drew.z.cell 7,(HY.out _ mV.out.drew.lo).b 4 _ rfl⟩;have jF:=ae mV.out.drew;have Bd:=ae HR3.out.drew;clear mV HR3;refine wp_region_held_drew (S:=JZ rb w.heap.size yb (yo+9) r0.minute r0.off r1.off (.slice (some ⟨yb,yo,none⟩) 2 d0)) (by kernel_rfl) hS0 (fun _=>?_);generalize w3.drew=V at hS0 jF Bd ⊢;have wk0:IntKind.i64.wrap 1=1:=by rw [IntKind.wrap_i64];omega
      have w1:IntKind.i64.wrap (fd0*1440)=fd0*1440:=by rw [IntKind.wrap_i64];omega
      have w2:IntKind.i64.wrap (fd0*1440+r0.minute)=fd0*1440+r0.minute:=by rw [IntKind.wrap_i64];omega
      have w3:IntKind.i64.wrap (fd0*1440+r0.minute - r1.off)=fd0*1440+r0.minute - r1.off:=by rw [IntKind.wrap_i64];omega
      refine aJ 0 (.pointer (some ⟨w.heap.size+1,0,none⟩)) 79 hS0 (fun w' hSw=>?_) ?_
      ·clear hSw
       first|(go_simp;done)|(go_simp;with_reducible rfl)
      refine ax ?_;refine aJ 1 (.pointer (some ⟨w.heap.size+1,0,none⟩)) 80 hS0 (fun w' hSw=>?_) ?_
      ·clear hSw
       first|(go_simp;done)|(go_simp;with_reducible rfl)
      refine ax ?_;refine aJ 2 (.pointer (some ⟨w.heap.size+1,0,none⟩)) 81 hS0 (fun w' hSw=>?_) ?_
      ·clear hSw
       first|(go_simp;done)|(go_simp;with_reducible rfl)
      refine ax ?_;refine aJ 3 (.pointer (some ⟨w.heap.size+1,8,none⟩)) 82 hS0 (fun w' hSw=>?_) ?_
      ·clear hSw
       first|(go_simp;done)|(go_simp;with_reducible rfl)
      refine ax ?_;refine aJ 5 (I fd0) 84 hS0 (fun w' hSw=>?_) ?_
      ·clear hSw
       first|(go_simp;done)|(go_simp;with_reducible rfl)
      refine ax ?_;refine aJ 6 (I (fd0*1440)) 85 hS0 (fun w' hSw=>?_) ?_
      ·clear hSw
       first|(go_simp;done)|(go_simp;with_reducible rfl)
      refine ax ?_;refine aJ 7 (.pointer (some ⟨rb,3,none⟩)) 86 hS0 (fun w' hSw=>?_) ?_
      ·clear hSw
       first|(go_simp;done)|(go_simp;with_reducible rfl)
      refine ax ?_;refine aJ 8 (I r0.minute) 87 hS0 (fun w' hSw=>?_) ?_
      ·obtain ⟨s0,s1,s2,s3⟩:=hSw
       first|(go_simp;done)|(go_simp;with_reducible rfl)
      refine ax ?_;refine aJ 9 (I (fd0*1440+r0.minute)) 88 hS0 (fun w' hSw=>?_) ?_
      ·clear hSw
       first|(go_simp;done)|(go_simp;with_reducible rfl)
      refine ax ?_;refine aJ 10 (.pointer (some ⟨w.heap.size,7,none⟩)) 89 hS0 (fun w' hSw=>?_) ?_
      ·clear hSw
       first|(go_simp;done)|(go_simp;with_reducible rfl)
      refine ax ?_;refine aJ 11 (.slice (some ⟨yb,yo,none⟩) 2 d0) 90 hS0 (fun w' hSw=>?_) ?_
      ·obtain ⟨s0,s1,s2,s3⟩:=hSw
       first|(go_simp;done)|(go_simp;with_reducible rfl)
      refine ax ?_;refine aJ 12 (I 0) 91 hS0 (fun w' hSw=>?_) ?_
      ·clear hSw
       first|(go_simp;done)|(go_simp;with_reducible rfl)
      refine ax ?_;refine aJ 13 (I 1) 92 hS0 (fun w' hSw=>?_) ?_
      ·clear hSw
       first|(go_simp;done)|(go_simp;with_reducible rfl)
      refine ax ?_;refine aJ 14 (.pointer (some ⟨yb,yo+5,none⟩)) 93 hS0 (fun w' hSw=>?_) ?_
      ·clear hSw
       first|(go_simp;done)|(go_simp;with_reducible rfl)
      refine ax ?_;refine aJ 15 (.pointer (some ⟨yb,yo+9,none⟩)) 94 hS0 (fun w' hSw=>?_) ?_
      ·clear hSw
       first|(go_simp;done)|(go_simp;with_reducible rfl)
      refine ax ?_;refine aJ 16 (I r1.off) 95 hS0 (fun w' hSw=>?_) ?_
      ·obtain ⟨s0,s1,s2,s3⟩:=hSw
       first|(go_simp;done)|(go_simp;with_reducible rfl)
      refine ax ?_;refine aJ 17 (I (fd0*1440+r0.minute - r1.off)) 96 hS0 (fun w' hSw=>?_) ?_
      ·clear hSw
       first|(go_simp;done)|(go_simp;with_reducible rfl)
      refine ax ?_;refine aJ 18 (.pointer (some ⟨rb,4,none⟩)) 97 hS0 (fun w' hSw=>?_) ?_
      ·clear hSw
       first|(go_simp;done)|(go_simp;with_reducible rfl)
      refine ax ?_;refine aJ 19 (I r0.off) 98 hS0 (fun w' hSw=>?_) ?_
      ·obtain ⟨s0,s1,s2,s3⟩:=hSw
       first|(go_simp;done)|(go_simp;with_reducible rfl)
      refine ax ?_;refine gI 20 ( .agg #[I (fd0*1440+r0.minute - r1.off),I r0.off]) 99 rfl rfl hS0 (bV rfl 127 _ rfl _ (by kernel_rfl)) ?_;refine ax ?_;refine kW 4 21 (fun K hK=>?_) (fun K hK=>?_)
      ·have c8:V.cell? ⟨w.heap.size+1,8,none⟩=some (.slice A n cp):=jF.out.k.cell 8;go_simp;clear c8;refine hK.out _ _ hS0 (fun _=>?_);clear hK K;refine ax ?_;refine aW 21 (fun K hK=>?_);go_simp;have hS5:JZ rb w.heap.size yb (yo+9) r0.minute r0.off r1.off (.slice (some ⟨yb,yo,none⟩) 2 d0) (V.alloc (.cells #[I (fd0*1440+r0.minute - r1.off),I r0.off] 127)):=⟨(Bd.out.below (ag _ _)).cell 3,(Bd.out.below (ag _ _)).cell 4,(jF.out.grow (ag _ _)).z.cell 7,(HY.out _ (jF.out.grow (ag _ _)).lo).b 4 _ rfl⟩;refine hK.out _ _ hS5 (fun _=>?_);clear hK K;refine ax ?_;refine aW 22 (fun K hK=>?_);have hvl:=jF.out.k.lt;refine step_append_lies _ (by rfl) _ _ _ (by rfl) (w.heap.size+2) 127 i0 (.agg #[I 0,I 0]) 2 16 Tryz.underlying64 HI.out wM.out nY.out lC.out rfl (by omega) (.slice A n cp) n (ts.flatMap Tr.cells) (by rfl) (own_below jF.out.own (ag _ _)) ⟨V.heap.size,0,none⟩ 1 1 [I (fd0*1440+r0.minute - r1.off),I r0.off] (by rfl) rfl (dA V _ _ _ rfl) (wC ⟨fd0*1440+r0.minute - r1.off,r0.off⟩) (by omega) (by unfold maxLen;omega) (by omega) (by simp;omega) _ rfl ?_;intro gg cap w6 hown6 hgrow6 _ _;have hxk:=ae (qF.add (x:=⟨fd0*1440+r0.minute - r1.off,r0.off⟩) jF.out rfl rfl hown6 hgrow6);have Dz:Hid (AV rb 129 #[I r0.month,I r0.df,I r0.dh,I r0.minute,I r0.off] w6):=ae ⟨(hgrow6.block _ (by have:=Bd.out.lt;simp;omega) Bf.out).trans ((Below.heap_alloc _ _ _ Bd.out.lt).trans Bd.out.var)⟩;have hk6:Hid (AV (w.heap.size+1) 206 ([I ep, .slice A0 n0 a,I lp, .slice R0 n1 r,I st, .slice C0 n2 c0,I ho, .slice (some ⟨yb,yo,none⟩) 2 d0]++ [Value.slice A n cp,I q]).toArray w6):=ae ⟨(hgrow6.block _ (by have:=jF.out.k.lt;simp;omega) (eU jF.out.own _ (by omega))).trans ((Below.heap_alloc _ _ _ jF.out.k.lt).trans jF.out.k.var)⟩;have EP:Hid (AV w.heap.size 67 #[I ep, .slice A0 n0 a,I lp, .slice R0 n1 r,I st, .slice C0 n2 c0,I ho, .slice (some ⟨yb,yo,none⟩) 2 d0] w6):=ae ⟨(hgrow6.block _ (by have:=jF.out.z.lt;simp;omega) (eU jF.out.own _ (by omega))).trans ((Below.heap_alloc _ _ _ jF.out.z.lt).trans jF.out.z.var)⟩;have LG:Hid (w6.cell? ⟨yb,yo+9,none⟩=some (I r1.off)):=ae (by
        have hb6:Below w.heap.size w w6:=bG (ah jF.out.lo (ag _ _)) (bf (own_below jF.out.own (ag _ _)) (by omega)) (ah jF.out.lo (ag _ _)).size hgrow6;exact (HY.out w6 hb6).b 4 _ rfl)
       clear hown6 hgrow6;have hS6:JZ rb w.heap.size yb (yo+9) r0.minute r0.off r1.off (.slice (some ⟨yb,yo,none⟩) 2 d0) w6:=⟨Dz.out.cell 3,Dz.out.cell 4,EP.out.cell 7,LG.out⟩;refine hK.out _ _ hS6 (fun _=>?_);clear hK K;try simp only [Act.put,List.setIfInBounds_toArray]
       refine aJ 23 (.pointer (some ⟨w.heap.size+1,0,none⟩)) 102 hS6 (fun w' hSw=>?_) ?_
       ·clear hSw
        first|(go_simp;done)|(go_simp;with_reducible rfl)
       try simp only [Act.put]
       refine aJ 24 (.pointer (some ⟨w.heap.size+1,8,none⟩)) 103 hS6 (fun w' hSw=>?_) ?_
       ·clear hSw
        first|(go_simp;done)|(go_simp;with_reducible rfl)
       try simp only [Act.put]
       refine aW 25 (fun K hK=>?_);have c8:=hk6.out.cell 8;have f8:=hk6.out.dZ 8;go_simp;have hS7:JZ rb w.heap.size yb (yo+9) r0.minute r0.off r1.off (.slice (some ⟨yb,yo,none⟩) 2 d0) (w6.setCell ⟨w.heap.size+1,8,none⟩ (.slice (some ⟨gg,0,none⟩) (n+1) cap)):=⟨(Dz.out.far Rk.out 8 _).cell 3,(Dz.out.far Rk.out 8 _).cell 4,hxk.out.z.cell 7,(HY.out _ hxk.out.lo).b 4 _ rfl⟩;refine hK.out _ _ hS7 (fun _=>?_);clear hK K;refine wpAnyH_done (by kernel_rfl) ?_ _;go_wp2_with fail;go_meet;exact ⟨some ⟨gg,0,none⟩,n+1,cap,by omega,by rw [show wV=ts++ [⟨fd0*1440+r0.minute - r1.off,r0.off⟩] from HE0T.out];exact hxk.out⟩
      ·go_simp;have hS5:JZ rb w.heap.size yb (yo+9) r0.minute r0.off r1.off (.slice (some ⟨yb,yo,none⟩) 2 d0) (V.alloc (.cells #[I (fd0*1440+r0.minute - r1.off),I r0.off] 127)):=⟨(Bd.out.below (ag _ _)).cell 3,(Bd.out.below (ag _ _)).cell 4,(jF.out.grow (ag _ _)).z.cell 7,(HY.out _ (jF.out.grow (ag _ _)).lo).b 4 _ rfl⟩;refine hK.out _ _ hS5 (fun _=>?_);clear hK K;refine ax ?_;refine aW 4 (fun K hK=>?_);have c8:(V.alloc (.cells #[I (fd0*1440+r0.minute - r1.off),I r0.off] 127)).cell? ⟨w.heap.size+1,8,none⟩=some (.slice A n cp):=(jF.out.grow (ag _ _)).k.cell 8;go_simp;clear c8;refine hK.out _ _ hS5 (fun _=>?_);clear hK K;refine ax ?_;refine aW 22 (fun K hK=>?_);have hvl:=jF.out.k.lt;refine step_append_lies _ (by rfl) _ _ _ (by rfl) (w.heap.size+2) 127 i0 (.agg #[I 0,I 0]) 2 16 Tryz.underlying64 HI.out wM.out nY.out lC.out rfl (by omega) (.slice A n cp) n (ts.flatMap Tr.cells) (by rfl) (own_below jF.out.own (ag _ _)) ⟨V.heap.size,0,none⟩ 1 1 [I (fd0*1440+r0.minute - r1.off),I r0.off] (by rfl) rfl (dA V _ _ _ rfl) (wC ⟨fd0*1440+r0.minute - r1.off,r0.off⟩) (by omega) (by unfold maxLen;omega) (by omega) (by simp;omega) _ rfl ?_;intro gg cap w6 hown6 hgrow6 _ _;have hxk:=ae (qF.add (x:=⟨fd0*1440+r0.minute - r1.off,r0.off⟩) jF.out rfl rfl hown6 hgrow6);have Dz:Hid (AV rb 129 #[I r0.month,I r0.df,I r0.dh,I r0.minute,I r0.off] w6):=ae ⟨(hgrow6.block _ (by have:=Bd.out.lt;simp;omega) Bf.out).trans ((Below.heap_alloc _ _ _ Bd.out.lt).trans Bd.out.var)⟩;have hk6:Hid (AV (w.heap.size+1) 206 ([I ep, .slice A0 n0 a,I lp, .slice R0 n1 r,I st, .slice C0 n2 c0,I ho, .slice (some ⟨yb,yo,none⟩) 2 d0]++ [Value.slice A n cp,I q]).toArray w6):=ae ⟨(hgrow6.block _ (by have:=jF.out.k.lt;simp;omega) (eU jF.out.own _ (by omega))).trans ((Below.heap_alloc _ _ _ jF.out.k.lt).trans jF.out.k.var)⟩;have EP:Hid (AV w.heap.size 67 #[I ep, .slice A0 n0 a,I lp, .slice R0 n1 r,I st, .slice C0 n2 c0,I ho, .slice (some ⟨yb,yo,none⟩) 2 d0] w6):=ae ⟨(hgrow6.block _ (by have:=jF.out.z.lt;simp;omega) (eU jF.out.own _ (by omega))).trans ((Below.heap_alloc _ _ _ jF.out.z.lt).trans jF.out.z.var)⟩;have LG:Hid (w6.cell? ⟨yb,yo+9,none⟩=some (I r1.off)):=ae (by
        have hb6:Below w.heap.size w w6:=bG (ah jF.out.lo (ag _ _)) (bf (own_below jF.out.own (ag _ _)) (by omega)) (ah jF.out.lo (ag _ _)).size hgrow6;exact (HY.out w6 hb6).b 4 _ rfl)
       clear hown6 hgrow6;have hS6:JZ rb w.heap.size yb (yo+9) r0.minute r0.off r1.off (.slice (some ⟨yb,yo,none⟩) 2 d0) w6:=⟨Dz.out.cell 3,Dz.out.cell 4,EP.out.cell 7,LG.out⟩;refine hK.out _ _ hS6 (fun _=>?_);clear hK K;try simp only [Act.put,List.setIfInBounds_toArray]
       refine aJ 23 (.pointer (some ⟨w.heap.size+1,0,none⟩)) 102 hS6 (fun w' hSw=>?_) ?_
       ·clear hSw
        first|(go_simp;done)|(go_simp;with_reducible rfl)
       try simp only [Act.put]
       refine aJ 24 (.pointer (some ⟨w.heap.size+1,8,none⟩)) 103 hS6 (fun w' hSw=>?_) ?_
       ·clear hSw
        first|(go_simp;done)|(go_simp;with_reducible rfl)
       try simp only [Act.put]
       refine aW 25 (fun K hK=>?_);have c8:=hk6.out.cell 8;have f8:=hk6.out.dZ 8;go_simp;have hS7:JZ rb w.heap.size yb (yo+9) r0.minute r0.off r1.off (.slice (some ⟨yb,yo,none⟩) 2 d0) (w6.setCell ⟨w.heap.size+1,8,none⟩ (.slice (some ⟨gg,0,none⟩) (n+1) cap)):=⟨(Dz.out.far Rk.out 8 _).cell 3,(Dz.out.far Rk.out 8 _).cell 4,hxk.out.z.cell 7,(HY.out _ hxk.out.lo).b 4 _ rfl⟩;refine hK.out _ _ hS7 (fun _=>?_);clear hK K;refine wpAnyH_done (by kernel_rfl) ?_ _;go_wp2_with fail;go_meet;exact ⟨some ⟨gg,0,none⟩,n+1,cap,by omega,by rw [show wV=ts++ [⟨fd0*1440+r0.minute - r1.off,r0.off⟩] from HE0T.out];exact hxk.out⟩
    case rest=>
     obtain ⟨A',n',cp',hnn,hk1⟩:=hcut;have iF:=ae hk1;have hnb:n'≤600:=by omega
     have hnc:(n':Int)≤2*(yy - 1)+1:=by omega
     clear hk1 hnn xU;clear HYD0 HFD0 G9 Vj;obtain ⟨A,rfl⟩:∃A,A=A':=⟨_,rfl⟩;obtain ⟨n,rfl⟩:∃n,n=n':=⟨_,rfl⟩;obtain ⟨cp,rfl⟩:∃c,c=cp':=⟨_,rfl⟩;clear v0 v1 v2 v3 v7 dC yE yG yH yI yJ yK yL yM y13 yN;have v0:wc.cell? ⟨w.heap.size,0,none⟩=some (I ep):=iF.out.z.cell 0;have v1:wc.cell? ⟨w.heap.size,1,none⟩=some (.slice A0 n0 a):=iF.out.z.cell 1;have v2:wc.cell? ⟨w.heap.size,2,none⟩=some (I lp):=iF.out.z.cell 2;have v3:wc.cell? ⟨w.heap.size,3,none⟩=some (.slice R0 n1 r):=iF.out.z.cell 3;have v7:wc.cell? ⟨w.heap.size,7,none⟩=some (.slice (some ⟨yb,yo,none⟩) 2 d0):=iF.out.z.cell 7;have dC:=ae (HY.out wc iF.out.lo);have yE:wc.cell? ⟨yb,yo,none⟩=some (I r0.month):=dC.out.a 0 _ rfl;have yG:wc.cell? ⟨yb,yo+1,none⟩=some (I r0.df):=dC.out.a 1 _ rfl;have yH:wc.cell? ⟨yb,yo+2,none⟩=some (I r0.dh):=dC.out.a 2 _ rfl;have yI:wc.cell? ⟨yb,yo+3,none⟩=some (I r0.minute):=dC.out.a 3 _ rfl;have yJ:wc.cell? ⟨yb,yo+4,none⟩=some (I r0.off):=dC.out.a 4 _ rfl;have yK:wc.cell? ⟨yb,yo+5,none⟩=some (I r1.month):=dC.out.b 0 _ rfl;have yL:wc.cell? ⟨yb,yo+6,none⟩=some (I r1.df):=dC.out.b 1 _ rfl;have yM:wc.cell? ⟨yb,yo+7,none⟩=some (I r1.dh):=dC.out.b 2 _ rfl;have y13:wc.cell? ⟨yb,yo+8,none⟩=some (I r1.minute):=dC.out.b 3 _ rfl;have yN:wc.cell? ⟨yb,yo+9,none⟩=some (I r1.off):=dC.out.b 4 _ rfl;go_wp2_with fail;rw [rounds_succ];go_upto_block 3 with fail;obtain ⟨DF,Gi⟩:∃t,vH cal bg yy r1 r0 wV=t:=⟨_,rfl⟩;have lH:=fun (W:World) hb=>VA.out bg yy r1 W Zo.out (by omega) (by omega) hb;have TC:=G5 cal bg yy r1 HC.out Zo.out (by omega);have Lp:=uF cal bg yy r1 HC.out Zo.out (by omega);obtain ⟨pr1,BR⟩:∃pr,Va cal bg yy r1=pr:=⟨_,rfl⟩;rw [BR] at lH TC;have hps1:=Gi;unfold vH at hps1;rw [BR] at hps1;obtain ⟨fd1,U1⟩:=pr1;simp only at lH TC hps1;have HYD1:=ae lH;have HFD1:Hid (U1=true→ -1≤fd1∧fd1≤bg+30):=ae (fun h=>by
      have h2:=TC.2 (by rw [←TC.1];exact h);omega)
     have FB:Hid (U1=true→DF=wV++ [⟨fd1*1440+r1.minute - r0.off,r1.off⟩]):=ae (fun h=>by rw [←hps1,if_pos h]);have Vk:Hid (U1=false→DF=wV):=ae (fun h=>by rw [←hps1,if_neg (by rw [h];decide)]);have HTS1:=ae Gi;clear Gi lH TC Lp BR hps1
     go_cut [10] (fun _ wx=>∃(A':Option Addr) (n' cp':Nat),n'≤n+1∧qF w [I ep, .slice A0 n0 a,I lp, .slice R0 n1 r,I st, .slice C0 n2 c0,I ho, .slice (some ⟨yb,yo,none⟩) 2 d0] q A' n' cp' DF wx)
     case first=>
      go_upto_region 15 with (first
       |((with_reducible refine bC 129 ?_);refine aH rfl 129 rfl #[I 0,I 0,I 0,I 0,I 0] (by kernel_rfl) ?_)
       |((with_reducible refine cZ 129 ?_);go_must (refine wpList_store_row rfl _ _ _ rfl wc.heap.size #[I r1.month,I r1.df,I r1.dh,I r1.minute,I r1.off] rfl rfl 129 #[I 0,I 0,I 0,I 0,I 0] (heap_alloc_last wc _) (by kernel_rfl) rfl (by simp [Value.oneCell']) ?_)))
      have hb2:Below wc.heap.size wc ((wc.alloc (.cells #[I 0,I 0,I 0,I 0,I 0] 129)).setRow wc.heap.size #[I r1.month,I r1.df,I r1.dh,I r1.minute,I r1.off]):=aB (ag wc _) (Nat.le_refl _) _;have HR2:=ae (AV.oZ (AV.new wc #[I 0,I 0,I 0,I 0,I 0] 129) #[I r1.month,I r1.df,I r1.dh,I r1.minute,I r1.off]);have Bf:Hid (some wc.heap.size≠(Value.slice A n cp).ownBlock):=ae (uk (fun g hg=>(World.ownsRow.lt iF.out.own g hg).2));have Rk:Hid (wc.heap.size≠w.heap.size+1):=ae (by have:=iF.out.k.lt;omega);have iO:=ae (iF.out.grow hb2);clear hb2 iF;clear v0 v1 v2 v3 v7;clear dC yE yG yH yI yJ yK yL yM y13 yN;generalize (wc.alloc (.cells #[I 0,I 0,I 0,I 0,I 0] 129)).setRow wc.heap.size #[I r1.month,I r1.df,I r1.dh,I r1.minute,I r1.off]=W2 at iO HR2 ⊢;generalize wc.heap.size=rb at HR2 Bf Rk ⊢;have v0:W2.cell? ⟨w.heap.size,0,none⟩=some (I ep):=iO.out.z.cell 0;have v1:W2.cell? ⟨w.heap.size,1,none⟩=some (.slice A0 n0 a):=iO.out.z.cell 1;have v2:W2.cell? ⟨w.heap.size,2,none⟩=some (I lp):=iO.out.z.cell 2;have v3:W2.cell? ⟨w.heap.size,3,none⟩=some (.slice R0 n1 r):=iO.out.z.cell 3;have v7:W2.cell? ⟨w.heap.size,7,none⟩=some (.slice (some ⟨yb,yo,none⟩) 2 d0):=iO.out.z.cell 7;clear v7;have u0:W2.cell? ⟨rb,0,none⟩=some (I r1.month):=HR2.out.cell 0;have u1:W2.cell? ⟨rb,1,none⟩=some (I r1.df):=HR2.out.cell 1;have u2:W2.cell? ⟨rb,2,none⟩=some (I r1.dh):=HR2.out.cell 2;have u3:W2.cell? ⟨rb,3,none⟩=some (I r1.minute):=HR2.out.cell 3;have u4:W2.cell? ⟨rb,4,none⟩=some (I r1.off):=HR2.out.cell 4;go_wp2_with fail;refine (HYD1.out W2 iO.out.lo).mono ?_;rintro e w3 ⟨rfl,hb3⟩;have mV:=ae (iO.out.grow hb3);have HR3:=ae (HR2.out.below hb3);clear hb3 iO HR2 v0 v1 v2 v3 u0 u1 u2 u3 u4;cases U1 with
      |false=>
       have HEF:=ae (Vk.out rfl);clear Vk FB;go_wp2_with fail;go_meet;exact ⟨A,n,cp,by omega,by rw [HEF.out];exact mV.out⟩
      |true=>
       have HE1T:=ae (FB.out rfl);clear FB Vk;have hfd:=HFD1.out rfl;go_upto_region 17 with fail;have hS0:JZ rb w.heap.size yb (yo+4) r1.minute r1.off r0.off (.slice (some ⟨yb,yo,none⟩) 2 d0) w3.drew:=⟨HR3.out.drew.cell 3,HR3.out.drew.cell 4,mV.out.drew.z.cell 7,(HY.out _ mV.out.drew.lo).a 4 _ rfl⟩;have HKB1:=ae mV.out.drew;have Be:=ae HR3.out.drew;clear mV HR3;refine wp_region_held_drew (S:=JZ rb w.heap.size yb (yo+4) r1.minute r1.off r0.off (.slice (some ⟨yb,yo,none⟩) 2 d0)) (by kernel_rfl) hS0 (fun _=>?_);generalize w3.drew=V at hS0 HKB1 Be ⊢;have wk0:IntKind.i64.wrap 0=0:=by rw [IntKind.wrap_i64];omega
       have w1:IntKind.i64.wrap (fd1*1440)=fd1*1440:=by rw [IntKind.wrap_i64];omega
       have w2:IntKind.i64.wrap (fd1*1440+r1.minute)=fd1*1440+r1.minute:=by rw [IntKind.wrap_i64];omega
       have w3:IntKind.i64.wrap (fd1*1440+r1.minute - r0.off)=fd1*1440+r1.minute - r0.off:=by rw [IntKind.wrap_i64];omega
       refine aJ 0 (.pointer (some ⟨w.heap.size+1,0,none⟩)) 79 hS0 (fun w' hSw=>?_) ?_
       ·clear hSw
        first|(go_simp;done)|(go_simp;with_reducible rfl)
       refine ax ?_;refine aJ 1 (.pointer (some ⟨w.heap.size+1,0,none⟩)) 80 hS0 (fun w' hSw=>?_) ?_
       ·clear hSw
        first|(go_simp;done)|(go_simp;with_reducible rfl)
       refine ax ?_;refine aJ 2 (.pointer (some ⟨w.heap.size+1,0,none⟩)) 81 hS0 (fun w' hSw=>?_) ?_
       ·clear hSw
        first|(go_simp;done)|(go_simp;with_reducible rfl)
       refine ax ?_;refine aJ 3 (.pointer (some ⟨w.heap.size+1,8,none⟩)) 82 hS0 (fun w' hSw=>?_) ?_
       ·clear hSw
        first|(go_simp;done)|(go_simp;with_reducible rfl)
       refine ax ?_;refine aJ 5 (I fd1) 84 hS0 (fun w' hSw=>?_) ?_
       ·clear hSw
        first|(go_simp;done)|(go_simp;with_reducible rfl)
       refine ax ?_;refine aJ 6 (I (fd1*1440)) 85 hS0 (fun w' hSw=>?_) ?_
       ·clear hSw
        first|(go_simp;done)|(go_simp;with_reducible rfl)
       refine ax ?_;refine aJ 7 (.pointer (some ⟨rb,3,none⟩)) 86 hS0 (fun w' hSw=>?_) ?_
       ·clear hSw
        first|(go_simp;done)|(go_simp;with_reducible rfl)
       refine ax ?_;refine aJ 8 (I r1.minute) 87 hS0 (fun w' hSw=>?_) ?_
       ·obtain ⟨s0,s1,s2,s3⟩:=hSw
        first|(go_simp;done)|(go_simp;with_reducible rfl)
       refine ax ?_;refine aJ 9 (I (fd1*1440+r1.minute)) 88 hS0 (fun w' hSw=>?_) ?_
       ·clear hSw
        first|(go_simp;done)|(go_simp;with_reducible rfl)
       refine ax ?_;refine aJ 10 (.pointer (some ⟨w.heap.size,7,none⟩)) 89 hS0 (fun w' hSw=>?_) ?_
       ·clear hSw
        first|(go_simp;done)|(go_simp;with_reducible rfl)
       refine ax ?_;refine aJ 11 (.slice (some ⟨yb,yo,none⟩) 2 d0) 90 hS0 (fun w' hSw=>?_) ?_
       ·obtain ⟨s0,s1,s2,s3⟩:=hSw
        first|(go_simp;done)|(go_simp;with_reducible rfl)
       refine ax ?_;refine aJ 12 (I 1) 91 hS0 (fun w' hSw=>?_) ?_
       ·clear hSw
        first|(go_simp;done)|(go_simp;with_reducible rfl)
       refine ax ?_;refine aJ 13 (I 0) 92 hS0 (fun w' hSw=>?_) ?_
       ·clear hSw
        first|(go_simp;done)|(go_simp;with_reducible rfl)
       refine ax ?_;refine aJ 14 (.pointer (some ⟨yb,yo,none⟩)) 93 hS0 (fun w' hSw=>?_) ?_
       ·clear hSw
        first|(go_simp;done)|(go_simp;with_reducible rfl)
       refine ax ?_;refine aJ 15 (.pointer (some ⟨yb,yo+4,none⟩)) 94 hS0 (fun w' hSw=>?_) ?_
       ·clear hSw
        first|(go_simp;done)|(go_simp;with_reducible rfl)
       refine ax ?_;refine aJ 16 (I r0.off) 95 hS0 (fun w' hSw=>?_) ?_
       ·obtain ⟨s0,s1,s2,s3⟩:=hSw
        first|(go_simp;done)|(go_simp;with_reducible rfl)
       refine ax ?_;refine aJ 17 (I (fd1*1440+r1.minute - r0.off)) 96 hS0 (fun w' hSw=>?_) ?_
       ·clear hSw
        first|(go_simp;done)|(go_simp;with_reducible rfl)
       refine ax ?_;refine aJ 18 (.pointer (some ⟨rb,4,none⟩)) 97 hS0 (fun w' hSw=>?_) ?_
       ·clear hSw
        first|(go_simp;done)|(go_simp;with_reducible rfl)
       refine ax ?_;refine aJ 19 (I r1.off) 98 hS0 (fun w' hSw=>?_) ?_
       ·obtain ⟨s0,s1,s2,s3⟩:=hSw
        first|(go_simp;done)|(go_simp;with_reducible rfl)
       refine ax ?_;refine gI 20 ( .agg #[I (fd1*1440+r1.minute - r0.off),I r1.off]) 99 rfl rfl hS0 (bV rfl 127 _ rfl _ (by kernel_rfl)) ?_;refine ax ?_;refine kW 4 21 (fun K hK=>?_) (fun K hK=>?_)
       ·have c8:V.cell? ⟨w.heap.size+1,8,none⟩=some (.slice A n cp):=HKB1.out.k.cell 8;go_simp;clear c8;refine hK.out _ _ hS0 (fun _=>?_);clear hK K;refine ax ?_;refine aW 21 (fun K hK=>?_);go_simp;have hS5:JZ rb w.heap.size yb (yo+4) r1.minute r1.off r0.off (.slice (some ⟨yb,yo,none⟩) 2 d0) (V.alloc (.cells #[I (fd1*1440+r1.minute - r0.off),I r1.off] 127)):=⟨(Be.out.below (ag _ _)).cell 3,(Be.out.below (ag _ _)).cell 4,(HKB1.out.grow (ag _ _)).z.cell 7,(HY.out _ (HKB1.out.grow (ag _ _)).lo).a 4 _ rfl⟩;refine hK.out _ _ hS5 (fun _=>?_);clear hK K;refine ax ?_;refine aW 22 (fun K hK=>?_);have hvl:=HKB1.out.k.lt;refine step_append_lies _ (by rfl) _ _ _ (by rfl) (w.heap.size+2) 127 i0 (.agg #[I 0,I 0]) 2 16 Tryz.underlying64 HI.out wM.out nY.out lC.out rfl (by omega) (.slice A n cp) n (wV.flatMap Tr.cells) (by rfl) (own_below HKB1.out.own (ag _ _)) ⟨V.heap.size,0,none⟩ 1 1 [I (fd1*1440+r1.minute - r0.off),I r1.off] (by rfl) rfl (dA V _ _ _ rfl) (wC ⟨fd1*1440+r1.minute - r0.off,r1.off⟩) (by omega) (by unfold maxLen;omega) (by omega) (by simp;omega) _ rfl ?_;intro gg cap w6 hown6 hgrow6 _ _;have hxk:=ae (qF.add (x:=⟨fd1*1440+r1.minute - r0.off,r1.off⟩) HKB1.out rfl rfl hown6 hgrow6);have Dz:Hid (AV rb 129 #[I r1.month,I r1.df,I r1.dh,I r1.minute,I r1.off] w6):=ae ⟨(hgrow6.block _ (by have:=Be.out.lt;simp;omega) Bf.out).trans ((Below.heap_alloc _ _ _ Be.out.lt).trans Be.out.var)⟩;have hk6:Hid (AV (w.heap.size+1) 206 ([I ep, .slice A0 n0 a,I lp, .slice R0 n1 r,I st, .slice C0 n2 c0,I ho, .slice (some ⟨yb,yo,none⟩) 2 d0]++ [Value.slice A n cp,I q]).toArray w6):=ae ⟨(hgrow6.block _ (by have:=HKB1.out.k.lt;simp;omega) (eU HKB1.out.own _ (by omega))).trans ((Below.heap_alloc _ _ _ HKB1.out.k.lt).trans HKB1.out.k.var)⟩;have EP:Hid (AV w.heap.size 67 #[I ep, .slice A0 n0 a,I lp, .slice R0 n1 r,I st, .slice C0 n2 c0,I ho, .slice (some ⟨yb,yo,none⟩) 2 d0] w6):=ae ⟨(hgrow6.block _ (by have:=HKB1.out.z.lt;simp;omega) (eU HKB1.out.own _ (by omega))).trans ((Below.heap_alloc _ _ _ HKB1.out.z.lt).trans HKB1.out.z.var)⟩;have LG:Hid (w6.cell? ⟨yb,yo+4,none⟩=some (I r0.off)):=ae (by
         have hb6:Below w.heap.size w w6:=bG (ah HKB1.out.lo (ag _ _)) (bf (own_below HKB1.out.own (ag _ _)) (by omega)) (ah HKB1.out.lo (ag _ _)).size hgrow6;exact (HY.out w6 hb6).a 4 _ rfl)
        clear hown6 hgrow6;have hS6:JZ rb w.heap.size yb (yo+4) r1.minute r1.off r0.off (.slice (some ⟨yb,yo,none⟩) 2 d0) w6:=⟨Dz.out.cell 3,Dz.out.cell 4,EP.out.cell 7,LG.out⟩;refine hK.out _ _ hS6 (fun _=>?_);clear hK K;try simp only [Act.put,List.setIfInBounds_toArray]
        refine aJ 23 (.pointer (some ⟨w.heap.size+1,0,none⟩)) 102 hS6 (fun w' hSw=>?_) ?_
        ·clear hSw
         first|(go_simp;done)|(go_simp;with_reducible rfl)
        try simp only [Act.put]
        refine aJ 24 (.pointer (some ⟨w.heap.size+1,8,none⟩)) 103 hS6 (fun w' hSw=>?_) ?_
        ·clear hSw
         first|(go_simp;done)|(go_simp;with_reducible rfl)
        try simp only [Act.put]
        refine aW 25 (fun K hK=>?_);have c8:=hk6.out.cell 8;have f8:=hk6.out.dZ 8;go_simp;have hS7:JZ rb w.heap.size yb (yo+4) r1.minute r1.off r0.off (.slice (some ⟨yb,yo,none⟩) 2 d0) (w6.setCell ⟨w.heap.size+1,8,none⟩ (.slice (some ⟨gg,0,none⟩) (n+1) cap)):=⟨(Dz.out.far Rk.out 8 _).cell 3,(Dz.out.far Rk.out 8 _).cell 4,hxk.out.z.cell 7,(HY.out _ hxk.out.lo).a 4 _ rfl⟩;refine hK.out _ _ hS7 (fun _=>?_);clear hK K;refine wpAnyH_done (by kernel_rfl) ?_ _;go_wp2_with fail;go_meet;exact ⟨some ⟨gg,0,none⟩,n+1,cap,by omega,by rw [show DF=wV++ [⟨fd1*1440+r1.minute - r0.off,r1.off⟩] from HE1T.out];exact hxk.out⟩
       ·go_simp;have hS5:JZ rb w.heap.size yb (yo+4) r1.minute r1.off r0.off (.slice (some ⟨yb,yo,none⟩) 2 d0) (V.alloc (.cells #[I (fd1*1440+r1.minute - r0.off),I r1.off] 127)):=⟨(Be.out.below (ag _ _)).cell 3,(Be.out.below (ag _ _)).cell 4,(HKB1.out.grow (ag _ _)).z.cell 7,(HY.out _ (HKB1.out.grow (ag _ _)).lo).a 4 _ rfl⟩;refine hK.out _ _ hS5 (fun _=>?_);clear hK K;refine ax ?_;refine aW 4 (fun K hK=>?_);have c8:(V.alloc (.cells #[I (fd1*1440+r1.minute - r0.off),I r1.off] 127)).cell? ⟨w.heap.size+1,8,none⟩=some (.slice A n cp):=(HKB1.out.grow (ag _ _)).k.cell 8;go_simp;clear c8;refine hK.out _ _ hS5 (fun _=>?_);clear hK K;refine ax ?_;refine aW 22 (fun K hK=>?_);have hvl:=HKB1.out.k.lt;refine step_append_lies _ (by rfl) _ _ _ (by rfl) (w.heap.size+2) 127 i0 (.agg #[I 0,I 0]) 2 16 Tryz.underlying64 HI.out wM.out nY.out lC.out rfl (by omega) (.slice A n cp) n (wV.flatMap Tr.cells) (by rfl) (own_below HKB1.out.own (ag _ _)) ⟨V.heap.size,0,none⟩ 1 1 [I (fd1*1440+r1.minute - r0.off),I r1.off] (by rfl) rfl (dA V _ _ _ rfl) (wC ⟨fd1*1440+r1.minute - r0.off,r1.off⟩) (by omega) (by unfold maxLen;omega) (by omega) (by simp;omega) _ rfl ?_;intro gg cap w6 hown6 hgrow6 _ _;have hxk:=ae (qF.add (x:=⟨fd1*1440+r1.minute - r0.off,r1.off⟩) HKB1.out rfl rfl hown6 hgrow6);have Dz:Hid (AV rb 129 #[I r1.month,I r1.df,I r1.dh,I r1.minute,I r1.off] w6):=ae ⟨(hgrow6.block _ (by have:=Be.out.lt;simp;omega) Bf.out).trans ((Below.heap_alloc _ _ _ Be.out.lt).trans Be.out.var)⟩;have hk6:Hid (AV (w.heap.size+1) 206 ([I ep, .slice A0 n0 a,I lp, .slice R0 n1 r,I st, .slice C0 n2 c0,I ho, .slice (some ⟨yb,yo,none⟩) 2 d0]++ [Value.slice A n cp,I q]).toArray w6):=ae ⟨(hgrow6.block _ (by have:=HKB1.out.k.lt;simp;omega) (eU HKB1.out.own _ (by omega))).trans ((Below.heap_alloc _ _ _ HKB1.out.k.lt).trans HKB1.out.k.var)⟩;have EP:Hid (AV w.heap.size 67 #[I ep, .slice A0 n0 a,I lp, .slice R0 n1 r,I st, .slice C0 n2 c0,I ho, .slice (some ⟨yb,yo,none⟩) 2 d0] w6):=ae ⟨(hgrow6.block _ (by have:=HKB1.out.z.lt;simp;omega) (eU HKB1.out.own _ (by omega))).trans ((Below.heap_alloc _ _ _ HKB1.out.z.lt).trans HKB1.out.z.var)⟩;have LG:Hid (w6.cell? ⟨yb,yo+4,none⟩=some (I r0.off)):=ae (by
         have hb6:Below w.heap.size w w6:=bG (ah HKB1.out.lo (ag _ _)) (bf (own_below HKB1.out.own (ag _ _)) (by omega)) (ah HKB1.out.lo (ag _ _)).size hgrow6;exact (HY.out w6 hb6).a 4 _ rfl)
        clear hown6 hgrow6;have hS6:JZ rb w.heap.size yb (yo+4) r1.minute r1.off r0.off (.slice (some ⟨yb,yo,none⟩) 2 d0) w6:=⟨Dz.out.cell 3,Dz.out.cell 4,EP.out.cell 7,LG.out⟩;refine hK.out _ _ hS6 (fun _=>?_);clear hK K;try simp only [Act.put,List.setIfInBounds_toArray]
        refine aJ 23 (.pointer (some ⟨w.heap.size+1,0,none⟩)) 102 hS6 (fun w' hSw=>?_) ?_
        ·clear hSw
         first|(go_simp;done)|(go_simp;with_reducible rfl)
        try simp only [Act.put]
        refine aJ 24 (.pointer (some ⟨w.heap.size+1,8,none⟩)) 103 hS6 (fun w' hSw=>?_) ?_
        ·clear hSw
         first|(go_simp;done)|(go_simp;with_reducible rfl)
        try simp only [Act.put]
        refine aW 25 (fun K hK=>?_);have c8:=hk6.out.cell 8;have f8:=hk6.out.dZ 8;go_simp;have hS7:JZ rb w.heap.size yb (yo+4) r1.minute r1.off r0.off (.slice (some ⟨yb,yo,none⟩) 2 d0) (w6.setCell ⟨w.heap.size+1,8,none⟩ (.slice (some ⟨gg,0,none⟩) (n+1) cap)):=⟨(Dz.out.far Rk.out 8 _).cell 3,(Dz.out.far Rk.out 8 _).cell 4,hxk.out.z.cell 7,(HY.out _ hxk.out.lo).a 4 _ rfl⟩;refine hK.out _ _ hS7 (fun _=>?_);clear hK K;refine wpAnyH_done (by kernel_rfl) ?_ _;go_wp2_with fail;go_meet;exact ⟨some ⟨gg,0,none⟩,n+1,cap,by omega,by rw [show DF=wV++ [⟨fd1*1440+r1.minute - r0.off,r1.off⟩] from HE1T.out];exact hxk.out⟩
     case rest=>
      obtain ⟨A',n',cp',hnn,hk2⟩:=hcut;have iO:=ae hk2;have hnd:(n':Int)≤2*yy:=by omega
      clear hk2 hnn iF HYD1 HFD1 FB Vk v0 v1 v2 v3 v7 dC yE yG yH yI yJ yK yL yM y13 yN;have v0:wc.cell? ⟨w.heap.size,0,none⟩=some (I ep):=iO.out.z.cell 0;have v1:wc.cell? ⟨w.heap.size,1,none⟩=some (.slice A0 n0 a):=iO.out.z.cell 1;have v2:wc.cell? ⟨w.heap.size,2,none⟩=some (I lp):=iO.out.z.cell 2;have v3:wc.cell? ⟨w.heap.size,3,none⟩=some (.slice R0 n1 r):=iO.out.z.cell 3;have v7:wc.cell? ⟨w.heap.size,7,none⟩=some (.slice (some ⟨yb,yo,none⟩) 2 d0):=iO.out.z.cell 7;go_wp2_with fail;rw [rounds_succ];have hge:=qj cal yy HC.out;have hbd2:=jC cal yy HC.out;obtain ⟨f',hf1,hf2⟩:=Ub HF.out hlt X6.out hge;rw [HTS0.out,HTS1.out] at hf2;obtain ⟨yl,hyl⟩:∃v,dI cal yy=v:=⟨_,rfl⟩;have hcy:=nI.out yy wc iO.out.lo;rw [hyl] at hf1 hf2 hcy hge hbd2;have Vl:=ae hf1;have HF2:=ae hf2;have gu:=ae hcy;clear hcy hyl hf1 hf2;go_wp2_with fail;refine gu.out.mono ?_;rintro e w9 ⟨rfl,EO⟩;have HK9:=ae (iO.out.grow EO);clear EO iO v0 v1 v2 v3 v7;go_wp2_with fail;go_roundw
      case rel=>exact ⟨f',bg+yl,yy+1,A',n',cp',DF,by go_num,by go_num,by omega,by omega,by omega,by omega,by omega,Vl.out,HF2.out,HK9.out⟩
      case measure=>simp [intOf];omega
   ·have hre:=P7 HF.out hlt;subst hre;clear HF X6;go_wp2_with fail;go_quiet (fail);obtain ⟨W7,SY⟩:∃W,wr.drewN nq=W:=⟨_,rfl⟩;rw [SY];have xU:Hid (qF w [I ep, .slice A0 n0 a,I lp, .slice R0 n1 r,I st, .slice C0 n2 c0,I ho, .slice (some ⟨yb,yo,none⟩) 2 d0] q A n cp ts W7):=ae (by rw [←SY];exact HW.out.drewN nq);clear SY v0 c9 HW;have c8:W7.cell? ⟨w.heap.size+1,8,none⟩=some (.slice A n cp):=xU.out.k.cell 8;have HSRT:=ae (MO xU.out.own xU.out.len (by omega));go_wp2_with fail;refine HSRT.out.mono ?_;rintro e w8 ⟨rfl,us,hp,hs,ho,hg⟩;have hus:us=ys:=Qe En.out (hp.trans NR.out.symm) hs;subst hus;have hul:us.length=n:=by rw [hp.length_eq];exact xU.out.len
    have X7:=ae (xU.out.sorted hul ho hg);have HUB:Hid (J3 us):=ae HTBY.out;clear hp hs ho hg HSRT xU c8 NR;have c8:w8.cell? ⟨w.heap.size+1,8,none⟩=some (.slice A n cp):=X7.out.k.cell 8;go_wp2_with fail;clear c8
    go_loopw [121] (fun i wr=>∃k:Nat,k≤n∧i=I (k:Nat)∧qF w [I ep, .slice A0 n0 a,I lp, .slice R0 n1 r,I st, .slice C0 n2 c0,I ho, .slice (some ⟨yb,yo,none⟩) 2 d0] q A n cp us wr) (fun i _=>n - (intOf i).toNat)
    case atStart=>exact ⟨0,Nat.zero_le _,rfl,X7.out⟩
    case round=>
     clear X7;obtain ⟨k,hkn,rfl,hks⟩:=hrel;have HX:=ae hks;clear hks;by_cases hlt2:k<n
     ·have i1:(k:Int)<(n:Int):=by omega
      have i0':(0:Int)≤(k:Int):=by omega
      have hga:=F6 En.out k (by rw [hul];exact hlt2);unfold oO at hga;rw [hul] at hga;have a0:=qx 0 HUB.out;have ak:=qx k HUB.out;have ak1:=qx (k+1) HUB.out;obtain ⟨g,hAg⟩:∃g,A=some ⟨g,0,none⟩:=by
       rcases HX.out.own.2 with ⟨_,hz⟩|⟨g,cap,cur,hv,_⟩
       ·omega
       ·injection hv with h1 _ _;exact ⟨g,h1⟩
      subst hAg;have HAT:=ae (fun (W:World) (h:qF w [I ep, .slice A0 n0 a,I lp, .slice R0 n1 r,I st, .slice C0 n2 c0,I ho, .slice (some ⟨yb,yo,none⟩) 2 d0] q (some ⟨g,0,none⟩) n cp us W) (j:Nat) (hj:j<n)=>rQ h.own h.len j hj);have HOF:=ae (uM HX.out.own HX.out.len k hlt2);obtain ⟨t0,ht0⟩:∃t,iT us 0=t:=⟨_,rfl⟩;obtain ⟨tk,htk⟩:∃t,iT us k=t:=⟨_,rfl⟩;obtain ⟨tl,htl⟩:∃t,iT us (k+1)=t:=⟨_,rfl⟩;obtain ⟨ok,hok⟩:∃t,lZ us k=t:=⟨_,rfl⟩;have uC:Hid (∀W,qF w [I ep, .slice A0 n0 a,I lp, .slice R0 n1 r,I st, .slice C0 n2 c0,I ho, .slice (some ⟨yb,yo,none⟩) 2 d0] q (some ⟨g,0,none⟩) n cp us W→W.cell? ⟨g,0,none⟩=some (I t0)):=ae (fun W h=>by have:=HAT.out W h 0 (by omega);rw [ht0] at this;simpa using this);have XV:Hid (∀W,qF w [I ep, .slice A0 n0 a,I lp, .slice R0 n1 r,I st, .slice C0 n2 c0,I ho, .slice (some ⟨yb,yo,none⟩) 2 d0] q (some ⟨g,0,none⟩) n cp us W→k+1<n→W.cell? ⟨g,(k+1)*2,none⟩=some (I tl)):=ae (fun W h hj=>by have:=HAT.out W h (k+1) hj;rw [htl] at this;exact this);have e0:=HAT.out wr HX.out k hlt2;have e1:=HOF.out;rw [htk] at e0;rw [hok] at e1;rw [ht0,htk,htl] at hga;rw [ht0] at a0;rw [htk] at ak;rw [htl] at ak1;clear ht0 htk htl hok HAT HOF;go_upto_region 24 with (first
       |((with_reducible refine bC 127 ?_);refine aH rfl 127 rfl #[I 0,I 0] (by kernel_rfl) ?_)
       |((with_reducible refine cZ 127 ?_);go_must (refine wpList_store_row rfl _ _ _ rfl wr.heap.size #[I tk,I ok] rfl rfl 127 #[I 0,I 0] (heap_alloc_last wr _) (by kernel_rfl) rfl (by simp [Value.oneCell']) ?_)))
      have hbr:Below wr.heap.size wr ((wr.alloc (.cells #[I 0,I 0] 127)).setRow wr.heap.size #[I tk,I ok]):=aB (ag wr _) (Nat.le_refl _) _;have UZ:=ae (AV.oZ (AV.new wr #[I 0,I 0] 127) #[I tk,I ok]);have wS:=ae (HX.out.grow hbr);clear hbr HX e0 e1;generalize (wr.alloc (.cells #[I 0,I 0] 127)).setRow wr.heap.size #[I tk,I ok]=W2 at wS UZ ⊢;generalize wr.heap.size=rb at UZ ⊢;have c8:W2.cell? ⟨w.heap.size+1,8,none⟩=some (.slice (some ⟨g,0,none⟩) n cp):=wS.out.k.cell 8;have c9:W2.cell? ⟨w.heap.size+1,9,none⟩=some (I q):=wS.out.k.cell 9;have a00:=uC.out W2 wS.out;have hn0:0<n:=by omega
      have wq:IntKind.i64.wrap (q*1440)=q*1440:=by rw [IntKind.wrap_i64];omega
      have wt:IntKind.i64.wrap (t0+q*1440)=t0+q*1440:=by rw [IntKind.wrap_i64];omega
      go_quiet ((go_at_call 109;exact qA _ q W2 c9 (by omega) (by omega) _));obtain ⟨W3,hW3⟩:∃W,W2.drewN nq=W:=⟨_,rfl⟩;rw [hW3];have yS:Hid (qF w [I ep, .slice A0 n0 a,I lp, .slice R0 n1 r,I st, .slice C0 n2 c0,I ho, .slice (some ⟨yb,yo,none⟩) 2 d0] q (some ⟨g,0,none⟩) n cp us W3):=ae (by rw [←hW3];exact wS.out.drewN nq);have HR3:Hid (AV rb 127 #[I tk,I ok] W3):=ae (by rw [←hW3];exact UZ.out.below (below_drewN' _ _));clear hW3 c8 c9 a00 wS UZ;have c8:W3.cell? ⟨w.heap.size+1,8,none⟩=some (.slice (some ⟨g,0,none⟩) n cp):=yS.out.k.cell 8;have r00:W3.cell? ⟨rb,0,none⟩=some (I tk):=HR3.out.cell 0;by_cases hl:k+1<n
      ·have i2:(k:Int)+1<(n:Int):=by omega
       have al:=XV.out W3 yS.out hl;rw [if_pos hl] at hga;have hnl:¬tl - tk<2160:=by omega
       clear hga uC XV;go_wp2_with fail;go_roundw
       case rel=>exact ⟨k+1,by omega,by go_num,yS.out⟩
       case measure=>simp [intOf];omega
      ·have i2:¬(k:Int)+1<(n:Int):=by omega
       rw [if_neg hl] at hga;have hnl:¬t0+q*1440 - tk<2160:=by omega
       clear hga uC XV;go_wp2_with fail;go_roundw
       case rel=>exact ⟨k+1,by omega,by go_num,yS.out⟩
       case measure=>simp [intOf];omega
     ·have i1:¬(k:Int)<(n:Int):=by omega
      go_wp2_with fail;go_ret2;exact ⟨rfl,A,n,cp,HX.out⟩
end Go.Proofs.YtdibbemgpikgjaaGreatDoor
