/- The texts Ji, in this order. -/
import Derived.Test.YtdibbemgpikgjaaGreatW00
import Derived.Test.YtdibbemgpikgjaaGreatW19
import Derived.Test.YtdibbemgpikgjaaGreatW30
import Derived.Test.YtdibbemgpikgjaaGreatW31
import Derived.Test.YtdibbemgpikgjaaGreatW36
set_option maxRecDepth 10000
set_option maxHeartbeats 8000000
namespace Go.Proofs.YtdibbemgpikgjaaGreat
open Go Go.RowKit
theorem tickG (z:Zn) (s:Zs) (r0 r1:Yr) (w:World) (hc:kZ z.cal) (h:jR w w.heap.size s z) (hy:z.az= [r0,r1]) (hr0:En z.cal.aj.length r0) (hr1:En z.cal.aj.length r1):
  Calls Tryz.prog 54 #[.agg (ax z s)] w fun e w'=>(dZ (Bj z) (lH z*1440)=true∧e= .returned (.tuple #[.pointer (some ⟨w.heap.size+1,0,none⟩), .bool true])∧∃A n c,qI w (ax z s).toList (lH z) A n c (Bj z) w')∨(dZ (Bj z) (lH z*1440)=false∧e= .returned (.tuple #[.pointer none, .bool false])∧Below w.heap.size w w'):=by
 have vK:=ae (fun (W:World) (hb:Below w.heap.size w W)=>P9 z.cal s.A s.B s.a s.b W hc ⟨h.aj.grow hb,h.rules.grow hb⟩);have Wh:=ae (fun (bg y:Int) (x:Yr) (W:World) (hx:En z.cal.aj.length x) (h1:0≤bg) (h2:bg≤100000000) (hb:Below w.heap.size w W)=>Vk z.cal s.A s.B s.a s.b bg y x W hc ⟨h.aj.grow hb,h.rules.grow hb⟩ h1 h2 hx);have lW:=ae (fun (y:Int) (W:World) (hb:Below w.heap.size w W)=>Vl z.cal s.A s.B s.a s.b y W hc ⟨h.aj.grow hb,h.rules.grow hb⟩);have hbd:=Ij z hc;have hge1:=hbd.1;have rO:=hc.ep;have HYB:=ae (fun (bg y:Int) (x:Yr) (hx:En z.cal.aj.length x)=>Vj z.cal bg y x hc hx);have HPB:=ae (fun (bg y:Int) (x x':Yr) (ts:List Tr) (hx:En z.cal.aj.length x) (hx':En z.cal.aj.length x') (h1:0≤bg) (h2:bg≤4000000) (h3:vY ts)=>Dn z.cal bg y x x' ts hc hx hx' h1 h2 h3);have HYRB:=ae (fun (y:Int)=>Ii z.cal y hc);have RS:=ae (rf z);have HPS:=ae (DZ z);have hrw:tu z=ou z.cal r0 r1 (z.cal.aI+lH z) (lH z).toNat z.cal.aI 1 []:=by unfold tu;rw [hy]
 obtain ⟨yb,yo,hD,hyb,Jz⟩:=h.az.there (by rw [hy];simp [Yr.cells]);have HY:Hid (∀W,Below w.heap.size w W→YC W yb yo r0 r1):=ae fun W hb=>by
  rw [hy] at Jz;exact ⟨aW (aB.elem (s:=5) (f:=Yr.cells) (xs:= [r0,r1]) (fun _ _=>rfl) Jz 0 r0 rfl) hb hyb,aW (aB.elem (s:=5) (f:=Yr.cells) (xs:= [r0,r1]) (fun _ _=>rfl) Jz 1 r1 rfl) hb hyb⟩
 clear Jz;have hzq:lH z=Ai (KR z.cal):=by unfold lH;rw [hy]
 have hcd:=Tz hc;obtain ⟨dd,hdd⟩:∃d,KR z.cal=d:=⟨_,rfl⟩;rw [hdd] at vK hzq hcd;obtain ⟨res,hres⟩:∃res,tu z=res:=⟨_,rfl⟩;rw [hres] at RS;rw [hrw] at hres;obtain ⟨q,hq⟩:∃q,lH z=q:=⟨_,rfl⟩;rw [hq] at hbd hge1 hres hzq ⊢;obtain ⟨ys,hys⟩:∃ys,Bj z=ys:=⟨_,rfl⟩;rw [hys] at RS HPS ⊢;have lh:=ae hres;have PL:=ae hr0;have PM:=ae hr1;have hmi0:=hr0.mi;have hof0:=hr0.of;have Xe:=hr1.mi;have Xg:=hr1.of;clear hres hq hys hr0 hr1 hc h hdd hrw;obtain ⟨cal,st,tr,ho,yr⟩:=z;obtain ⟨A0,a,R0,r,C0,c0,D0,d0⟩:=s;simp only at hy hD vK Wh lW HYB HPB HYRB PL PM rO lh ⊢;subst hy hD;obtain ⟨ep,vG⟩:∃ep,cal.aI=ep:=⟨_,rfl⟩;rw [vG] at rO lh;obtain ⟨lp,xu⟩:∃lp,cal.aY=lp:=⟨_,rfl⟩;obtain ⟨n0,hn0⟩:∃n,cal.aj.length=n:=⟨_,rfl⟩;obtain ⟨n1,hn1⟩:∃n,cal.rules.length=n:=⟨_,rfl⟩;obtain ⟨n2,hn2⟩:∃n,tr.length=n:=⟨_,rfl⟩;unfold ax aG at*;simp only [vG,xu,hn0,hn1,hn2,List.length_cons,List.length_nil,Nat.zero_add,Nat.reduceAdd] at vK Wh lW HYB HPB HYRB PL PM ⊢;clear vG xu hn0 hn1 hn2;obtain ⟨i0,hi,hq0,hq1,hq2⟩:=info_parts xB;have HI:=ae hi;have sU:=ae hq0;have jS:=ae hq1;have jr:=ae hq2;clear hi hq0 hq1 hq2;show Calls Tryz.prog _ #[.agg #[I ep, .slice A0 n0 a,I lp, .slice R0 n1 r,I st, .slice C0 n2 c0,I ho, .slice (some ⟨yb,yo,none⟩) 2 d0]] w _;show Calls Tryz.prog _ _ w (fun e w'=>(dZ ys (q*1440)=true∧e= .returned (.tuple #[.pointer (some ⟨w.heap.size+1,0,none⟩), .bool true])∧∃A n c,qI w [I ep, .slice A0 n0 a,I lp, .slice R0 n1 r,I st, .slice C0 n2 c0,I ho, .slice (some ⟨yb,yo,none⟩) 2 d0] q A n c ys w')∨(dZ ys (q*1440)=false∧e= .returned (.tuple #[.pointer none, .bool false])∧Below w.heap.size w w'));have hone:(#[I ep, .slice A0 n0 a,I lp, .slice R0 n1 r,I st, .slice C0 n2 c0,I ho, .slice (some ⟨yb,yo,none⟩) 2 d0, .slice none 0 0,I 1]:Array Value).all (·.oneCell')=true:=by simp [Value.oneCell']
 have HV:=ae (AV.new w #[I ep, .slice A0 n0 a,I lp, .slice R0 n1 r,I st, .slice C0 n2 c0,I ho, .slice (some ⟨yb,yo,none⟩) 2 d0] 51);go_enter Tryz.func54,Tryz.ntmps54;go_wp2_with (first
  |((with_reducible refine dM 51 ?_);go_must (refine bG rfl _ _ rfl w.heap.size rfl #[I ep, .slice A0 n0 a,I lp, .slice R0 n1 r,I st, .slice C0 n2 c0,I ho, .slice (some ⟨yb,yo,none⟩) 2 d0] HV.out.lu _ Tryz.underlying51 rfl (by kernel_rfl) ?_))
  |((with_reducible refine gu 92 ?_);refine bW rfl 92 rfl #[I ep, .slice A0 n0 a,I lp, .slice R0 n1 r,I st, .slice C0 n2 c0,I ho, .slice (some ⟨yb,yo,none⟩) 2 d0, .slice none 0 0,I 1] (by kernel_rfl) ?_))
 have HK:Hid (qI w [I ep, .slice A0 n0 a,I lp, .slice R0 n1 r,I st, .slice C0 n2 c0,I ho, .slice (some ⟨yb,yo,none⟩) 2 d0] 1 none 0 0 [] ((w.alloc (.cells #[I ep, .slice A0 n0 a,I lp, .slice R0 n1 r,I st, .slice C0 n2 c0,I ho, .slice (some ⟨yb,yo,none⟩) 2 d0] 51)).alloc (.cells #[I ep, .slice A0 n0 a,I lp, .slice R0 n1 r,I st, .slice C0 n2 c0,I ho, .slice (some ⟨yb,yo,none⟩) 2 d0, .slice none 0 0,I 1] 92))):=ae ⟨ah (ag w _) (ag _ _),HV.out.below (ag _ _),by have:=AV.new (w.alloc (.cells #[I ep, .slice A0 n0 a,I lp, .slice R0 n1 r,I st, .slice C0 n2 c0,I ho, .slice (some ⟨yb,yo,none⟩) 2 d0] 51)) #[I ep, .slice A0 n0 a,I lp, .slice R0 n1 r,I st, .slice C0 n2 c0,I ho, .slice (some ⟨yb,yo,none⟩) 2 d0, .slice none 0 0,I 1] 92;rw [oV] at this;exact this,World.ownsRow_nil _ _ _ _,rfl⟩;clear HV;generalize (w.alloc (.cells #[I ep, .slice A0 n0 a,I lp, .slice R0 n1 r,I st, .slice C0 n2 c0,I ho, .slice (some ⟨yb,yo,none⟩) 2 d0] 51)).alloc (.cells #[I ep, .slice A0 n0 a,I lp, .slice R0 n1 r,I st, .slice C0 n2 c0,I ho, .slice (some ⟨yb,yo,none⟩) 2 d0, .slice none 0 0,I 1] 92)=W0 at HK ⊢;have v0:W0.cell? ⟨w.heap.size,0,none⟩=some (I ep):=HK.out.z.cell 0;have v1:W0.cell? ⟨w.heap.size,1,none⟩=some (.slice A0 n0 a):=HK.out.z.cell 1;have v2:W0.cell? ⟨w.heap.size,2,none⟩=some (I lp):=HK.out.z.cell 2;have v3:W0.cell? ⟨w.heap.size,3,none⟩=some (.slice R0 n1 r):=HK.out.z.cell 3;have v7:W0.cell? ⟨w.heap.size,7,none⟩=some (.slice (some ⟨yb,yo,none⟩) 2 d0):=HK.out.z.cell 7;go_wp2_with fail;refine (vK.out _ HK.out.lo).mono ?_;rintro e w1 ⟨rfl,hb1⟩;have gK:=ae (HK.out.grow hb1);clear hb1 HK vK v0 v1 v2 v3 v7;have c9:w1.cell? ⟨w.heap.size+1,9,none⟩=some (I 1):=gK.out.k.cell 9;have f9:w1.frozen? ⟨w.heap.size+1,9,none⟩=false:=gK.out.k.gG 9;have ja:=ae (gK.out.Zt rfl dd);have yA:Int.tmod dd 7=dd%7:=Int.tmod_eq_emod_of_nonneg (by omega);obtain ⟨p,hp⟩:∃p,dd%7=p:=⟨_,rfl⟩;rw [hp] at yA;have HP:=ae hp;have HZQ:=ae hzq;clear hp hzq;go_upto_if 38 with fail
 go_cut [6] (fun d wx=>d=I dd∧qI w [I ep, .slice A0 n0 a,I lp, .slice R0 n1 r,I st, .slice C0 n2 c0,I ho, .slice (some ⟨yb,yo,none⟩) 2 d0] q none 0 0 [] wx)
 case first=>
  by_cases h7:p=0
  ·subst h7;have hqq:q=dd:=by rw [HZQ.out];unfold Ai;rw [if_pos HP.out]
   have HQE:=ae hqq;clear hqq;go_wp2_with fail;go_meet;exact ⟨rfl,by rw [HQE.out];exact ja.out⟩
  ·have hqq:q=7*dd:=by rw [HZQ.out];unfold Ai;rw [if_neg (by rw [HP.out];exact h7)]
   have HQE:=ae hqq;clear hqq;have hpb:(p !=0)=true:=by simpa using h7
   have w0:IntKind.i64.wrap (dd*7)=dd*7:=by rw [IntKind.wrap_i64];omega
   clear c9 f9;generalize w1.setCell ⟨w.heap.size+1,9,none⟩ (I dd)=W2 at ja ⊢;have c9:W2.cell? ⟨w.heap.size+1,9,none⟩=some (I dd):=ja.out.k.cell 9;have f9:W2.frozen? ⟨w.heap.size+1,9,none⟩=false:=ja.out.k.gG 9;have kX:=ae (ja.out.Zt rfl (dd*7));go_wp2_with fail;go_meet;exact ⟨rfl,by rw [HQE.out,Int.mul_comm];exact kX.out⟩
 case rest=>
  obtain ⟨rfl,hk⟩:=hcut;have HK:=ae hk;clear hk ja gK c9 f9 yA HP HZQ;have v0:wc.cell? ⟨w.heap.size,0,none⟩=some (I ep):=HK.out.z.cell 0;go_wp2_with fail;clear v0
  go_loopw [8,9] (fun b y wr=>∃(f:Nat) (bg yy:Int) (A:Option Addr) (n cp:Nat) (ts:List Tr),b=I bg∧y=I yy∧1≤yy∧ep+(yy - 1)≤bg∧0≤bg∧bg≤ep+q+700∧(n:Int)≤2*(yy - 1)∧(ep+q - bg).toNat≤f∧ou cal r0 r1 (ep+q) f bg yy ts=res∧vY ts∧qI w [I ep, .slice A0 n0 a,I lp, .slice R0 n1 r,I st, .slice C0 n2 c0,I ho, .slice (some ⟨yb,yo,none⟩) 2 d0] q A n cp ts wr) (fun b _ _=>((ep+q) - intOf b).toNat)
  case atStart=>exact ⟨q.toNat,ep,1,none,0,0,[],rfl,rfl,by omega,by omega,by omega,by omega,by omega,by omega,lh.out,(fun _ h=>nomatch h),HK.out⟩
  case round=>
   clear HK;obtain ⟨f,bg,yy,A,n,cp,ts,rfl,rfl,hy1,hy2,hb0,hbs,hn2,hf,hyf,htb,hys⟩:=hrel;have tK:=ae htb;have HF:=ae hyf;have HW:=ae hys;have YN:=ae hf;clear hyf hys hf htb;have v0:wr.cell? ⟨w.heap.size,0,none⟩=some (I ep):=HW.out.z.cell 0;have c9:wr.cell? ⟨w.heap.size+1,9,none⟩=some (I q):=HW.out.k.cell 9;by_cases hlt:bg<ep+q
   ·go_wp2_with fail;go_quiet (fail);obtain ⟨W7,TT⟩:∃W,wr.drewN nq=W:=⟨_,rfl⟩;rw [TT];have yE:Hid (qI w [I ep, .slice A0 n0 a,I lp, .slice R0 n1 r,I st, .slice C0 n2 c0,I ho, .slice (some ⟨yb,yo,none⟩) 2 d0] q A n cp ts W7):=ae (by rw [←TT];exact HW.out.drewN nq);clear TT v0 c9 HW;have v0:W7.cell? ⟨w.heap.size,0,none⟩=some (I ep):=yE.out.z.cell 0;have v1:W7.cell? ⟨w.heap.size,1,none⟩=some (.slice A0 n0 a):=yE.out.z.cell 1;have v2:W7.cell? ⟨w.heap.size,2,none⟩=some (I lp):=yE.out.z.cell 2;have v3:W7.cell? ⟨w.heap.size,3,none⟩=some (.slice R0 n1 r):=yE.out.z.cell 3;have v7:W7.cell? ⟨w.heap.size,7,none⟩=some (.slice (some ⟨yb,yo,none⟩) 2 d0):=yE.out.z.cell 7;have dQ:=ae (HY.out W7 yE.out.lo);have yY:W7.cell? ⟨yb,yo,none⟩=some (I r0.month):=dQ.out.a 0 _ rfl;have yZ:W7.cell? ⟨yb,yo+1,none⟩=some (I r0.di):=dQ.out.a 1 _ rfl;have y7:W7.cell? ⟨yb,yo+2,none⟩=some (I r0.dm):=dQ.out.a 2 _ rfl;have y8:W7.cell? ⟨yb,yo+3,none⟩=some (I r0.minute):=dQ.out.a 3 _ rfl;have y9:W7.cell? ⟨yb,yo+4,none⟩=some (I r0.off):=dQ.out.a 4 _ rfl;have zf:W7.cell? ⟨yb,yo+5,none⟩=some (I r1.month):=dQ.out.b 0 _ rfl;have zh:W7.cell? ⟨yb,yo+6,none⟩=some (I r1.di):=dQ.out.b 1 _ rfl;have zi:W7.cell? ⟨yb,yo+7,none⟩=some (I r1.dm):=dQ.out.b 2 _ rfl;have y13:W7.cell? ⟨yb,yo+8,none⟩=some (I r1.minute):=dQ.out.b 3 _ rfl;have zk:W7.cell? ⟨yb,yo+9,none⟩=some (I r1.off):=dQ.out.b 4 _ rfl;go_wp2_with fail;refine wp_loop_rounds 3 ?_;rw [rounds_succ];go_upto_block 3 with fail;obtain ⟨wZ,Qh⟩:∃t,pg cal bg yy r0 r1 ts=t:=⟨_,rfl⟩;have rM:=fun (W:World) hb=>Wh.out bg yy r0 W PL.out (by omega) (by omega) hb;have Xh:=HYB.out bg yy r0 PL.out;obtain ⟨pr0,MF⟩:∃pr,QP cal bg yy r0=pr:=⟨_,rfl⟩;rw [MF] at rM Xh;have hps0:=Qh;unfold pg at hps0;rw [MF] at hps0;obtain ⟨fd0,fb0⟩:=pr0;simp only at rM Xh hps0;have HYD0:=ae rM;have HFD0:Hid (fb0=true→bg - 10≤fd0∧fd0≤bg+800):=ae (fun _=>Xh);have QU:Hid (fb0=true→wZ=ts++ [⟨fd0*1440+r0.minute - r1.off,r0.off⟩]):=ae (fun h=>by rw [←hps0,if_pos h]);have VV:Hid (fb0=false→wZ=ts):=ae (fun h=>by rw [←hps0,if_neg (by rw [h];decide)]);have HTS0:=ae Qh;clear Qh rM Xh MF hps0
    go_cut [10] (fun _ wx=>∃(A':Option Addr) (n' cp':Nat),n'≤n+1∧qI w [I ep, .slice A0 n0 a,I lp, .slice R0 n1 r,I st, .slice C0 n2 c0,I ho, .slice (some ⟨yb,yo,none⟩) 2 d0] q A' n' cp' wZ wx)
    case first=>
     go_upto_region 15 with (first
      |((with_reducible refine bu 130 ?_);refine aN rfl 130 rfl #[I 0,I 0,I 0,I 0,I 0] (by kernel_rfl) ?_)
      |((with_reducible refine bV 130 ?_);go_must (refine wpList_store_row rfl _ _ _ rfl W7.heap.size #[I r0.month,I r0.di,I r0.dm,I r0.minute,I r0.off] rfl rfl 130 #[I 0,I 0,I 0,I 0,I 0] (heap_alloc_last W7 _) (by kernel_rfl) rfl (by simp [Value.oneCell']) ?_)))
     have hb2:Below W7.heap.size W7 ((W7.alloc (.cells #[I 0,I 0,I 0,I 0,I 0] 130)).setRow W7.heap.size #[I r0.month,I r0.di,I r0.dm,I r0.minute,I r0.off]):=aC (ag W7 _) (Nat.le_refl _) _;have HR2:=ae (AV.oH (AV.new W7 #[I 0,I 0,I 0,I 0,I 0] 130) #[I r0.month,I r0.di,I r0.dm,I r0.minute,I r0.off]);have BI:Hid (some W7.heap.size≠(Value.slice A n cp).ownBlock):=ae (uy (fun g hg=>(World.ownsRow.lt yE.out.own g hg).2));have RX:Hid (W7.heap.size≠w.heap.size+1):=ae (by have:=yE.out.k.lt;omega);have ja:=ae (yE.out.grow hb2);clear hb2 yE;clear v0 v1 v2 v3 v7;clear dQ yY yZ y7 y8 y9 zf zh zi y13 zk;generalize (W7.alloc (.cells #[I 0,I 0,I 0,I 0,I 0] 130)).setRow W7.heap.size #[I r0.month,I r0.di,I r0.dm,I r0.minute,I r0.off]=W2 at ja HR2 ⊢;generalize W7.heap.size=rb at HR2 BI RX ⊢;have v0:W2.cell? ⟨w.heap.size,0,none⟩=some (I ep):=ja.out.z.cell 0;have v1:W2.cell? ⟨w.heap.size,1,none⟩=some (.slice A0 n0 a):=ja.out.z.cell 1;have v2:W2.cell? ⟨w.heap.size,2,none⟩=some (I lp):=ja.out.z.cell 2;have v3:W2.cell? ⟨w.heap.size,3,none⟩=some (.slice R0 n1 r):=ja.out.z.cell 3;have v7:W2.cell? ⟨w.heap.size,7,none⟩=some (.slice (some ⟨yb,yo,none⟩) 2 d0):=ja.out.z.cell 7;clear v7;have u0:W2.cell? ⟨rb,0,none⟩=some (I r0.month):=HR2.out.cell 0;have u1:W2.cell? ⟨rb,1,none⟩=some (I r0.di):=HR2.out.cell 1;have u2:W2.cell? ⟨rb,2,none⟩=some (I r0.dm):=HR2.out.cell 2;have u3:W2.cell? ⟨rb,3,none⟩=some (I r0.minute):=HR2.out.cell 3;have u4:W2.cell? ⟨rb,4,none⟩=some (I r0.off):=HR2.out.cell 4;go_wp2_with fail;refine (HYD0.out W2 ja.out.lo).mono ?_;rintro e w3 ⟨rfl,hb3⟩;have kX:=ae (ja.out.grow hb3);have HR3:=ae (HR2.out.below hb3);clear hb3 ja HR2 v0 v1 v2 v3 u0 u1 u2 u3 u4;cases fb0 with
     |false=>
      have HEF:=ae (VV.out rfl);clear VV QU;go_wp2_with fail;go_meet;exact ⟨A,n,cp,by omega,by rw [HEF.out];exact kX.out⟩
     |true=>
      have HE0T:=ae (QU.out rfl);clear QU VV;have hfd:=HFD0.out rfl;go_upto_region 17 with fail;have hS0:KP rb w.heap.size yb (yo+9) r0.minute r0.off r1.off (.slice (some ⟨yb,yo,none⟩) 2 d0) w3.drew:=⟨HR3.out.drew.cell 3,HR3.out.drew.cell 4,kX.out.drew.z.cell 7,(HY.out _ kX.out.drew.lo).b 4 _ rfl⟩;have jT:=ae kX.out.drew;have BG:=ae HR3.out.drew;clear kX HR3;refine wp_region_held_drew (S:=KP rb w.heap.size yb (yo+9) r0.minute r0.off r1.off (.slice (some ⟨yb,yo,none⟩) 2 d0)) (by kernel_rfl) hS0 (fun _=>?_);generalize w3.drew=V at hS0 jT BG ⊢;have wk0:IntKind.i64.wrap 1=1:=by rw [IntKind.wrap_i64];omega
      have w1:IntKind.i64.wrap (fd0*1440)=fd0*1440:=by rw [IntKind.wrap_i64];omega
      have w2:IntKind.i64.wrap (fd0*1440+r0.minute)=fd0*1440+r0.minute:=by rw [IntKind.wrap_i64];omega
      have w3:IntKind.i64.wrap (fd0*1440+r0.minute - r1.off)=fd0*1440+r0.minute - r1.off:=by rw [IntKind.wrap_i64];omega
      refine aO 0 (.pointer (some ⟨w.heap.size+1,0,none⟩)) 79 hS0 (fun w' hSw=>?_) ?_
      ·clear hSw
       first|(go_simp;done)|(go_simp;with_reducible rfl)
      refine ay ?_;refine aO 1 (.pointer (some ⟨w.heap.size+1,0,none⟩)) 80 hS0 (fun w' hSw=>?_) ?_
      ·clear hSw
       first|(go_simp;done)|(go_simp;with_reducible rfl)
      refine ay ?_;refine aO 2 (.pointer (some ⟨w.heap.size+1,0,none⟩)) 81 hS0 (fun w' hSw=>?_) ?_
      ·clear hSw
       first|(go_simp;done)|(go_simp;with_reducible rfl)
      refine ay ?_;refine aO 3 (.pointer (some ⟨w.heap.size+1,8,none⟩)) 82 hS0 (fun w' hSw=>?_) ?_
      ·clear hSw
       first|(go_simp;done)|(go_simp;with_reducible rfl)
      refine ay ?_;refine aO 5 (I fd0) 84 hS0 (fun w' hSw=>?_) ?_
      ·clear hSw
       first|(go_simp;done)|(go_simp;with_reducible rfl)
      refine ay ?_;refine aO 6 (I (fd0*1440)) 85 hS0 (fun w' hSw=>?_) ?_
      ·clear hSw
       first|(go_simp;done)|(go_simp;with_reducible rfl)
      refine ay ?_;refine aO 7 (.pointer (some ⟨rb,3,none⟩)) 86 hS0 (fun w' hSw=>?_) ?_
      ·clear hSw
       first|(go_simp;done)|(go_simp;with_reducible rfl)
      refine ay ?_;refine aO 8 (I r0.minute) 87 hS0 (fun w' hSw=>?_) ?_
      ·obtain ⟨s0,s1,s2,s3⟩:=hSw
       first|(go_simp;done)|(go_simp;with_reducible rfl)
      refine ay ?_;refine aO 9 (I (fd0*1440+r0.minute)) 88 hS0 (fun w' hSw=>?_) ?_
      ·clear hSw
       first|(go_simp;done)|(go_simp;with_reducible rfl)
      refine ay ?_;refine aO 10 (.pointer (some ⟨w.heap.size,7,none⟩)) 89 hS0 (fun w' hSw=>?_) ?_
      ·clear hSw
       first|(go_simp;done)|(go_simp;with_reducible rfl)
      refine ay ?_;refine aO 11 (.slice (some ⟨yb,yo,none⟩) 2 d0) 90 hS0 (fun w' hSw=>?_) ?_
      ·obtain ⟨s0,s1,s2,s3⟩:=hSw
       first|(go_simp;done)|(go_simp;with_reducible rfl)
      refine ay ?_;refine aO 12 (I 0) 91 hS0 (fun w' hSw=>?_) ?_
      ·clear hSw
       first|(go_simp;done)|(go_simp;with_reducible rfl)
      refine ay ?_;refine aO 13 (I 1) 92 hS0 (fun w' hSw=>?_) ?_
      ·clear hSw
       first|(go_simp;done)|(go_simp;with_reducible rfl)
      refine ay ?_;refine aO 14 (.pointer (some ⟨yb,yo+5,none⟩)) 93 hS0 (fun w' hSw=>?_) ?_
      ·clear hSw
       first|(go_simp;done)|(go_simp;with_reducible rfl)
      refine ay ?_;refine aO 15 (.pointer (some ⟨yb,yo+9,none⟩)) 94 hS0 (fun w' hSw=>?_) ?_
      ·clear hSw
       first|(go_simp;done)|(go_simp;with_reducible rfl)
      refine ay ?_;refine aO 16 (I r1.off) 95 hS0 (fun w' hSw=>?_) ?_
      ·obtain ⟨s0,s1,s2,s3⟩:=hSw
       first|(go_simp;done)|(go_simp;with_reducible rfl)
      refine ay ?_;refine aO 17 (I (fd0*1440+r0.minute - r1.off)) 96 hS0 (fun w' hSw=>?_) ?_
      ·clear hSw
       first|(go_simp;done)|(go_simp;with_reducible rfl)
      refine ay ?_;refine aO 18 (.pointer (some ⟨rb,4,none⟩)) 97 hS0 (fun w' hSw=>?_) ?_
      ·clear hSw
       first|(go_simp;done)|(go_simp;with_reducible rfl)
      refine ay ?_;refine aO 19 (I r0.off) 98 hS0 (fun w' hSw=>?_) ?_
      ·obtain ⟨s0,s1,s2,s3⟩:=hSw
       first|(go_simp;done)|(go_simp;with_reducible rfl)
      refine ay ?_;refine mQ 20 ( .agg #[I (fd0*1440+r0.minute - r1.off),I r0.off]) 99 rfl rfl hS0 (df rfl 100 _ rfl _ (by kernel_rfl)) ?_;refine ay ?_;refine mP 4 21 (fun K hK=>?_) (fun K hK=>?_)
      ·have c8:V.cell? ⟨w.heap.size+1,8,none⟩=some (.slice A n cp):=jT.out.k.cell 8;go_simp;clear c8;refine hK.out _ _ hS0 (fun _=>?_);clear hK K;refine ay ?_;refine bT 21 (fun K hK=>?_);go_simp;have hS5:KP rb w.heap.size yb (yo+9) r0.minute r0.off r1.off (.slice (some ⟨yb,yo,none⟩) 2 d0) (V.alloc (.cells #[I (fd0*1440+r0.minute - r1.off),I r0.off] 100)):=⟨(BG.out.below (ag _ _)).cell 3,(BG.out.below (ag _ _)).cell 4,(jT.out.grow (ag _ _)).z.cell 7,(HY.out _ (jT.out.grow (ag _ _)).lo).b 4 _ rfl⟩;refine hK.out _ _ hS5 (fun _=>?_);clear hK K;refine ay ?_;refine bT 22 (fun K hK=>?_);have hvl:=jT.out.k.lt;refine step_append_lies _ (by rfl) _ _ _ (by rfl) (w.heap.size+2) 100 i0 (.agg #[I 0,I 0]) 2 16 Tryz.underlying48 HI.out sU.out jS.out jr.out rfl (by omega) (.slice A n cp) n (ts.flatMap Tr.cells) (by rfl) (own_below jT.out.own (ag _ _)) ⟨V.heap.size,0,none⟩ 1 1 [I (fd0*1440+r0.minute - r1.off),I r0.off] (by rfl) rfl (dL V _ _ _ rfl) (wP ⟨fd0*1440+r0.minute - r1.off,r0.off⟩) (by omega) (by unfold maxLen;omega) (by omega) (by simp;omega) _ rfl ?_;intro gg cap w6 hown6 hgrow6 _ _;have hxk:=ae (qI.add (x:=⟨fd0*1440+r0.minute - r1.off,r0.off⟩) jT.out rfl rfl hown6 hgrow6);have Ar:Hid (AV rb 130 #[I r0.month,I r0.di,I r0.dm,I r0.minute,I r0.off] w6):=ae ⟨(hgrow6.block _ (by have:=BG.out.lt;simp;omega) BI.out).trans ((Below.heap_alloc _ _ _ BG.out.lt).trans BG.out.var)⟩;have hk6:Hid (AV (w.heap.size+1) 92 ([I ep, .slice A0 n0 a,I lp, .slice R0 n1 r,I st, .slice C0 n2 c0,I ho, .slice (some ⟨yb,yo,none⟩) 2 d0]++ [Value.slice A n cp,I q]).toArray w6):=ae ⟨(hgrow6.block _ (by have:=jT.out.k.lt;simp;omega) (eG jT.out.own _ (by omega))).trans ((Below.heap_alloc _ _ _ jT.out.k.lt).trans jT.out.k.var)⟩;have FC:Hid (AV w.heap.size 51 #[I ep, .slice A0 n0 a,I lp, .slice R0 n1 r,I st, .slice C0 n2 c0,I ho, .slice (some ⟨yb,yo,none⟩) 2 d0] w6):=ae ⟨(hgrow6.block _ (by have:=jT.out.z.lt;simp;omega) (eG jT.out.own _ (by omega))).trans ((Below.heap_alloc _ _ _ jT.out.z.lt).trans jT.out.z.var)⟩;have MH:Hid (w6.cell? ⟨yb,yo+9,none⟩=some (I r1.off)):=ae (by
        have hb6:Below w.heap.size w w6:=bZ (ah jT.out.lo (ag _ _)) (aX (own_below jT.out.own (ag _ _)) (by omega)) (ah jT.out.lo (ag _ _)).size hgrow6;exact (HY.out w6 hb6).b 4 _ rfl)
       clear hown6 hgrow6;have hS6:KP rb w.heap.size yb (yo+9) r0.minute r0.off r1.off (.slice (some ⟨yb,yo,none⟩) 2 d0) w6:=⟨Ar.out.cell 3,Ar.out.cell 4,FC.out.cell 7,MH.out⟩;refine hK.out _ _ hS6 (fun _=>?_);clear hK K;try simp only [Act.put,List.setIfInBounds_toArray]
       refine aO 23 (.pointer (some ⟨w.heap.size+1,0,none⟩)) 102 hS6 (fun w' hSw=>?_) ?_
       ·clear hSw
        first|(go_simp;done)|(go_simp;with_reducible rfl)
       try simp only [Act.put]
       refine aO 24 (.pointer (some ⟨w.heap.size+1,8,none⟩)) 103 hS6 (fun w' hSw=>?_) ?_
       ·clear hSw
        first|(go_simp;done)|(go_simp;with_reducible rfl)
       try simp only [Act.put]
       refine bT 25 (fun K hK=>?_);have c8:=hk6.out.cell 8;have f8:=hk6.out.gG 8;go_simp;have hS7:KP rb w.heap.size yb (yo+9) r0.minute r0.off r1.off (.slice (some ⟨yb,yo,none⟩) 2 d0) (w6.setCell ⟨w.heap.size+1,8,none⟩ (.slice (some ⟨gg,0,none⟩) (n+1) cap)):=⟨(Ar.out.far RX.out 8 _).cell 3,(Ar.out.far RX.out 8 _).cell 4,hxk.out.z.cell 7,(HY.out _ hxk.out.lo).b 4 _ rfl⟩;refine hK.out _ _ hS7 (fun _=>?_);clear hK K;refine wpAnyH_done (by kernel_rfl) ?_ _;go_wp2_with fail;go_meet;exact ⟨some ⟨gg,0,none⟩,n+1,cap,by omega,by rw [show wZ=ts++ [⟨fd0*1440+r0.minute - r1.off,r0.off⟩] from HE0T.out];exact hxk.out⟩
      ·go_simp;have hS5:KP rb w.heap.size yb (yo+9) r0.minute r0.off r1.off (.slice (some ⟨yb,yo,none⟩) 2 d0) (V.alloc (.cells #[I (fd0*1440+r0.minute - r1.off),I r0.off] 100)):=⟨(BG.out.below (ag _ _)).cell 3,(BG.out.below (ag _ _)).cell 4,(jT.out.grow (ag _ _)).z.cell 7,(HY.out _ (jT.out.grow (ag _ _)).lo).b 4 _ rfl⟩;refine hK.out _ _ hS5 (fun _=>?_);clear hK K;refine ay ?_;refine bT 4 (fun K hK=>?_);have c8:(V.alloc (.cells #[I (fd0*1440+r0.minute - r1.off),I r0.off] 100)).cell? ⟨w.heap.size+1,8,none⟩=some (.slice A n cp):=(jT.out.grow (ag _ _)).k.cell 8;go_simp;clear c8;refine hK.out _ _ hS5 (fun _=>?_);clear hK K;refine ay ?_;refine bT 22 (fun K hK=>?_);have hvl:=jT.out.k.lt;refine step_append_lies _ (by rfl) _ _ _ (by rfl) (w.heap.size+2) 100 i0 (.agg #[I 0,I 0]) 2 16 Tryz.underlying48 HI.out sU.out jS.out jr.out rfl (by omega) (.slice A n cp) n (ts.flatMap Tr.cells) (by rfl) (own_below jT.out.own (ag _ _)) ⟨V.heap.size,0,none⟩ 1 1 [I (fd0*1440+r0.minute - r1.off),I r0.off] (by rfl) rfl (dL V _ _ _ rfl) (wP ⟨fd0*1440+r0.minute - r1.off,r0.off⟩) (by omega) (by unfold maxLen;omega) (by omega) (by simp;omega) _ rfl ?_;intro gg cap w6 hown6 hgrow6 _ _;have hxk:=ae (qI.add (x:=⟨fd0*1440+r0.minute - r1.off,r0.off⟩) jT.out rfl rfl hown6 hgrow6);have Ar:Hid (AV rb 130 #[I r0.month,I r0.di,I r0.dm,I r0.minute,I r0.off] w6):=ae ⟨(hgrow6.block _ (by have:=BG.out.lt;simp;omega) BI.out).trans ((Below.heap_alloc _ _ _ BG.out.lt).trans BG.out.var)⟩;have hk6:Hid (AV (w.heap.size+1) 92 ([I ep, .slice A0 n0 a,I lp, .slice R0 n1 r,I st, .slice C0 n2 c0,I ho, .slice (some ⟨yb,yo,none⟩) 2 d0]++ [Value.slice A n cp,I q]).toArray w6):=ae ⟨(hgrow6.block _ (by have:=jT.out.k.lt;simp;omega) (eG jT.out.own _ (by omega))).trans ((Below.heap_alloc _ _ _ jT.out.k.lt).trans jT.out.k.var)⟩;have FC:Hid (AV w.heap.size 51 #[I ep, .slice A0 n0 a,I lp, .slice R0 n1 r,I st, .slice C0 n2 c0,I ho, .slice (some ⟨yb,yo,none⟩) 2 d0] w6):=ae ⟨(hgrow6.block _ (by have:=jT.out.z.lt;simp;omega) (eG jT.out.own _ (by omega))).trans ((Below.heap_alloc _ _ _ jT.out.z.lt).trans jT.out.z.var)⟩;have MH:Hid (w6.cell? ⟨yb,yo+9,none⟩=some (I r1.off)):=ae (by
        have hb6:Below w.heap.size w w6:=bZ (ah jT.out.lo (ag _ _)) (aX (own_below jT.out.own (ag _ _)) (by omega)) (ah jT.out.lo (ag _ _)).size hgrow6;exact (HY.out w6 hb6).b 4 _ rfl)
       clear hown6 hgrow6;have hS6:KP rb w.heap.size yb (yo+9) r0.minute r0.off r1.off (.slice (some ⟨yb,yo,none⟩) 2 d0) w6:=⟨Ar.out.cell 3,Ar.out.cell 4,FC.out.cell 7,MH.out⟩;refine hK.out _ _ hS6 (fun _=>?_);clear hK K;try simp only [Act.put,List.setIfInBounds_toArray]
       refine aO 23 (.pointer (some ⟨w.heap.size+1,0,none⟩)) 102 hS6 (fun w' hSw=>?_) ?_
       ·clear hSw
        first|(go_simp;done)|(go_simp;with_reducible rfl)
       try simp only [Act.put]
       refine aO 24 (.pointer (some ⟨w.heap.size+1,8,none⟩)) 103 hS6 (fun w' hSw=>?_) ?_
       ·clear hSw
        first|(go_simp;done)|(go_simp;with_reducible rfl)
       try simp only [Act.put]
       refine bT 25 (fun K hK=>?_);have c8:=hk6.out.cell 8;have f8:=hk6.out.gG 8;go_simp;have hS7:KP rb w.heap.size yb (yo+9) r0.minute r0.off r1.off (.slice (some ⟨yb,yo,none⟩) 2 d0) (w6.setCell ⟨w.heap.size+1,8,none⟩ (.slice (some ⟨gg,0,none⟩) (n+1) cap)):=⟨(Ar.out.far RX.out 8 _).cell 3,(Ar.out.far RX.out 8 _).cell 4,hxk.out.z.cell 7,(HY.out _ hxk.out.lo).b 4 _ rfl⟩;refine hK.out _ _ hS7 (fun _=>?_);clear hK K;refine wpAnyH_done (by kernel_rfl) ?_ _;go_wp2_with fail;go_meet;exact ⟨some ⟨gg,0,none⟩,n+1,cap,by omega,by rw [show wZ=ts++ [⟨fd0*1440+r0.minute - r1.off,r0.off⟩] from HE0T.out];exact hxk.out⟩
    case rest=>
     obtain ⟨A',n',cp',hnn,hk1⟩:=hcut;have gK:=ae hk1;have hnb:n'≤8000000:=by omega
     have hnc:(n':Int)≤2*(yy - 1)+1:=by omega
     clear hk1 hnn yE;clear HYD0 HFD0 QU VV;obtain ⟨A,rfl⟩:∃A,A=A':=⟨_,rfl⟩;obtain ⟨n,rfl⟩:∃n,n=n':=⟨_,rfl⟩;obtain ⟨cp,rfl⟩:∃c,c=cp':=⟨_,rfl⟩;clear v0 v1 v2 v3 v7 dQ yY yZ y7 y8 y9 zf zh zi y13 zk;have v0:wc.cell? ⟨w.heap.size,0,none⟩=some (I ep):=gK.out.z.cell 0;have v1:wc.cell? ⟨w.heap.size,1,none⟩=some (.slice A0 n0 a):=gK.out.z.cell 1;have v2:wc.cell? ⟨w.heap.size,2,none⟩=some (I lp):=gK.out.z.cell 2;have v3:wc.cell? ⟨w.heap.size,3,none⟩=some (.slice R0 n1 r):=gK.out.z.cell 3;have v7:wc.cell? ⟨w.heap.size,7,none⟩=some (.slice (some ⟨yb,yo,none⟩) 2 d0):=gK.out.z.cell 7;have dQ:=ae (HY.out wc gK.out.lo);have yY:wc.cell? ⟨yb,yo,none⟩=some (I r0.month):=dQ.out.a 0 _ rfl;have yZ:wc.cell? ⟨yb,yo+1,none⟩=some (I r0.di):=dQ.out.a 1 _ rfl;have y7:wc.cell? ⟨yb,yo+2,none⟩=some (I r0.dm):=dQ.out.a 2 _ rfl;have y8:wc.cell? ⟨yb,yo+3,none⟩=some (I r0.minute):=dQ.out.a 3 _ rfl;have y9:wc.cell? ⟨yb,yo+4,none⟩=some (I r0.off):=dQ.out.a 4 _ rfl;have zf:wc.cell? ⟨yb,yo+5,none⟩=some (I r1.month):=dQ.out.b 0 _ rfl;have zh:wc.cell? ⟨yb,yo+6,none⟩=some (I r1.di):=dQ.out.b 1 _ rfl;have zi:wc.cell? ⟨yb,yo+7,none⟩=some (I r1.dm):=dQ.out.b 2 _ rfl;have y13:wc.cell? ⟨yb,yo+8,none⟩=some (I r1.minute):=dQ.out.b 3 _ rfl;have zk:wc.cell? ⟨yb,yo+9,none⟩=some (I r1.off):=dQ.out.b 4 _ rfl;go_wp2_with fail;rw [rounds_succ];go_upto_block 3 with fail;obtain ⟨DI,GU⟩:∃t,pg cal bg yy r1 r0 wZ=t:=⟨_,rfl⟩;have lX:=fun (W:World) hb=>Wh.out bg yy r1 W PM.out (by omega) (by omega) hb;have Xi:=HYB.out bg yy r1 PM.out;obtain ⟨pr1,CV⟩:∃pr,QP cal bg yy r1=pr:=⟨_,rfl⟩;rw [CV] at lX Xi;have hps1:=GU;unfold pg at hps1;rw [CV] at hps1;obtain ⟨fd1,VK⟩:=pr1;simp only at lX Xi hps1;have HYD1:=ae lX;have HFD1:Hid (VK=true→bg - 10≤fd1∧fd1≤bg+800):=ae (fun _=>Xi);have Gj:Hid (VK=true→DI=wZ++ [⟨fd1*1440+r1.minute - r0.off,r1.off⟩]):=ae (fun h=>by rw [←hps1,if_pos h]);have VW:Hid (VK=false→DI=wZ):=ae (fun h=>by rw [←hps1,if_neg (by rw [h];decide)]);have HTS1:=ae GU;clear GU lX Xi CV hps1
     go_cut [10] (fun _ wx=>∃(A':Option Addr) (n' cp':Nat),n'≤n+1∧qI w [I ep, .slice A0 n0 a,I lp, .slice R0 n1 r,I st, .slice C0 n2 c0,I ho, .slice (some ⟨yb,yo,none⟩) 2 d0] q A' n' cp' DI wx)
     case first=>
      go_upto_region 15 with (first
       |((with_reducible refine bu 130 ?_);refine aN rfl 130 rfl #[I 0,I 0,I 0,I 0,I 0] (by kernel_rfl) ?_)
       |((with_reducible refine bV 130 ?_);go_must (refine wpList_store_row rfl _ _ _ rfl wc.heap.size #[I r1.month,I r1.di,I r1.dm,I r1.minute,I r1.off] rfl rfl 130 #[I 0,I 0,I 0,I 0,I 0] (heap_alloc_last wc _) (by kernel_rfl) rfl (by simp [Value.oneCell']) ?_)))
      have hb2:Below wc.heap.size wc ((wc.alloc (.cells #[I 0,I 0,I 0,I 0,I 0] 130)).setRow wc.heap.size #[I r1.month,I r1.di,I r1.dm,I r1.minute,I r1.off]):=aC (ag wc _) (Nat.le_refl _) _;have HR2:=ae (AV.oH (AV.new wc #[I 0,I 0,I 0,I 0,I 0] 130) #[I r1.month,I r1.di,I r1.dm,I r1.minute,I r1.off]);have BI:Hid (some wc.heap.size≠(Value.slice A n cp).ownBlock):=ae (uy (fun g hg=>(World.ownsRow.lt gK.out.own g hg).2));have RX:Hid (wc.heap.size≠w.heap.size+1):=ae (by have:=gK.out.k.lt;omega);have ja:=ae (gK.out.grow hb2);clear hb2 gK;clear v0 v1 v2 v3 v7;clear dQ yY yZ y7 y8 y9 zf zh zi y13 zk;generalize (wc.alloc (.cells #[I 0,I 0,I 0,I 0,I 0] 130)).setRow wc.heap.size #[I r1.month,I r1.di,I r1.dm,I r1.minute,I r1.off]=W2 at ja HR2 ⊢;generalize wc.heap.size=rb at HR2 BI RX ⊢;have v0:W2.cell? ⟨w.heap.size,0,none⟩=some (I ep):=ja.out.z.cell 0;have v1:W2.cell? ⟨w.heap.size,1,none⟩=some (.slice A0 n0 a):=ja.out.z.cell 1;have v2:W2.cell? ⟨w.heap.size,2,none⟩=some (I lp):=ja.out.z.cell 2;have v3:W2.cell? ⟨w.heap.size,3,none⟩=some (.slice R0 n1 r):=ja.out.z.cell 3;have v7:W2.cell? ⟨w.heap.size,7,none⟩=some (.slice (some ⟨yb,yo,none⟩) 2 d0):=ja.out.z.cell 7;clear v7;have u0:W2.cell? ⟨rb,0,none⟩=some (I r1.month):=HR2.out.cell 0;have u1:W2.cell? ⟨rb,1,none⟩=some (I r1.di):=HR2.out.cell 1;have u2:W2.cell? ⟨rb,2,none⟩=some (I r1.dm):=HR2.out.cell 2;have u3:W2.cell? ⟨rb,3,none⟩=some (I r1.minute):=HR2.out.cell 3;have u4:W2.cell? ⟨rb,4,none⟩=some (I r1.off):=HR2.out.cell 4;go_wp2_with fail;refine (HYD1.out W2 ja.out.lo).mono ?_;rintro e w3 ⟨rfl,hb3⟩;have kX:=ae (ja.out.grow hb3);have HR3:=ae (HR2.out.below hb3);clear hb3 ja HR2 v0 v1 v2 v3 u0 u1 u2 u3 u4;cases VK with
      |false=>
       have HEF:=ae (VW.out rfl);clear VW Gj;go_wp2_with fail;go_meet;exact ⟨A,n,cp,by omega,by rw [HEF.out];exact kX.out⟩
      |true=>
       have HE1T:=ae (Gj.out rfl);clear Gj VW;have hfd:=HFD1.out rfl;go_upto_region 17 with fail;have hS0:KP rb w.heap.size yb (yo+4) r1.minute r1.off r0.off (.slice (some ⟨yb,yo,none⟩) 2 d0) w3.drew:=⟨HR3.out.drew.cell 3,HR3.out.drew.cell 4,kX.out.drew.z.cell 7,(HY.out _ kX.out.drew.lo).a 4 _ rfl⟩;have HKB1:=ae kX.out.drew;have BH:=ae HR3.out.drew;clear kX HR3;refine wp_region_held_drew (S:=KP rb w.heap.size yb (yo+4) r1.minute r1.off r0.off (.slice (some ⟨yb,yo,none⟩) 2 d0)) (by kernel_rfl) hS0 (fun _=>?_);generalize w3.drew=V at hS0 HKB1 BH ⊢;have wk0:IntKind.i64.wrap 0=0:=by rw [IntKind.wrap_i64];omega
       have w1:IntKind.i64.wrap (fd1*1440)=fd1*1440:=by rw [IntKind.wrap_i64];omega
       have w2:IntKind.i64.wrap (fd1*1440+r1.minute)=fd1*1440+r1.minute:=by rw [IntKind.wrap_i64];omega
       have w3:IntKind.i64.wrap (fd1*1440+r1.minute - r0.off)=fd1*1440+r1.minute - r0.off:=by rw [IntKind.wrap_i64];omega
       refine aO 0 (.pointer (some ⟨w.heap.size+1,0,none⟩)) 79 hS0 (fun w' hSw=>?_) ?_
       ·clear hSw
        first|(go_simp;done)|(go_simp;with_reducible rfl)
       refine ay ?_;refine aO 1 (.pointer (some ⟨w.heap.size+1,0,none⟩)) 80 hS0 (fun w' hSw=>?_) ?_
       ·clear hSw
        first|(go_simp;done)|(go_simp;with_reducible rfl)
       refine ay ?_;refine aO 2 (.pointer (some ⟨w.heap.size+1,0,none⟩)) 81 hS0 (fun w' hSw=>?_) ?_
       ·clear hSw
        first|(go_simp;done)|(go_simp;with_reducible rfl)
       refine ay ?_;refine aO 3 (.pointer (some ⟨w.heap.size+1,8,none⟩)) 82 hS0 (fun w' hSw=>?_) ?_
       ·clear hSw
        first|(go_simp;done)|(go_simp;with_reducible rfl)
       refine ay ?_;refine aO 5 (I fd1) 84 hS0 (fun w' hSw=>?_) ?_
       ·clear hSw
        first|(go_simp;done)|(go_simp;with_reducible rfl)
       refine ay ?_;refine aO 6 (I (fd1*1440)) 85 hS0 (fun w' hSw=>?_) ?_
       ·clear hSw
        first|(go_simp;done)|(go_simp;with_reducible rfl)
       refine ay ?_;refine aO 7 (.pointer (some ⟨rb,3,none⟩)) 86 hS0 (fun w' hSw=>?_) ?_
       ·clear hSw
        first|(go_simp;done)|(go_simp;with_reducible rfl)
       refine ay ?_;refine aO 8 (I r1.minute) 87 hS0 (fun w' hSw=>?_) ?_
       ·obtain ⟨s0,s1,s2,s3⟩:=hSw
        first|(go_simp;done)|(go_simp;with_reducible rfl)
       refine ay ?_;refine aO 9 (I (fd1*1440+r1.minute)) 88 hS0 (fun w' hSw=>?_) ?_
       ·clear hSw
        first|(go_simp;done)|(go_simp;with_reducible rfl)
       refine ay ?_;refine aO 10 (.pointer (some ⟨w.heap.size,7,none⟩)) 89 hS0 (fun w' hSw=>?_) ?_
       ·clear hSw
        first|(go_simp;done)|(go_simp;with_reducible rfl)
       refine ay ?_;refine aO 11 (.slice (some ⟨yb,yo,none⟩) 2 d0) 90 hS0 (fun w' hSw=>?_) ?_
       ·obtain ⟨s0,s1,s2,s3⟩:=hSw
        first|(go_simp;done)|(go_simp;with_reducible rfl)
       refine ay ?_;refine aO 12 (I 1) 91 hS0 (fun w' hSw=>?_) ?_
       ·clear hSw
        first|(go_simp;done)|(go_simp;with_reducible rfl)
       refine ay ?_;refine aO 13 (I 0) 92 hS0 (fun w' hSw=>?_) ?_
       ·clear hSw
        first|(go_simp;done)|(go_simp;with_reducible rfl)
       refine ay ?_;refine aO 14 (.pointer (some ⟨yb,yo,none⟩)) 93 hS0 (fun w' hSw=>?_) ?_
       ·clear hSw
        first|(go_simp;done)|(go_simp;with_reducible rfl)
       refine ay ?_;refine aO 15 (.pointer (some ⟨yb,yo+4,none⟩)) 94 hS0 (fun w' hSw=>?_) ?_
       ·clear hSw
        first|(go_simp;done)|(go_simp;with_reducible rfl)
       refine ay ?_;refine aO 16 (I r0.off) 95 hS0 (fun w' hSw=>?_) ?_
       ·obtain ⟨s0,s1,s2,s3⟩:=hSw
        first|(go_simp;done)|(go_simp;with_reducible rfl)
       refine ay ?_;refine aO 17 (I (fd1*1440+r1.minute - r0.off)) 96 hS0 (fun w' hSw=>?_) ?_
       ·clear hSw
        first|(go_simp;done)|(go_simp;with_reducible rfl)
       refine ay ?_;refine aO 18 (.pointer (some ⟨rb,4,none⟩)) 97 hS0 (fun w' hSw=>?_) ?_
       ·clear hSw
        first|(go_simp;done)|(go_simp;with_reducible rfl)
       refine ay ?_;refine aO 19 (I r1.off) 98 hS0 (fun w' hSw=>?_) ?_
       ·obtain ⟨s0,s1,s2,s3⟩:=hSw
        first|(go_simp;done)|(go_simp;with_reducible rfl)
       refine ay ?_;refine mQ 20 ( .agg #[I (fd1*1440+r1.minute - r0.off),I r1.off]) 99 rfl rfl hS0 (df rfl 100 _ rfl _ (by kernel_rfl)) ?_;refine ay ?_;refine mP 4 21 (fun K hK=>?_) (fun K hK=>?_)
       ·have c8:V.cell? ⟨w.heap.size+1,8,none⟩=some (.slice A n cp):=HKB1.out.k.cell 8;go_simp;clear c8;refine hK.out _ _ hS0 (fun _=>?_);clear hK K;refine ay ?_;refine bT 21 (fun K hK=>?_);go_simp;have hS5:KP rb w.heap.size yb (yo+4) r1.minute r1.off r0.off (.slice (some ⟨yb,yo,none⟩) 2 d0) (V.alloc (.cells #[I (fd1*1440+r1.minute - r0.off),I r1.off] 100)):=⟨(BH.out.below (ag _ _)).cell 3,(BH.out.below (ag _ _)).cell 4,(HKB1.out.grow (ag _ _)).z.cell 7,(HY.out _ (HKB1.out.grow (ag _ _)).lo).a 4 _ rfl⟩;refine hK.out _ _ hS5 (fun _=>?_);clear hK K;refine ay ?_;refine bT 22 (fun K hK=>?_);have hvl:=HKB1.out.k.lt;refine step_append_lies _ (by rfl) _ _ _ (by rfl) (w.heap.size+2) 100 i0 (.agg #[I 0,I 0]) 2 16 Tryz.underlying48 HI.out sU.out jS.out jr.out rfl (by omega) (.slice A n cp) n (wZ.flatMap Tr.cells) (by rfl) (own_below HKB1.out.own (ag _ _)) ⟨V.heap.size,0,none⟩ 1 1 [I (fd1*1440+r1.minute - r0.off),I r1.off] (by rfl) rfl (dL V _ _ _ rfl) (wP ⟨fd1*1440+r1.minute - r0.off,r1.off⟩) (by omega) (by unfold maxLen;omega) (by omega) (by simp;omega) _ rfl ?_;intro gg cap w6 hown6 hgrow6 _ _;have hxk:=ae (qI.add (x:=⟨fd1*1440+r1.minute - r0.off,r1.off⟩) HKB1.out rfl rfl hown6 hgrow6);have Ar:Hid (AV rb 130 #[I r1.month,I r1.di,I r1.dm,I r1.minute,I r1.off] w6):=ae ⟨(hgrow6.block _ (by have:=BH.out.lt;simp;omega) BI.out).trans ((Below.heap_alloc _ _ _ BH.out.lt).trans BH.out.var)⟩;have hk6:Hid (AV (w.heap.size+1) 92 ([I ep, .slice A0 n0 a,I lp, .slice R0 n1 r,I st, .slice C0 n2 c0,I ho, .slice (some ⟨yb,yo,none⟩) 2 d0]++ [Value.slice A n cp,I q]).toArray w6):=ae ⟨(hgrow6.block _ (by have:=HKB1.out.k.lt;simp;omega) (eG HKB1.out.own _ (by omega))).trans ((Below.heap_alloc _ _ _ HKB1.out.k.lt).trans HKB1.out.k.var)⟩;have FC:Hid (AV w.heap.size 51 #[I ep, .slice A0 n0 a,I lp, .slice R0 n1 r,I st, .slice C0 n2 c0,I ho, .slice (some ⟨yb,yo,none⟩) 2 d0] w6):=ae ⟨(hgrow6.block _ (by have:=HKB1.out.z.lt;simp;omega) (eG HKB1.out.own _ (by omega))).trans ((Below.heap_alloc _ _ _ HKB1.out.z.lt).trans HKB1.out.z.var)⟩;have MH:Hid (w6.cell? ⟨yb,yo+4,none⟩=some (I r0.off)):=ae (by
         have hb6:Below w.heap.size w w6:=bZ (ah HKB1.out.lo (ag _ _)) (aX (own_below HKB1.out.own (ag _ _)) (by omega)) (ah HKB1.out.lo (ag _ _)).size hgrow6;exact (HY.out w6 hb6).a 4 _ rfl)
        clear hown6 hgrow6;have hS6:KP rb w.heap.size yb (yo+4) r1.minute r1.off r0.off (.slice (some ⟨yb,yo,none⟩) 2 d0) w6:=⟨Ar.out.cell 3,Ar.out.cell 4,FC.out.cell 7,MH.out⟩;refine hK.out _ _ hS6 (fun _=>?_);clear hK K;try simp only [Act.put,List.setIfInBounds_toArray]
        refine aO 23 (.pointer (some ⟨w.heap.size+1,0,none⟩)) 102 hS6 (fun w' hSw=>?_) ?_
        ·clear hSw
         first|(go_simp;done)|(go_simp;with_reducible rfl)
        try simp only [Act.put]
        refine aO 24 (.pointer (some ⟨w.heap.size+1,8,none⟩)) 103 hS6 (fun w' hSw=>?_) ?_
        ·clear hSw
         first|(go_simp;done)|(go_simp;with_reducible rfl)
        try simp only [Act.put]
        refine bT 25 (fun K hK=>?_);have c8:=hk6.out.cell 8;have f8:=hk6.out.gG 8;go_simp;have hS7:KP rb w.heap.size yb (yo+4) r1.minute r1.off r0.off (.slice (some ⟨yb,yo,none⟩) 2 d0) (w6.setCell ⟨w.heap.size+1,8,none⟩ (.slice (some ⟨gg,0,none⟩) (n+1) cap)):=⟨(Ar.out.far RX.out 8 _).cell 3,(Ar.out.far RX.out 8 _).cell 4,hxk.out.z.cell 7,(HY.out _ hxk.out.lo).a 4 _ rfl⟩;refine hK.out _ _ hS7 (fun _=>?_);clear hK K;refine wpAnyH_done (by kernel_rfl) ?_ _;go_wp2_with fail;go_meet;exact ⟨some ⟨gg,0,none⟩,n+1,cap,by omega,by rw [show DI=wZ++ [⟨fd1*1440+r1.minute - r0.off,r1.off⟩] from HE1T.out];exact hxk.out⟩
       ·go_simp;have hS5:KP rb w.heap.size yb (yo+4) r1.minute r1.off r0.off (.slice (some ⟨yb,yo,none⟩) 2 d0) (V.alloc (.cells #[I (fd1*1440+r1.minute - r0.off),I r1.off] 100)):=⟨(BH.out.below (ag _ _)).cell 3,(BH.out.below (ag _ _)).cell 4,(HKB1.out.grow (ag _ _)).z.cell 7,(HY.out _ (HKB1.out.grow (ag _ _)).lo).a 4 _ rfl⟩;refine hK.out _ _ hS5 (fun _=>?_);clear hK K;refine ay ?_;refine bT 4 (fun K hK=>?_);have c8:(V.alloc (.cells #[I (fd1*1440+r1.minute - r0.off),I r1.off] 100)).cell? ⟨w.heap.size+1,8,none⟩=some (.slice A n cp):=(HKB1.out.grow (ag _ _)).k.cell 8;go_simp;clear c8;refine hK.out _ _ hS5 (fun _=>?_);clear hK K;refine ay ?_;refine bT 22 (fun K hK=>?_);have hvl:=HKB1.out.k.lt;refine step_append_lies _ (by rfl) _ _ _ (by rfl) (w.heap.size+2) 100 i0 (.agg #[I 0,I 0]) 2 16 Tryz.underlying48 HI.out sU.out jS.out jr.out rfl (by omega) (.slice A n cp) n (wZ.flatMap Tr.cells) (by rfl) (own_below HKB1.out.own (ag _ _)) ⟨V.heap.size,0,none⟩ 1 1 [I (fd1*1440+r1.minute - r0.off),I r1.off] (by rfl) rfl (dL V _ _ _ rfl) (wP ⟨fd1*1440+r1.minute - r0.off,r1.off⟩) (by omega) (by unfold maxLen;omega) (by omega) (by simp;omega) _ rfl ?_;intro gg cap w6 hown6 hgrow6 _ _;have hxk:=ae (qI.add (x:=⟨fd1*1440+r1.minute - r0.off,r1.off⟩) HKB1.out rfl rfl hown6 hgrow6);have Ar:Hid (AV rb 130 #[I r1.month,I r1.di,I r1.dm,I r1.minute,I r1.off] w6):=ae ⟨(hgrow6.block _ (by have:=BH.out.lt;simp;omega) BI.out).trans ((Below.heap_alloc _ _ _ BH.out.lt).trans BH.out.var)⟩;have hk6:Hid (AV (w.heap.size+1) 92 ([I ep, .slice A0 n0 a,I lp, .slice R0 n1 r,I st, .slice C0 n2 c0,I ho, .slice (some ⟨yb,yo,none⟩) 2 d0]++ [Value.slice A n cp,I q]).toArray w6):=ae ⟨(hgrow6.block _ (by have:=HKB1.out.k.lt;simp;omega) (eG HKB1.out.own _ (by omega))).trans ((Below.heap_alloc _ _ _ HKB1.out.k.lt).trans HKB1.out.k.var)⟩;have FC:Hid (AV w.heap.size 51 #[I ep, .slice A0 n0 a,I lp, .slice R0 n1 r,I st, .slice C0 n2 c0,I ho, .slice (some ⟨yb,yo,none⟩) 2 d0] w6):=ae ⟨(hgrow6.block _ (by have:=HKB1.out.z.lt;simp;omega) (eG HKB1.out.own _ (by omega))).trans ((Below.heap_alloc _ _ _ HKB1.out.z.lt).trans HKB1.out.z.var)⟩;have MH:Hid (w6.cell? ⟨yb,yo+4,none⟩=some (I r0.off)):=ae (by
         have hb6:Below w.heap.size w w6:=bZ (ah HKB1.out.lo (ag _ _)) (aX (own_below HKB1.out.own (ag _ _)) (by omega)) (ah HKB1.out.lo (ag _ _)).size hgrow6;exact (HY.out w6 hb6).a 4 _ rfl)
        clear hown6 hgrow6;have hS6:KP rb w.heap.size yb (yo+4) r1.minute r1.off r0.off (.slice (some ⟨yb,yo,none⟩) 2 d0) w6:=⟨Ar.out.cell 3,Ar.out.cell 4,FC.out.cell 7,MH.out⟩;refine hK.out _ _ hS6 (fun _=>?_);clear hK K;try simp only [Act.put,List.setIfInBounds_toArray]
        refine aO 23 (.pointer (some ⟨w.heap.size+1,0,none⟩)) 102 hS6 (fun w' hSw=>?_) ?_
        ·clear hSw
         first|(go_simp;done)|(go_simp;with_reducible rfl)
        try simp only [Act.put]
        refine aO 24 (.pointer (some ⟨w.heap.size+1,8,none⟩)) 103 hS6 (fun w' hSw=>?_) ?_
        ·clear hSw
         first|(go_simp;done)|(go_simp;with_reducible rfl)
        try simp only [Act.put]
        refine bT 25 (fun K hK=>?_);have c8:=hk6.out.cell 8;have f8:=hk6.out.gG 8;go_simp;have hS7:KP rb w.heap.size yb (yo+4) r1.minute r1.off r0.off (.slice (some ⟨yb,yo,none⟩) 2 d0) (w6.setCell ⟨w.heap.size+1,8,none⟩ (.slice (some ⟨gg,0,none⟩) (n+1) cap)):=⟨(Ar.out.far RX.out 8 _).cell 3,(Ar.out.far RX.out 8 _).cell 4,hxk.out.z.cell 7,(HY.out _ hxk.out.lo).a 4 _ rfl⟩;refine hK.out _ _ hS7 (fun _=>?_);clear hK K;refine wpAnyH_done (by kernel_rfl) ?_ _;go_wp2_with fail;go_meet;exact ⟨some ⟨gg,0,none⟩,n+1,cap,by omega,by rw [show DI=wZ++ [⟨fd1*1440+r1.minute - r0.off,r1.off⟩] from HE1T.out];exact hxk.out⟩
     case rest=>
      obtain ⟨A',n',cp',hnn,hk2⟩:=hcut;have ja:=ae hk2;have hnd:(n':Int)≤2*yy:=by omega
      clear hk2 hnn gK HYD1 HFD1 Gj VW v0 v1 v2 v3 v7 dQ yY yZ y7 y8 y9 zf zh zi y13 zk;have v0:wc.cell? ⟨w.heap.size,0,none⟩=some (I ep):=ja.out.z.cell 0;have v1:wc.cell? ⟨w.heap.size,1,none⟩=some (.slice A0 n0 a):=ja.out.z.cell 1;have v2:wc.cell? ⟨w.heap.size,2,none⟩=some (I lp):=ja.out.z.cell 2;have v3:wc.cell? ⟨w.heap.size,3,none⟩=some (.slice R0 n1 r):=ja.out.z.cell 3;have v7:wc.cell? ⟨w.heap.size,7,none⟩=some (.slice (some ⟨yb,yo,none⟩) 2 d0):=ja.out.z.cell 7;go_wp2_with fail;rw [rounds_succ];have hbd2:=HYRB.out yy;have hge:=hbd2.1;have Eh:Hid (vY DI):=ae (by rw [←HTS1.out,←HTS0.out];exact HPB.out bg yy r1 r0 _ PM.out PL.out hb0 (by omega) (HPB.out bg yy r0 r1 ts PL.out PM.out hb0 (by omega) tK.out));obtain ⟨f',hf1,hf2⟩:=UI HF.out hlt YN.out hge;rw [HTS0.out,HTS1.out] at hf2;obtain ⟨yl,hyl⟩:∃v,Bh cal yy=v:=⟨_,rfl⟩;have hcy:=lW.out yy wc ja.out.lo;rw [hyl] at hf1 hf2 hcy hge hbd2;have VX:=ae hf1;have HF2:=ae hf2;have gJ:=ae hcy;clear hcy hyl hf1 hf2;go_wp2_with fail;refine gJ.out.mono ?_;rintro e w9 ⟨rfl,Ap⟩;have HK9:=ae (ja.out.grow Ap);clear Ap ja v0 v1 v2 v3 v7;go_wp2_with fail;go_roundw
      case rel=>exact ⟨f',bg+yl,yy+1,A',n',cp',DI,by go_num,by go_num,by omega,by omega,by omega,by omega,by omega,VX.out,HF2.out,Eh.out,HK9.out⟩
      case measure=>simp [intOf];omega
   ·have hre:=Qu HF.out hlt;subst hre;clear HF YN;go_wp2_with fail;go_quiet (fail);obtain ⟨W7,TT⟩:∃W,wr.drewN nq=W:=⟨_,rfl⟩;rw [TT];have yE:Hid (qI w [I ep, .slice A0 n0 a,I lp, .slice R0 n1 r,I st, .slice C0 n2 c0,I ho, .slice (some ⟨yb,yo,none⟩) 2 d0] q A n cp ts W7):=ae (by rw [←TT];exact HW.out.drewN nq);clear TT v0 c9 HW;have c8:W7.cell? ⟨w.heap.size+1,8,none⟩=some (.slice A n cp):=yE.out.k.cell 8;have HSRT:=ae (JU yE.out.own yE.out.len (by omega));go_wp2_with fail;refine HSRT.out.mono ?_;rintro e w8 ⟨rfl,us,hp,hs,ho,hg⟩;have HGS:Hid (dZ us (q*1440)=dZ ys (q*1440)):=ae (Qd (hp.trans RS.out.symm) hs HPS.out);have yw:Hid (dZ ys (q*1440)=true→us=ys):=ae (fun h=>uU h (hp.trans RS.out.symm) hs);have hul:us.length=n:=by rw [hp.length_eq];exact yE.out.len
    have YO:=ae (yE.out.sorted hul ho hg);have HUB:Hid (vY us):=ae (tK.out.perm hp);clear hp hs ho hg HSRT yE c8 RS HPS tK;have c8:w8.cell? ⟨w.heap.size+1,8,none⟩=some (.slice A n cp):=YO.out.k.cell 8;go_wp2_with fail;clear c8
    go_loopw [121] (fun i wr=>∃k:Nat,k≤n∧i=I (k:Nat)∧(∀j,j<k→2160≤lK us (q*1440) j)∧qI w [I ep, .slice A0 n0 a,I lp, .slice R0 n1 r,I st, .slice C0 n2 c0,I ho, .slice (some ⟨yb,yo,none⟩) 2 d0] q A n cp us wr) (fun i _=>n - (intOf i).toNat)
    case atStart=>exact ⟨0,Nat.zero_le _,rfl,(fun j hj=>by omega),YO.out⟩
    case round=>
     clear YO;obtain ⟨k,hkn,rfl,hgj,hks⟩:=hrel;have HGJ:=ae hgj;have HX:=ae hks;clear hks hgj;by_cases hlt2:k<n
     ·have i1:(k:Int)<(n:Int):=by omega
      have Ri:(0:Int)≤(k:Int):=by omega
      obtain ⟨gp,hga⟩:∃v,lK us (q*1440) k=v:=⟨_,rfl⟩;have HGK:=ae hga;unfold lK at hga;rw [hul] at hga;have a0:=xk 0 HUB.out;have ak:=xk k HUB.out;have ak1:=xk (k+1) HUB.out;obtain ⟨g,hAg⟩:∃g,A=some ⟨g,0,none⟩:=by
       rcases HX.out.own.2 with ⟨_,hz⟩|⟨g,cap,cur,hv,_⟩
       ·omega
       ·injection hv with h1 _ _;exact ⟨g,h1⟩
      subst hAg;have HAT:=ae (fun (W:World) (h:qI w [I ep, .slice A0 n0 a,I lp, .slice R0 n1 r,I st, .slice C0 n2 c0,I ho, .slice (some ⟨yb,yo,none⟩) 2 d0] q (some ⟨g,0,none⟩) n cp us W) (j:Nat) (hj:j<n)=>rY h.own h.len j hj);have HOF:=ae (uV HX.out.own HX.out.len k hlt2);obtain ⟨t0,ht0⟩:∃t,fU us 0=t:=⟨_,rfl⟩;obtain ⟨tk,htk⟩:∃t,fU us k=t:=⟨_,rfl⟩;obtain ⟨tl,htl⟩:∃t,fU us (k+1)=t:=⟨_,rfl⟩;obtain ⟨ok,hok⟩:∃t,kN us k=t:=⟨_,rfl⟩;have yC:Hid (∀W,qI w [I ep, .slice A0 n0 a,I lp, .slice R0 n1 r,I st, .slice C0 n2 c0,I ho, .slice (some ⟨yb,yo,none⟩) 2 d0] q (some ⟨g,0,none⟩) n cp us W→W.cell? ⟨g,0,none⟩=some (I t0)):=ae (fun W h=>by have:=HAT.out W h 0 (by omega);rw [ht0] at this;simpa using this);have HAL:Hid (∀W,qI w [I ep, .slice A0 n0 a,I lp, .slice R0 n1 r,I st, .slice C0 n2 c0,I ho, .slice (some ⟨yb,yo,none⟩) 2 d0] q (some ⟨g,0,none⟩) n cp us W→k+1<n→W.cell? ⟨g,(k+1)*2,none⟩=some (I tl)):=ae (fun W h hj=>by have:=HAT.out W h (k+1) hj;rw [htl] at this;exact this);have e0:=HAT.out wr HX.out k hlt2;have e1:=HOF.out;rw [htk] at e0;rw [hok] at e1;rw [ht0,htk,htl] at hga;rw [ht0] at a0;rw [htk] at ak;rw [htl] at ak1;clear ht0 htk htl hok HAT HOF;go_upto_region 24 with (first
       |((with_reducible refine bu 100 ?_);refine aN rfl 100 rfl #[I 0,I 0] (by kernel_rfl) ?_)
       |((with_reducible refine bV 100 ?_);go_must (refine wpList_store_row rfl _ _ _ rfl wr.heap.size #[I tk,I ok] rfl rfl 100 #[I 0,I 0] (heap_alloc_last wr _) (by kernel_rfl) rfl (by simp [Value.oneCell']) ?_)))
      have hbr:Below wr.heap.size wr ((wr.alloc (.cells #[I 0,I 0] 100)).setRow wr.heap.size #[I tk,I ok]):=aC (ag wr _) (Nat.le_refl _) _;have PU:=ae (AV.oH (AV.new wr #[I 0,I 0] 100) #[I tk,I ok]);have yI:=ae (HX.out.grow hbr);clear hbr HX e0 e1;generalize (wr.alloc (.cells #[I 0,I 0] 100)).setRow wr.heap.size #[I tk,I ok]=W2 at yI PU ⊢;generalize wr.heap.size=rb at PU ⊢;have c8:W2.cell? ⟨w.heap.size+1,8,none⟩=some (.slice (some ⟨g,0,none⟩) n cp):=yI.out.k.cell 8;have c9:W2.cell? ⟨w.heap.size+1,9,none⟩=some (I q):=yI.out.k.cell 9;have a00:=yC.out W2 yI.out;have hn0:0<n:=by omega
      have wq:IntKind.i64.wrap (q*1440)=q*1440:=by rw [IntKind.wrap_i64];omega
      have wt:IntKind.i64.wrap (t0+q*1440)=t0+q*1440:=by rw [IntKind.wrap_i64];omega
      go_quiet ((go_at_call 59;exact wH _ q W2 c9 (by omega) (by omega) _));obtain ⟨W3,hW3⟩:∃W,W2.drewN nq=W:=⟨_,rfl⟩;rw [hW3];have Iw:Hid (qI w [I ep, .slice A0 n0 a,I lp, .slice R0 n1 r,I st, .slice C0 n2 c0,I ho, .slice (some ⟨yb,yo,none⟩) 2 d0] q (some ⟨g,0,none⟩) n cp us W3):=ae (by rw [←hW3];exact yI.out.drewN nq);have HR3:Hid (AV rb 100 #[I tk,I ok] W3):=ae (by rw [←hW3];exact PU.out.below (below_drewN' _ _));clear hW3 c8 c9 a00 yI PU;have c8:W3.cell? ⟨w.heap.size+1,8,none⟩=some (.slice (some ⟨g,0,none⟩) n cp):=Iw.out.k.cell 8;have r00:W3.cell? ⟨rb,0,none⟩=some (I tk):=HR3.out.cell 0;by_cases hl:k+1<n
      ·have i2:(k:Int)+1<(n:Int):=by omega
       have al:=HAL.out W3 Iw.out hl;rw [if_pos hl] at hga;clear yC HAL;by_cases hgb:gp<2160
       ·have hnl:tl - tk<2160:=by omega
        have HF:Hid (dZ ys (q*1440)=false):=ae (by rw [←HGS.out];exact Js (k:=k) (by rw [hul];exact hlt2) (by rw [HGK.out];exact hgb));clear hga;go_wp2_with fail;go_ret2;exact Or.inr ⟨HF.out,rfl,Iw.out.lo⟩
       ·have hnl:¬tl - tk<2160:=by omega
        have HN:Hid (∀j,j<k+1→2160≤lK us (q*1440) j):=ae (fun j hj=>by
         by_cases hj2:j<k
         ·exact HGJ.out j hj2
         ·rw [show j=k by omega,HGK.out];omega)
        clear hga;go_wp2_with fail;go_roundw
        case rel=>exact ⟨k+1,by omega,by go_num,HN.out,Iw.out⟩
        case measure=>simp [intOf];omega
      ·have i2:¬(k:Int)+1<(n:Int):=by omega
       rw [if_neg hl] at hga;clear yC HAL;by_cases hgb:gp<2160
       ·have hnl:t0+q*1440 - tk<2160:=by omega
        have HF:Hid (dZ ys (q*1440)=false):=ae (by rw [←HGS.out];exact Js (k:=k) (by rw [hul];exact hlt2) (by rw [HGK.out];exact hgb));clear hga;go_wp2_with fail;go_ret2;exact Or.inr ⟨HF.out,rfl,Iw.out.lo⟩
       ·have hnl:¬t0+q*1440 - tk<2160:=by omega
        have HN:Hid (∀j,j<k+1→2160≤lK us (q*1440) j):=ae (fun j hj=>by
         by_cases hj2:j<k
         ·exact HGJ.out j hj2
         ·rw [show j=k by omega,HGK.out];omega)
        clear hga;go_wp2_with fail;go_roundw
        case rel=>exact ⟨k+1,by omega,by go_num,HN.out,Iw.out⟩
        case measure=>simp [intOf];omega
     ·have i1:¬(k:Int)<(n:Int):=by omega
      have vX:Hid (dZ us (q*1440)=true):=ae (Jt hul fun j hj=>HGJ.out j (by omega));have yz:Hid (dZ ys (q*1440)=true):=ae (HGS.out.symm.trans vX.out);go_wp2_with fail;go_ret2;exact Or.inl ⟨yz.out,rfl,A,n,cp,by rw [←yw.out yz.out];exact HX.out⟩
end Go.Proofs.YtdibbemgpikgjaaGreat
