/- The texts Ji, in this order. -/
import Derived.Test.YtbaehbbonkljpaaGreatR00
import Derived.Test.YtbaehbbonkljpaaGreatR14
import Derived.Test.YtbaehbbonkljpaaGreatR16
import Derived.Test.YtbaehbbonkljpaaGreatR17
import Derived.Test.YtbaehbbonkljpaaGreatR18
set_option maxRecDepth 10000
set_option maxHeartbeats 8000000
namespace Go.Proofs.YtbaehbbonkljpaaGreat
open Go Go.RowKit
theorem tickG (z:Zn) (s:Zs) (r0 r1:Yr) (w:World) (hc:eH z.cal) (h:jy w w.heap.size s z) (hy:z.ax= [r0,r1]) (hr0:rM z.cal.aj.length r0) (hr1:rM z.cal.aj.length r1):
  Calls Tryz.prog 76 #[.agg (au z s)] w fun e w'=>(ed (rP z) (fV z*1440)=true∧e= .returned (.tuple #[.pointer (some ⟨w.heap.size+1,0,none⟩), .bool true])∧∃A n c,pW w (au z s).toList (fV z) A n c (rP z) w')∨(ed (rP z) (fV z*1440)=false∧e= .returned (.tuple #[.pointer none, .bool false])∧Below w.heap.size w w'):=by
 have uU:=ae (fun (W:World) (hb:Below w.heap.size w W)=>O8 z.cal s.A s.B s.a s.b W hc ⟨h.aj.grow hb,h.rules.grow hb⟩);have Wh:=ae (fun (bg y:Int) (x:Yr) (W:World) (hx:rM z.cal.aj.length x) (h1:0≤bg) (h2:bg≤100000000) (hb:Below w.heap.size w W)=>UU z.cal s.A s.B s.a s.b bg y x W hc ⟨h.aj.grow hb,h.rules.grow hb⟩ h1 h2 hx);have oI:=ae (fun (y:Int) (W:World) (hb:Below w.heap.size w W)=>UW z.cal s.A s.B s.a s.b y W hc ⟨h.aj.grow hb,h.rules.grow hb⟩);have hbd:=wX z hc;have hge1:=hbd.1;have lL:=hc.ep;have Vw:=ae (fun (bg y:Int) (x:Yr) (hx:rM z.cal.aj.length x)=>UT z.cal bg y x hc hx);have HPB:=ae (fun (bg y:Int) (x x':Yr) (ts:List Tr) (hx:rM z.cal.aj.length x) (hx':rM z.cal.aj.length x') (h1:0≤bg) (h2:bg≤4000000) (h3:nI ts)=>Bo z.cal bg y x x' ts hc hx hx' h1 h2 h3);have HYRB:=ae (fun (y:Int)=>lD z.cal y hc);have QT:=ae (tY z);have HPS:=ae (BU z);have hrw:sU z=oz z.cal r0 r1 (z.cal.aJ+fV z) (fV z).toNat z.cal.aJ 1 []:=by unfold sU;rw [hy]
 obtain ⟨yb,yo,hD,hyb,JR⟩:=h.ax.there (by rw [hy];simp [Yr.cells]);have HY:Hid (∀W,Below w.heap.size w W→YC W yb yo r0 r1):=ae fun W hb=>by
  rw [hy] at JR;exact ⟨aU (az.elem (s:=5) (f:=Yr.cells) (xs:= [r0,r1]) (fun _ _=>rfl) JR 0 r0 rfl) hb hyb,aU (az.elem (s:=5) (f:=Yr.cells) (xs:= [r0,r1]) (fun _ _=>rfl) JR 1 r1 rfl) hb hyb⟩
 clear JR;have hzq:fV z=Io (GH z.cal):=by unfold fV;rw [hy]
 have hcd:=KN hc;obtain ⟨dd,hdd⟩:∃d,GH z.cal=d:=⟨_,rfl⟩;rw [hdd] at uU hzq hcd;obtain ⟨res,hres⟩:∃res,sU z=res:=⟨_,rfl⟩;rw [hres] at QT;rw [hrw] at hres;obtain ⟨q,hq⟩:∃q,fV z=q:=⟨_,rfl⟩;rw [hq] at hbd hge1 hres hzq ⊢;obtain ⟨ys,hys⟩:∃ys,rP z=ys:=⟨_,rfl⟩;rw [hys] at QT HPS ⊢;have qE:=ae hres;have OH:=ae hr0;have OI:=ae hr1;have hmi0:=hr0.mi;have hof0:=hr0.of;have Xf:=hr1.mi;have Xh:=hr1.of;clear hres hq hys hr0 hr1 hc h hdd hrw;obtain ⟨cal,st,tr,ho,yr⟩:=z;obtain ⟨A0,a,R0,r,C0,c0,D0,d0⟩:=s;simp only at hy hD uU Wh oI Vw HPB HYRB OH OI lL qE ⊢;subst hy hD;obtain ⟨ep,xE⟩:∃ep,cal.aJ=ep:=⟨_,rfl⟩;rw [xE] at lL qE;obtain ⟨lp,Aw⟩:∃lp,cal.aY=lp:=⟨_,rfl⟩;obtain ⟨n0,hn0⟩:∃n,cal.aj.length=n:=⟨_,rfl⟩;obtain ⟨n1,hn1⟩:∃n,cal.rules.length=n:=⟨_,rfl⟩;obtain ⟨n2,hn2⟩:∃n,tr.length=n:=⟨_,rfl⟩;unfold au aH at*;simp only [xE,Aw,hn0,hn1,hn2,List.length_cons,List.length_nil,Nat.zero_add,Nat.reduceAdd] at uU Wh oI Vw HPB HYRB OH OI ⊢;clear xE Aw hn0 hn1 hn2;obtain ⟨i0,hi,hq0,hq1,hq2⟩:=info_parts uk;have HI:=ae hi;have mP:=ae hq0;have iM:=ae hq1;have iH:=ae hq2;clear hi hq0 hq1 hq2;show Calls Tryz.prog _ #[.agg #[I ep, .slice A0 n0 a,I lp, .slice R0 n1 r,I st, .slice C0 n2 c0,I ho, .slice (some ⟨yb,yo,none⟩) 2 d0]] w _;show Calls Tryz.prog _ _ w (fun e w'=>(ed ys (q*1440)=true∧e= .returned (.tuple #[.pointer (some ⟨w.heap.size+1,0,none⟩), .bool true])∧∃A n c,pW w [I ep, .slice A0 n0 a,I lp, .slice R0 n1 r,I st, .slice C0 n2 c0,I ho, .slice (some ⟨yb,yo,none⟩) 2 d0] q A n c ys w')∨(ed ys (q*1440)=false∧e= .returned (.tuple #[.pointer none, .bool false])∧Below w.heap.size w w'));have hone:(#[I ep, .slice A0 n0 a,I lp, .slice R0 n1 r,I st, .slice C0 n2 c0,I ho, .slice (some ⟨yb,yo,none⟩) 2 d0, .slice none 0 0,I 1]:Array Value).all (·.oneCell')=true:=by simp [Value.oneCell']
 have HV:=ae (AV.new w #[I ep, .slice A0 n0 a,I lp, .slice R0 n1 r,I st, .slice C0 n2 c0,I ho, .slice (some ⟨yb,yo,none⟩) 2 d0] 54);go_enter Tryz.func76,Tryz.ntmps76;go_wp2_with (first
  |((with_reducible refine fU 54 ?_);go_must (refine bu rfl _ _ rfl w.heap.size rfl #[I ep, .slice A0 n0 a,I lp, .slice R0 n1 r,I st, .slice C0 n2 c0,I ho, .slice (some ⟨yb,yo,none⟩) 2 d0] HV.out.kz _ Tryz.underlying54 rfl (by kernel_rfl) ?_))
  |((with_reducible refine eu 190 ?_);refine bn rfl 190 rfl #[I ep, .slice A0 n0 a,I lp, .slice R0 n1 r,I st, .slice C0 n2 c0,I ho, .slice (some ⟨yb,yo,none⟩) 2 d0, .slice none 0 0,I 1] (by kernel_rfl) ?_))
 have HK:Hid (pW w [I ep, .slice A0 n0 a,I lp, .slice R0 n1 r,I st, .slice C0 n2 c0,I ho, .slice (some ⟨yb,yo,none⟩) 2 d0] 1 none 0 0 [] ((w.alloc (.cells #[I ep, .slice A0 n0 a,I lp, .slice R0 n1 r,I st, .slice C0 n2 c0,I ho, .slice (some ⟨yb,yo,none⟩) 2 d0] 54)).alloc (.cells #[I ep, .slice A0 n0 a,I lp, .slice R0 n1 r,I st, .slice C0 n2 c0,I ho, .slice (some ⟨yb,yo,none⟩) 2 d0, .slice none 0 0,I 1] 190))):=ae ⟨ai (ag w _) (ag _ _),HV.out.below (ag _ _),by have:=AV.new (w.alloc (.cells #[I ep, .slice A0 n0 a,I lp, .slice R0 n1 r,I st, .slice C0 n2 c0,I ho, .slice (some ⟨yb,yo,none⟩) 2 d0] 54)) #[I ep, .slice A0 n0 a,I lp, .slice R0 n1 r,I st, .slice C0 n2 c0,I ho, .slice (some ⟨yb,yo,none⟩) 2 d0, .slice none 0 0,I 1] 190;rw [nV] at this;exact this,World.ownsRow_nil _ _ _ _,rfl⟩;clear HV;generalize (w.alloc (.cells #[I ep, .slice A0 n0 a,I lp, .slice R0 n1 r,I st, .slice C0 n2 c0,I ho, .slice (some ⟨yb,yo,none⟩) 2 d0] 54)).alloc (.cells #[I ep, .slice A0 n0 a,I lp, .slice R0 n1 r,I st, .slice C0 n2 c0,I ho, .slice (some ⟨yb,yo,none⟩) 2 d0, .slice none 0 0,I 1] 190)=W0 at HK ⊢;have v0:W0.cell? ⟨w.heap.size,0,none⟩=some (I ep):=HK.out.z.cell 0;have v1:W0.cell? ⟨w.heap.size,1,none⟩=some (.slice A0 n0 a):=HK.out.z.cell 1;have v2:W0.cell? ⟨w.heap.size,2,none⟩=some (I lp):=HK.out.z.cell 2;have v3:W0.cell? ⟨w.heap.size,3,none⟩=some (.slice R0 n1 r):=HK.out.z.cell 3;have v7:W0.cell? ⟨w.heap.size,7,none⟩=some (.slice (some ⟨yb,yo,none⟩) 2 d0):=HK.out.z.cell 7;go_wp2_with fail;refine (uU.out _ HK.out.lo).mono ?_;rintro e w1 ⟨rfl,hb1⟩;have jX:=ae (HK.out.grow hb1);clear hb1 HK uU v0 v1 v2 v3 v7;have c9:w1.cell? ⟨w.heap.size+1,9,none⟩=some (I 1):=jX.out.k.cell 9;have f9:w1.frozen? ⟨w.heap.size+1,9,none⟩=false:=jX.out.k.eY 9;have jI:=ae (jX.out.Zz rfl dd);have Ed:Int.tmod dd 7=dd%7:=Int.tmod_eq_emod_of_nonneg (by omega);obtain ⟨p,hp⟩:∃p,dd%7=p:=⟨_,rfl⟩;rw [hp] at Ed;have HP:=ae hp;have HZQ:=ae hzq;clear hp hzq;go_upto_if 38 with fail
 go_cut [6] (fun d wx=>d=I dd∧pW w [I ep, .slice A0 n0 a,I lp, .slice R0 n1 r,I st, .slice C0 n2 c0,I ho, .slice (some ⟨yb,yo,none⟩) 2 d0] q none 0 0 [] wx)
 case first=>
  by_cases h7:p=0
  ·subst h7;have hqq:q=dd:=by rw [HZQ.out];unfold Io;rw [if_pos HP.out]
   have HQE:=ae hqq;clear hqq;go_wp2_with fail;go_meet;exact ⟨rfl,by rw [HQE.out];exact jI.out⟩
  ·have hqq:q=7*dd:=by rw [HZQ.out];unfold Io;rw [if_neg (by rw [HP.out];exact h7)]
   have HQE:=ae hqq;clear hqq;have hpb:(p !=0)=true:=by simpa using h7
   have w0:IntKind.i64.wrap (dd*7)=dd*7:=by rw [IntKind.wrap_i64];omega
   clear c9 f9;generalize w1.setCell ⟨w.heap.size+1,9,none⟩ (I dd)=W2 at jI ⊢;have c9:W2.cell? ⟨w.heap.size+1,9,none⟩=some (I dd):=jI.out.k.cell 9;have f9:W2.frozen? ⟨w.heap.size+1,9,none⟩=false:=jI.out.k.eY 9;have nG:=ae (jI.out.Zz rfl (dd*7));go_wp2_with fail;go_meet;exact ⟨rfl,by rw [HQE.out,Int.mul_comm];exact nG.out⟩
 case rest=>
  obtain ⟨rfl,hk⟩:=hcut;have HK:=ae hk;clear hk jI jX c9 f9 Ed HP HZQ;have v0:wc.cell? ⟨w.heap.size,0,none⟩=some (I ep):=HK.out.z.cell 0;go_wp2_with fail;clear v0
  go_loopw [8,9] (fun b y wr=>∃(f:Nat) (bg yy:Int) (A:Option Addr) (n cp:Nat) (ts:List Tr),b=I bg∧y=I yy∧1≤yy∧ep+(yy - 1)≤bg∧0≤bg∧bg≤ep+q+700∧(n:Int)≤2*(yy - 1)∧(ep+q - bg).toNat≤f∧oz cal r0 r1 (ep+q) f bg yy ts=res∧nI ts∧pW w [I ep, .slice A0 n0 a,I lp, .slice R0 n1 r,I st, .slice C0 n2 c0,I ho, .slice (some ⟨yb,yo,none⟩) 2 d0] q A n cp ts wr) (fun b _ _=>((ep+q) - intOf b).toNat)
  case atStart=>exact ⟨q.toNat,ep,1,none,0,0,[],rfl,rfl,by omega,by omega,by omega,by omega,by omega,by omega,qE.out,(fun _ h=>nomatch h),HK.out⟩
  case round=>
   clear HK;obtain ⟨f,bg,yy,A,n,cp,ts,rfl,rfl,hy1,hy2,hb0,hbs,hn2,hf,hyf,htb,hys⟩:=hrel;have DN:=ae htb;have HF:=ae hyf;have HW:=ae hys;have YP:=ae hf;clear hyf hys hf htb;have v0:wr.cell? ⟨w.heap.size,0,none⟩=some (I ep):=HW.out.z.cell 0;have c9:wr.cell? ⟨w.heap.size+1,9,none⟩=some (I q):=HW.out.k.cell 9;by_cases hlt:bg<ep+q
   ·go_wp2_with fail;go_quiet (fail);obtain ⟨W7,SE⟩:∃W,wr.drewN nq=W:=⟨_,rfl⟩;rw [SE];have xh:Hid (pW w [I ep, .slice A0 n0 a,I lp, .slice R0 n1 r,I st, .slice C0 n2 c0,I ho, .slice (some ⟨yb,yo,none⟩) 2 d0] q A n cp ts W7):=ae (by rw [←SE];exact HW.out.drewN nq);clear SE v0 c9 HW;have v0:W7.cell? ⟨w.heap.size,0,none⟩=some (I ep):=xh.out.z.cell 0;have v1:W7.cell? ⟨w.heap.size,1,none⟩=some (.slice A0 n0 a):=xh.out.z.cell 1;have v2:W7.cell? ⟨w.heap.size,2,none⟩=some (I lp):=xh.out.z.cell 2;have v3:W7.cell? ⟨w.heap.size,3,none⟩=some (.slice R0 n1 r):=xh.out.z.cell 3;have v7:W7.cell? ⟨w.heap.size,7,none⟩=some (.slice (some ⟨yb,yo,none⟩) 2 d0):=xh.out.z.cell 7;have dE:=ae (HY.out W7 xh.out.lo);have yE:W7.cell? ⟨yb,yo,none⟩=some (I r0.month):=dE.out.a 0 _ rfl;have yF:W7.cell? ⟨yb,yo+1,none⟩=some (I r0.cZ):=dE.out.a 1 _ rfl;have yG:W7.cell? ⟨yb,yo+2,none⟩=some (I r0.dh):=dE.out.a 2 _ rfl;have yH:W7.cell? ⟨yb,yo+3,none⟩=some (I r0.minute):=dE.out.a 3 _ rfl;have yI:W7.cell? ⟨yb,yo+4,none⟩=some (I r0.off):=dE.out.a 4 _ rfl;have y9:W7.cell? ⟨yb,yo+5,none⟩=some (I r1.month):=dE.out.b 0 _ rfl;have zf:W7.cell? ⟨yb,yo+6,none⟩=some (I r1.cZ):=dE.out.b 1 _ rfl;have zh:W7.cell? ⟨yb,yo+7,none⟩=some (I r1.dh):=dE.out.b 2 _ rfl;have y13:W7.cell? ⟨yb,yo+8,none⟩=some (I r1.minute):=dE.out.b 3 _ rfl;have zk:W7.cell? ⟨yb,yo+9,none⟩=some (I r1.off):=dE.out.b 4 _ rfl;go_wp2_with fail;refine wp_loop_rounds 3 ?_;rw [rounds_succ];go_upto_block 3 with fail;obtain ⟨vW,Po⟩:∃t,ou cal bg yy r0 r1 ts=t:=⟨_,rfl⟩;have qH:=fun (W:World) hb=>Wh.out bg yy r0 W OH.out (by omega) (by omega) hb;have Xl:=Vw.out bg yy r0 OH.out;obtain ⟨pr0,KW⟩:∃pr,Qm cal bg yy r0=pr:=⟨_,rfl⟩;rw [KW] at qH Xl;have hps0:=Po;unfold ou at hps0;rw [KW] at hps0;obtain ⟨fd0,fb0⟩:=pr0;simp only at qH Xl hps0;have HYD0:=ae qH;have HFD0:Hid (fb0=true→bg - 10≤fd0∧fd0≤bg+800):=ae (fun _=>Xl);have JF:Hid (fb0=true→vW=ts++ [⟨fd0*1440+r0.minute - r1.off,r0.off⟩]):=ae (fun h=>by rw [←hps0,if_pos h]);have VS:Hid (fb0=false→vW=ts):=ae (fun h=>by rw [←hps0,if_neg (by rw [h];decide)]);have HTS0:=ae Po;clear Po qH Xl KW hps0
    go_cut [10] (fun _ wx=>∃(A':Option Addr) (n' cp':Nat),n'≤n+1∧pW w [I ep, .slice A0 n0 a,I lp, .slice R0 n1 r,I st, .slice C0 n2 c0,I ho, .slice (some ⟨yb,yo,none⟩) 2 d0] q A' n' cp' vW wx)
    case first=>
     go_upto_region 15 with (first
      |((with_reducible refine bf 107 ?_);refine aI rfl 107 rfl #[I 0,I 0,I 0,I 0,I 0] (by kernel_rfl) ?_)
      |((with_reducible refine dF 107 ?_);go_must (refine wpList_store_row rfl _ _ _ rfl W7.heap.size #[I r0.month,I r0.cZ,I r0.dh,I r0.minute,I r0.off] rfl rfl 107 #[I 0,I 0,I 0,I 0,I 0] (heap_alloc_last W7 _) (by kernel_rfl) rfl (by simp [Value.oneCell']) ?_)))
     have hb2:Below W7.heap.size W7 ((W7.alloc (.cells #[I 0,I 0,I 0,I 0,I 0] 107)).setRow W7.heap.size #[I r0.month,I r0.cZ,I r0.dh,I r0.minute,I r0.off]):=aB (ag W7 _) (Nat.le_refl _) _;have HR2:=ae (AV.oO (AV.new W7 #[I 0,I 0,I 0,I 0,I 0] 107) #[I r0.month,I r0.cZ,I r0.dh,I r0.minute,I r0.off]);have zV:Hid (some W7.heap.size≠(Value.slice A n cp).ownBlock):=ae (sS (fun g hg=>(World.ownsRow.lt xh.out.own g hg).2));have QV:Hid (W7.heap.size≠w.heap.size+1):=ae (by have:=xh.out.k.lt;omega);have jI:=ae (xh.out.grow hb2);clear hb2 xh;clear v0 v1 v2 v3 v7;clear dE yE yF yG yH yI y9 zf zh y13 zk;generalize (W7.alloc (.cells #[I 0,I 0,I 0,I 0,I 0] 107)).setRow W7.heap.size #[I r0.month,I r0.cZ,I r0.dh,I r0.minute,I r0.off]=W2 at jI HR2 ⊢;generalize W7.heap.size=rb at HR2 zV QV ⊢;have v0:W2.cell? ⟨w.heap.size,0,none⟩=some (I ep):=jI.out.z.cell 0;have v1:W2.cell? ⟨w.heap.size,1,none⟩=some (.slice A0 n0 a):=jI.out.z.cell 1;have v2:W2.cell? ⟨w.heap.size,2,none⟩=some (I lp):=jI.out.z.cell 2;have v3:W2.cell? ⟨w.heap.size,3,none⟩=some (.slice R0 n1 r):=jI.out.z.cell 3;have v7:W2.cell? ⟨w.heap.size,7,none⟩=some (.slice (some ⟨yb,yo,none⟩) 2 d0):=jI.out.z.cell 7;clear v7;have u0:W2.cell? ⟨rb,0,none⟩=some (I r0.month):=HR2.out.cell 0;have u1:W2.cell? ⟨rb,1,none⟩=some (I r0.cZ):=HR2.out.cell 1;have u2:W2.cell? ⟨rb,2,none⟩=some (I r0.dh):=HR2.out.cell 2;have u3:W2.cell? ⟨rb,3,none⟩=some (I r0.minute):=HR2.out.cell 3;have u4:W2.cell? ⟨rb,4,none⟩=some (I r0.off):=HR2.out.cell 4;go_wp2_with fail;refine (HYD0.out W2 jI.out.lo).mono ?_;rintro e w3 ⟨rfl,hb3⟩;have nG:=ae (jI.out.grow hb3);have HR3:=ae (HR2.out.below hb3);clear hb3 jI HR2 v0 v1 v2 v3 u0 u1 u2 u3 u4;cases fb0 with
     |false=>
      have HEF:=ae (VS.out rfl);clear VS JF;go_wp2_with fail;go_meet;exact ⟨A,n,cp,by omega,by rw [HEF.out];exact nG.out⟩
     |true=>
      have HE0T:=ae (JF.out rfl);clear JF VS;have hfd:=HFD0.out rfl;go_upto_region 17 with fail;have hS0:JM rb w.heap.size yb (yo+9) r0.minute r0.off r1.off (.slice (some ⟨yb,yo,none⟩) 2 d0) w3.drew:=⟨HR3.out.drew.cell 3,HR3.out.drew.cell 4,nG.out.drew.z.cell 7,(HY.out _ nG.out.drew.lo).b 4 _ rfl⟩;have jA:=ae nG.out.drew;have zT:=ae HR3.out.drew;clear nG HR3;refine wp_region_held_drew (S:=JM rb w.heap.size yb (yo+9) r0.minute r0.off r1.off (.slice (some ⟨yb,yo,none⟩) 2 d0)) (by kernel_rfl) hS0 (fun _=>?_);generalize w3.drew=V at hS0 jA zT ⊢;have wk0:IntKind.i64.wrap 1=1:=by rw [IntKind.wrap_i64];omega
      have w1:IntKind.i64.wrap (fd0*1440)=fd0*1440:=by rw [IntKind.wrap_i64];omega
      have w2:IntKind.i64.wrap (fd0*1440+r0.minute)=fd0*1440+r0.minute:=by rw [IntKind.wrap_i64];omega
      have w3:IntKind.i64.wrap (fd0*1440+r0.minute - r1.off)=fd0*1440+r0.minute - r1.off:=by rw [IntKind.wrap_i64];omega
      refine aP 0 (.pointer (some ⟨w.heap.size+1,0,none⟩)) 79 hS0 (fun w' hSw=>?_) ?_
      ·clear hSw
       first|(go_simp;done)|(go_simp;with_reducible rfl)
      refine aA ?_;refine aP 1 (.pointer (some ⟨w.heap.size+1,0,none⟩)) 80 hS0 (fun w' hSw=>?_) ?_
      ·clear hSw
       first|(go_simp;done)|(go_simp;with_reducible rfl)
      refine aA ?_;refine aP 2 (.pointer (some ⟨w.heap.size+1,0,none⟩)) 81 hS0 (fun w' hSw=>?_) ?_
      ·clear hSw
       first|(go_simp;done)|(go_simp;with_reducible rfl)
      refine aA ?_;refine aP 3 (.pointer (some ⟨w.heap.size+1,8,none⟩)) 82 hS0 (fun w' hSw=>?_) ?_
      ·clear hSw
       first|(go_simp;done)|(go_simp;with_reducible rfl)
      refine aA ?_;refine aP 5 (I fd0) 84 hS0 (fun w' hSw=>?_) ?_
      ·clear hSw
       first|(go_simp;done)|(go_simp;with_reducible rfl)
      refine aA ?_;refine aP 6 (I (fd0*1440)) 85 hS0 (fun w' hSw=>?_) ?_
      ·clear hSw
       first|(go_simp;done)|(go_simp;with_reducible rfl)
      refine aA ?_;refine aP 7 (.pointer (some ⟨rb,3,none⟩)) 86 hS0 (fun w' hSw=>?_) ?_
      ·clear hSw
       first|(go_simp;done)|(go_simp;with_reducible rfl)
      refine aA ?_;refine aP 8 (I r0.minute) 87 hS0 (fun w' hSw=>?_) ?_
      ·obtain ⟨s0,s1,s2,s3⟩:=hSw
       first|(go_simp;done)|(go_simp;with_reducible rfl)
      refine aA ?_;refine aP 9 (I (fd0*1440+r0.minute)) 88 hS0 (fun w' hSw=>?_) ?_
      ·clear hSw
       first|(go_simp;done)|(go_simp;with_reducible rfl)
      refine aA ?_;refine aP 10 (.pointer (some ⟨w.heap.size,7,none⟩)) 89 hS0 (fun w' hSw=>?_) ?_
      ·clear hSw
       first|(go_simp;done)|(go_simp;with_reducible rfl)
      refine aA ?_;refine aP 11 (.slice (some ⟨yb,yo,none⟩) 2 d0) 90 hS0 (fun w' hSw=>?_) ?_
      ·obtain ⟨s0,s1,s2,s3⟩:=hSw
       first|(go_simp;done)|(go_simp;with_reducible rfl)
      refine aA ?_;refine aP 12 (I 0) 91 hS0 (fun w' hSw=>?_) ?_
      ·clear hSw
       first|(go_simp;done)|(go_simp;with_reducible rfl)
      refine aA ?_;refine aP 13 (I 1) 92 hS0 (fun w' hSw=>?_) ?_
      ·clear hSw
       first|(go_simp;done)|(go_simp;with_reducible rfl)
      refine aA ?_;refine aP 14 (.pointer (some ⟨yb,yo+5,none⟩)) 93 hS0 (fun w' hSw=>?_) ?_
      ·clear hSw
       first|(go_simp;done)|(go_simp;with_reducible rfl)
      refine aA ?_;refine aP 15 (.pointer (some ⟨yb,yo+9,none⟩)) 94 hS0 (fun w' hSw=>?_) ?_
      ·clear hSw
       first|(go_simp;done)|(go_simp;with_reducible rfl)
      refine aA ?_;refine aP 16 (I r1.off) 95 hS0 (fun w' hSw=>?_) ?_
      ·obtain ⟨s0,s1,s2,s3⟩:=hSw
       first|(go_simp;done)|(go_simp;with_reducible rfl)
      refine aA ?_;refine aP 17 (I (fd0*1440+r0.minute - r1.off)) 96 hS0 (fun w' hSw=>?_) ?_
      ·clear hSw
       first|(go_simp;done)|(go_simp;with_reducible rfl)
      refine aA ?_;refine aP 18 (.pointer (some ⟨rb,4,none⟩)) 97 hS0 (fun w' hSw=>?_) ?_
      ·clear hSw
       first|(go_simp;done)|(go_simp;with_reducible rfl)
      refine aA ?_;refine aP 19 (I r0.off) 98 hS0 (fun w' hSw=>?_) ?_
      ·obtain ⟨s0,s1,s2,s3⟩:=hSw
       first|(go_simp;done)|(go_simp;with_reducible rfl)
      refine aA ?_;refine oD 20 ( .agg #[I (fd0*1440+r0.minute - r1.off),I r0.off]) 99 rfl rfl hS0 (bP rfl 105 _ rfl _ (by kernel_rfl)) ?_;refine aA ?_;refine lK 4 21 (fun K hK=>?_) (fun K hK=>?_)
      ·have c8:V.cell? ⟨w.heap.size+1,8,none⟩=some (.slice A n cp):=jA.out.k.cell 8;go_simp;clear c8;refine hK.out _ _ hS0 (fun _=>?_);clear hK K;refine aA ?_;refine bD 21 (fun K hK=>?_);go_simp;have hS5:JM rb w.heap.size yb (yo+9) r0.minute r0.off r1.off (.slice (some ⟨yb,yo,none⟩) 2 d0) (V.alloc (.cells #[I (fd0*1440+r0.minute - r1.off),I r0.off] 105)):=⟨(zT.out.below (ag _ _)).cell 3,(zT.out.below (ag _ _)).cell 4,(jA.out.grow (ag _ _)).z.cell 7,(HY.out _ (jA.out.grow (ag _ _)).lo).b 4 _ rfl⟩;refine hK.out _ _ hS5 (fun _=>?_);clear hK K;refine aA ?_;refine bD 22 (fun K hK=>?_);have hvl:=jA.out.k.lt;refine step_append_lies _ (by rfl) _ _ _ (by rfl) (w.heap.size+2) 105 i0 (.agg #[I 0,I 0]) 2 16 Tryz.underlying51 HI.out mP.out iM.out iH.out rfl (by omega) (.slice A n cp) n (ts.flatMap Tr.cells) (by rfl) (own_below jA.out.own (ag _ _)) ⟨V.heap.size,0,none⟩ 1 1 [I (fd0*1440+r0.minute - r1.off),I r0.off] (by rfl) rfl (bW V _ _ _ rfl) (vH ⟨fd0*1440+r0.minute - r1.off,r0.off⟩) (by omega) (by unfold maxLen;omega) (by omega) (by simp;omega) _ rfl ?_;intro gg cap w6 hown6 hgrow6 _ _;have hxk:=ae (pW.add (x:=⟨fd0*1440+r0.minute - r1.off,r0.off⟩) jA.out rfl rfl hown6 hgrow6);have yX:Hid (AV rb 107 #[I r0.month,I r0.cZ,I r0.dh,I r0.minute,I r0.off] w6):=ae ⟨(hgrow6.block _ (by have:=zT.out.lt;simp;omega) zV.out).trans ((Below.heap_alloc _ _ _ zT.out.lt).trans zT.out.var)⟩;have hk6:Hid (AV (w.heap.size+1) 190 ([I ep, .slice A0 n0 a,I lp, .slice R0 n1 r,I st, .slice C0 n2 c0,I ho, .slice (some ⟨yb,yo,none⟩) 2 d0]++ [Value.slice A n cp,I q]).toArray w6):=ae ⟨(hgrow6.block _ (by have:=jA.out.k.lt;simp;omega) (dZ jA.out.own _ (by omega))).trans ((Below.heap_alloc _ _ _ jA.out.k.lt).trans jA.out.k.var)⟩;have Ld:Hid (AV w.heap.size 54 #[I ep, .slice A0 n0 a,I lp, .slice R0 n1 r,I st, .slice C0 n2 c0,I ho, .slice (some ⟨yb,yo,none⟩) 2 d0] w6):=ae ⟨(hgrow6.block _ (by have:=jA.out.z.lt;simp;omega) (dZ jA.out.own _ (by omega))).trans ((Below.heap_alloc _ _ _ jA.out.z.lt).trans jA.out.z.var)⟩;have KY:Hid (w6.cell? ⟨yb,yo+9,none⟩=some (I r1.off)):=ae (by
        have hb6:Below w.heap.size w w6:=dm (ai jA.out.lo (ag _ _)) (aK (own_below jA.out.own (ag _ _)) (by omega)) (ai jA.out.lo (ag _ _)).size hgrow6;exact (HY.out w6 hb6).b 4 _ rfl)
       clear hown6 hgrow6;have hS6:JM rb w.heap.size yb (yo+9) r0.minute r0.off r1.off (.slice (some ⟨yb,yo,none⟩) 2 d0) w6:=⟨yX.out.cell 3,yX.out.cell 4,Ld.out.cell 7,KY.out⟩;refine hK.out _ _ hS6 (fun _=>?_);clear hK K;try simp only [Act.put,List.setIfInBounds_toArray]
       refine aP 23 (.pointer (some ⟨w.heap.size+1,0,none⟩)) 102 hS6 (fun w' hSw=>?_) ?_
       ·clear hSw
        first|(go_simp;done)|(go_simp;with_reducible rfl)
       try simp only [Act.put]
       refine aP 24 (.pointer (some ⟨w.heap.size+1,8,none⟩)) 103 hS6 (fun w' hSw=>?_) ?_
       ·clear hSw
        first|(go_simp;done)|(go_simp;with_reducible rfl)
       try simp only [Act.put]
       refine bD 25 (fun K hK=>?_);have c8:=hk6.out.cell 8;have f8:=hk6.out.eY 8;go_simp;have hS7:JM rb w.heap.size yb (yo+9) r0.minute r0.off r1.off (.slice (some ⟨yb,yo,none⟩) 2 d0) (w6.setCell ⟨w.heap.size+1,8,none⟩ (.slice (some ⟨gg,0,none⟩) (n+1) cap)):=⟨(yX.out.far QV.out 8 _).cell 3,(yX.out.far QV.out 8 _).cell 4,hxk.out.z.cell 7,(HY.out _ hxk.out.lo).b 4 _ rfl⟩;refine hK.out _ _ hS7 (fun _=>?_);clear hK K;refine wpAnyH_done (by kernel_rfl) ?_ _;go_wp2_with fail;go_meet;exact ⟨some ⟨gg,0,none⟩,n+1,cap,by omega,by rw [show vW=ts++ [⟨fd0*1440+r0.minute - r1.off,r0.off⟩] from HE0T.out];exact hxk.out⟩
      ·go_simp;have hS5:JM rb w.heap.size yb (yo+9) r0.minute r0.off r1.off (.slice (some ⟨yb,yo,none⟩) 2 d0) (V.alloc (.cells #[I (fd0*1440+r0.minute - r1.off),I r0.off] 105)):=⟨(zT.out.below (ag _ _)).cell 3,(zT.out.below (ag _ _)).cell 4,(jA.out.grow (ag _ _)).z.cell 7,(HY.out _ (jA.out.grow (ag _ _)).lo).b 4 _ rfl⟩;refine hK.out _ _ hS5 (fun _=>?_);clear hK K;refine aA ?_;refine bD 4 (fun K hK=>?_);have c8:(V.alloc (.cells #[I (fd0*1440+r0.minute - r1.off),I r0.off] 105)).cell? ⟨w.heap.size+1,8,none⟩=some (.slice A n cp):=(jA.out.grow (ag _ _)).k.cell 8;go_simp;clear c8;refine hK.out _ _ hS5 (fun _=>?_);clear hK K;refine aA ?_;refine bD 22 (fun K hK=>?_);have hvl:=jA.out.k.lt;refine step_append_lies _ (by rfl) _ _ _ (by rfl) (w.heap.size+2) 105 i0 (.agg #[I 0,I 0]) 2 16 Tryz.underlying51 HI.out mP.out iM.out iH.out rfl (by omega) (.slice A n cp) n (ts.flatMap Tr.cells) (by rfl) (own_below jA.out.own (ag _ _)) ⟨V.heap.size,0,none⟩ 1 1 [I (fd0*1440+r0.minute - r1.off),I r0.off] (by rfl) rfl (bW V _ _ _ rfl) (vH ⟨fd0*1440+r0.minute - r1.off,r0.off⟩) (by omega) (by unfold maxLen;omega) (by omega) (by simp;omega) _ rfl ?_;intro gg cap w6 hown6 hgrow6 _ _;have hxk:=ae (pW.add (x:=⟨fd0*1440+r0.minute - r1.off,r0.off⟩) jA.out rfl rfl hown6 hgrow6);have yX:Hid (AV rb 107 #[I r0.month,I r0.cZ,I r0.dh,I r0.minute,I r0.off] w6):=ae ⟨(hgrow6.block _ (by have:=zT.out.lt;simp;omega) zV.out).trans ((Below.heap_alloc _ _ _ zT.out.lt).trans zT.out.var)⟩;have hk6:Hid (AV (w.heap.size+1) 190 ([I ep, .slice A0 n0 a,I lp, .slice R0 n1 r,I st, .slice C0 n2 c0,I ho, .slice (some ⟨yb,yo,none⟩) 2 d0]++ [Value.slice A n cp,I q]).toArray w6):=ae ⟨(hgrow6.block _ (by have:=jA.out.k.lt;simp;omega) (dZ jA.out.own _ (by omega))).trans ((Below.heap_alloc _ _ _ jA.out.k.lt).trans jA.out.k.var)⟩;have Ld:Hid (AV w.heap.size 54 #[I ep, .slice A0 n0 a,I lp, .slice R0 n1 r,I st, .slice C0 n2 c0,I ho, .slice (some ⟨yb,yo,none⟩) 2 d0] w6):=ae ⟨(hgrow6.block _ (by have:=jA.out.z.lt;simp;omega) (dZ jA.out.own _ (by omega))).trans ((Below.heap_alloc _ _ _ jA.out.z.lt).trans jA.out.z.var)⟩;have KY:Hid (w6.cell? ⟨yb,yo+9,none⟩=some (I r1.off)):=ae (by
        have hb6:Below w.heap.size w w6:=dm (ai jA.out.lo (ag _ _)) (aK (own_below jA.out.own (ag _ _)) (by omega)) (ai jA.out.lo (ag _ _)).size hgrow6;exact (HY.out w6 hb6).b 4 _ rfl)
       clear hown6 hgrow6;have hS6:JM rb w.heap.size yb (yo+9) r0.minute r0.off r1.off (.slice (some ⟨yb,yo,none⟩) 2 d0) w6:=⟨yX.out.cell 3,yX.out.cell 4,Ld.out.cell 7,KY.out⟩;refine hK.out _ _ hS6 (fun _=>?_);clear hK K;try simp only [Act.put,List.setIfInBounds_toArray]
       refine aP 23 (.pointer (some ⟨w.heap.size+1,0,none⟩)) 102 hS6 (fun w' hSw=>?_) ?_
       ·clear hSw
        first|(go_simp;done)|(go_simp;with_reducible rfl)
       try simp only [Act.put]
       refine aP 24 (.pointer (some ⟨w.heap.size+1,8,none⟩)) 103 hS6 (fun w' hSw=>?_) ?_
       ·clear hSw
        first|(go_simp;done)|(go_simp;with_reducible rfl)
       try simp only [Act.put]
       refine bD 25 (fun K hK=>?_);have c8:=hk6.out.cell 8;have f8:=hk6.out.eY 8;go_simp;have hS7:JM rb w.heap.size yb (yo+9) r0.minute r0.off r1.off (.slice (some ⟨yb,yo,none⟩) 2 d0) (w6.setCell ⟨w.heap.size+1,8,none⟩ (.slice (some ⟨gg,0,none⟩) (n+1) cap)):=⟨(yX.out.far QV.out 8 _).cell 3,(yX.out.far QV.out 8 _).cell 4,hxk.out.z.cell 7,(HY.out _ hxk.out.lo).b 4 _ rfl⟩;refine hK.out _ _ hS7 (fun _=>?_);clear hK K;refine wpAnyH_done (by kernel_rfl) ?_ _;go_wp2_with fail;go_meet;exact ⟨some ⟨gg,0,none⟩,n+1,cap,by omega,by rw [show vW=ts++ [⟨fd0*1440+r0.minute - r1.off,r0.off⟩] from HE0T.out];exact hxk.out⟩
    case rest=>
     obtain ⟨A',n',cp',hnn,hk1⟩:=hcut;have jX:=ae hk1;have hnb:n'≤8000000:=by omega
     have hnc:(n':Int)≤2*(yy - 1)+1:=by omega
     clear hk1 hnn xh;clear HYD0 HFD0 JF VS;obtain ⟨A,rfl⟩:∃A,A=A':=⟨_,rfl⟩;obtain ⟨n,rfl⟩:∃n,n=n':=⟨_,rfl⟩;obtain ⟨cp,rfl⟩:∃c,c=cp':=⟨_,rfl⟩;clear v0 v1 v2 v3 v7 dE yE yF yG yH yI y9 zf zh y13 zk;have v0:wc.cell? ⟨w.heap.size,0,none⟩=some (I ep):=jX.out.z.cell 0;have v1:wc.cell? ⟨w.heap.size,1,none⟩=some (.slice A0 n0 a):=jX.out.z.cell 1;have v2:wc.cell? ⟨w.heap.size,2,none⟩=some (I lp):=jX.out.z.cell 2;have v3:wc.cell? ⟨w.heap.size,3,none⟩=some (.slice R0 n1 r):=jX.out.z.cell 3;have v7:wc.cell? ⟨w.heap.size,7,none⟩=some (.slice (some ⟨yb,yo,none⟩) 2 d0):=jX.out.z.cell 7;have dE:=ae (HY.out wc jX.out.lo);have yE:wc.cell? ⟨yb,yo,none⟩=some (I r0.month):=dE.out.a 0 _ rfl;have yF:wc.cell? ⟨yb,yo+1,none⟩=some (I r0.cZ):=dE.out.a 1 _ rfl;have yG:wc.cell? ⟨yb,yo+2,none⟩=some (I r0.dh):=dE.out.a 2 _ rfl;have yH:wc.cell? ⟨yb,yo+3,none⟩=some (I r0.minute):=dE.out.a 3 _ rfl;have yI:wc.cell? ⟨yb,yo+4,none⟩=some (I r0.off):=dE.out.a 4 _ rfl;have y9:wc.cell? ⟨yb,yo+5,none⟩=some (I r1.month):=dE.out.b 0 _ rfl;have zf:wc.cell? ⟨yb,yo+6,none⟩=some (I r1.cZ):=dE.out.b 1 _ rfl;have zh:wc.cell? ⟨yb,yo+7,none⟩=some (I r1.dh):=dE.out.b 2 _ rfl;have y13:wc.cell? ⟨yb,yo+8,none⟩=some (I r1.minute):=dE.out.b 3 _ rfl;have zk:wc.cell? ⟨yb,yo+9,none⟩=some (I r1.off):=dE.out.b 4 _ rfl;go_wp2_with fail;rw [rounds_succ];go_upto_block 3 with fail;obtain ⟨BF,Fv⟩:∃t,ou cal bg yy r1 r0 vW=t:=⟨_,rfl⟩;have kZ:=fun (W:World) hb=>Wh.out bg yy r1 W OI.out (by omega) (by omega) hb;have Xm:=Vw.out bg yy r1 OI.out;obtain ⟨pr1,AB⟩:∃pr,Qm cal bg yy r1=pr:=⟨_,rfl⟩;rw [AB] at kZ Xm;have hps1:=Fv;unfold ou at hps1;rw [AB] at hps1;obtain ⟨fd1,VA⟩:=pr1;simp only at kZ Xm hps1;have HYD1:=ae kZ;have HFD1:Hid (VA=true→bg - 10≤fd1∧fd1≤bg+800):=ae (fun _=>Xm);have CE:Hid (VA=true→BF=vW++ [⟨fd1*1440+r1.minute - r0.off,r1.off⟩]):=ae (fun h=>by rw [←hps1,if_pos h]);have VT:Hid (VA=false→BF=vW):=ae (fun h=>by rw [←hps1,if_neg (by rw [h];decide)]);have HTS1:=ae Fv;clear Fv kZ Xm AB hps1
     go_cut [10] (fun _ wx=>∃(A':Option Addr) (n' cp':Nat),n'≤n+1∧pW w [I ep, .slice A0 n0 a,I lp, .slice R0 n1 r,I st, .slice C0 n2 c0,I ho, .slice (some ⟨yb,yo,none⟩) 2 d0] q A' n' cp' BF wx)
     case first=>
      go_upto_region 15 with (first
       |((with_reducible refine bf 107 ?_);refine aI rfl 107 rfl #[I 0,I 0,I 0,I 0,I 0] (by kernel_rfl) ?_)
       |((with_reducible refine dF 107 ?_);go_must (refine wpList_store_row rfl _ _ _ rfl wc.heap.size #[I r1.month,I r1.cZ,I r1.dh,I r1.minute,I r1.off] rfl rfl 107 #[I 0,I 0,I 0,I 0,I 0] (heap_alloc_last wc _) (by kernel_rfl) rfl (by simp [Value.oneCell']) ?_)))
      have hb2:Below wc.heap.size wc ((wc.alloc (.cells #[I 0,I 0,I 0,I 0,I 0] 107)).setRow wc.heap.size #[I r1.month,I r1.cZ,I r1.dh,I r1.minute,I r1.off]):=aB (ag wc _) (Nat.le_refl _) _;have HR2:=ae (AV.oO (AV.new wc #[I 0,I 0,I 0,I 0,I 0] 107) #[I r1.month,I r1.cZ,I r1.dh,I r1.minute,I r1.off]);have zV:Hid (some wc.heap.size≠(Value.slice A n cp).ownBlock):=ae (sS (fun g hg=>(World.ownsRow.lt jX.out.own g hg).2));have QV:Hid (wc.heap.size≠w.heap.size+1):=ae (by have:=jX.out.k.lt;omega);have jI:=ae (jX.out.grow hb2);clear hb2 jX;clear v0 v1 v2 v3 v7;clear dE yE yF yG yH yI y9 zf zh y13 zk;generalize (wc.alloc (.cells #[I 0,I 0,I 0,I 0,I 0] 107)).setRow wc.heap.size #[I r1.month,I r1.cZ,I r1.dh,I r1.minute,I r1.off]=W2 at jI HR2 ⊢;generalize wc.heap.size=rb at HR2 zV QV ⊢;have v0:W2.cell? ⟨w.heap.size,0,none⟩=some (I ep):=jI.out.z.cell 0;have v1:W2.cell? ⟨w.heap.size,1,none⟩=some (.slice A0 n0 a):=jI.out.z.cell 1;have v2:W2.cell? ⟨w.heap.size,2,none⟩=some (I lp):=jI.out.z.cell 2;have v3:W2.cell? ⟨w.heap.size,3,none⟩=some (.slice R0 n1 r):=jI.out.z.cell 3;have v7:W2.cell? ⟨w.heap.size,7,none⟩=some (.slice (some ⟨yb,yo,none⟩) 2 d0):=jI.out.z.cell 7;clear v7;have u0:W2.cell? ⟨rb,0,none⟩=some (I r1.month):=HR2.out.cell 0;have u1:W2.cell? ⟨rb,1,none⟩=some (I r1.cZ):=HR2.out.cell 1;have u2:W2.cell? ⟨rb,2,none⟩=some (I r1.dh):=HR2.out.cell 2;have u3:W2.cell? ⟨rb,3,none⟩=some (I r1.minute):=HR2.out.cell 3;have u4:W2.cell? ⟨rb,4,none⟩=some (I r1.off):=HR2.out.cell 4;go_wp2_with fail;refine (HYD1.out W2 jI.out.lo).mono ?_;rintro e w3 ⟨rfl,hb3⟩;have nG:=ae (jI.out.grow hb3);have HR3:=ae (HR2.out.below hb3);clear hb3 jI HR2 v0 v1 v2 v3 u0 u1 u2 u3 u4;cases VA with
      |false=>
       have HEF:=ae (VT.out rfl);clear VT CE;go_wp2_with fail;go_meet;exact ⟨A,n,cp,by omega,by rw [HEF.out];exact nG.out⟩
      |true=>
       have HE1T:=ae (CE.out rfl);clear CE VT;have hfd:=HFD1.out rfl;go_upto_region 17 with fail;have hS0:JM rb w.heap.size yb (yo+4) r1.minute r1.off r0.off (.slice (some ⟨yb,yo,none⟩) 2 d0) w3.drew:=⟨HR3.out.drew.cell 3,HR3.out.drew.cell 4,nG.out.drew.z.cell 7,(HY.out _ nG.out.drew.lo).a 4 _ rfl⟩;have HKB1:=ae nG.out.drew;have zU:=ae HR3.out.drew;clear nG HR3;refine wp_region_held_drew (S:=JM rb w.heap.size yb (yo+4) r1.minute r1.off r0.off (.slice (some ⟨yb,yo,none⟩) 2 d0)) (by kernel_rfl) hS0 (fun _=>?_);generalize w3.drew=V at hS0 HKB1 zU ⊢;have wk0:IntKind.i64.wrap 0=0:=by rw [IntKind.wrap_i64];omega
       have w1:IntKind.i64.wrap (fd1*1440)=fd1*1440:=by rw [IntKind.wrap_i64];omega
       have w2:IntKind.i64.wrap (fd1*1440+r1.minute)=fd1*1440+r1.minute:=by rw [IntKind.wrap_i64];omega
       have w3:IntKind.i64.wrap (fd1*1440+r1.minute - r0.off)=fd1*1440+r1.minute - r0.off:=by rw [IntKind.wrap_i64];omega
       refine aP 0 (.pointer (some ⟨w.heap.size+1,0,none⟩)) 79 hS0 (fun w' hSw=>?_) ?_
       ·clear hSw
        first|(go_simp;done)|(go_simp;with_reducible rfl)
       refine aA ?_;refine aP 1 (.pointer (some ⟨w.heap.size+1,0,none⟩)) 80 hS0 (fun w' hSw=>?_) ?_
       ·clear hSw
        first|(go_simp;done)|(go_simp;with_reducible rfl)
       refine aA ?_;refine aP 2 (.pointer (some ⟨w.heap.size+1,0,none⟩)) 81 hS0 (fun w' hSw=>?_) ?_
       ·clear hSw
        first|(go_simp;done)|(go_simp;with_reducible rfl)
       refine aA ?_;refine aP 3 (.pointer (some ⟨w.heap.size+1,8,none⟩)) 82 hS0 (fun w' hSw=>?_) ?_
       ·clear hSw
        first|(go_simp;done)|(go_simp;with_reducible rfl)
       refine aA ?_;refine aP 5 (I fd1) 84 hS0 (fun w' hSw=>?_) ?_
       ·clear hSw
        first|(go_simp;done)|(go_simp;with_reducible rfl)
       refine aA ?_;refine aP 6 (I (fd1*1440)) 85 hS0 (fun w' hSw=>?_) ?_
       ·clear hSw
        first|(go_simp;done)|(go_simp;with_reducible rfl)
       refine aA ?_;refine aP 7 (.pointer (some ⟨rb,3,none⟩)) 86 hS0 (fun w' hSw=>?_) ?_
       ·clear hSw
        first|(go_simp;done)|(go_simp;with_reducible rfl)
       refine aA ?_;refine aP 8 (I r1.minute) 87 hS0 (fun w' hSw=>?_) ?_
       ·obtain ⟨s0,s1,s2,s3⟩:=hSw
        first|(go_simp;done)|(go_simp;with_reducible rfl)
       refine aA ?_;refine aP 9 (I (fd1*1440+r1.minute)) 88 hS0 (fun w' hSw=>?_) ?_
       ·clear hSw
        first|(go_simp;done)|(go_simp;with_reducible rfl)
       refine aA ?_;refine aP 10 (.pointer (some ⟨w.heap.size,7,none⟩)) 89 hS0 (fun w' hSw=>?_) ?_
       ·clear hSw
        first|(go_simp;done)|(go_simp;with_reducible rfl)
       refine aA ?_;refine aP 11 (.slice (some ⟨yb,yo,none⟩) 2 d0) 90 hS0 (fun w' hSw=>?_) ?_
       ·obtain ⟨s0,s1,s2,s3⟩:=hSw
        first|(go_simp;done)|(go_simp;with_reducible rfl)
       refine aA ?_;refine aP 12 (I 1) 91 hS0 (fun w' hSw=>?_) ?_
       ·clear hSw
        first|(go_simp;done)|(go_simp;with_reducible rfl)
       refine aA ?_;refine aP 13 (I 0) 92 hS0 (fun w' hSw=>?_) ?_
       ·clear hSw
        first|(go_simp;done)|(go_simp;with_reducible rfl)
       refine aA ?_;refine aP 14 (.pointer (some ⟨yb,yo,none⟩)) 93 hS0 (fun w' hSw=>?_) ?_
       ·clear hSw
        first|(go_simp;done)|(go_simp;with_reducible rfl)
       refine aA ?_;refine aP 15 (.pointer (some ⟨yb,yo+4,none⟩)) 94 hS0 (fun w' hSw=>?_) ?_
       ·clear hSw
        first|(go_simp;done)|(go_simp;with_reducible rfl)
       refine aA ?_;refine aP 16 (I r0.off) 95 hS0 (fun w' hSw=>?_) ?_
       ·obtain ⟨s0,s1,s2,s3⟩:=hSw
        first|(go_simp;done)|(go_simp;with_reducible rfl)
       refine aA ?_;refine aP 17 (I (fd1*1440+r1.minute - r0.off)) 96 hS0 (fun w' hSw=>?_) ?_
       ·clear hSw
        first|(go_simp;done)|(go_simp;with_reducible rfl)
       refine aA ?_;refine aP 18 (.pointer (some ⟨rb,4,none⟩)) 97 hS0 (fun w' hSw=>?_) ?_
       ·clear hSw
        first|(go_simp;done)|(go_simp;with_reducible rfl)
       refine aA ?_;refine aP 19 (I r1.off) 98 hS0 (fun w' hSw=>?_) ?_
       ·obtain ⟨s0,s1,s2,s3⟩:=hSw
        first|(go_simp;done)|(go_simp;with_reducible rfl)
       refine aA ?_;refine oD 20 ( .agg #[I (fd1*1440+r1.minute - r0.off),I r1.off]) 99 rfl rfl hS0 (bP rfl 105 _ rfl _ (by kernel_rfl)) ?_;refine aA ?_;refine lK 4 21 (fun K hK=>?_) (fun K hK=>?_)
       ·have c8:V.cell? ⟨w.heap.size+1,8,none⟩=some (.slice A n cp):=HKB1.out.k.cell 8;go_simp;clear c8;refine hK.out _ _ hS0 (fun _=>?_);clear hK K;refine aA ?_;refine bD 21 (fun K hK=>?_);go_simp;have hS5:JM rb w.heap.size yb (yo+4) r1.minute r1.off r0.off (.slice (some ⟨yb,yo,none⟩) 2 d0) (V.alloc (.cells #[I (fd1*1440+r1.minute - r0.off),I r1.off] 105)):=⟨(zU.out.below (ag _ _)).cell 3,(zU.out.below (ag _ _)).cell 4,(HKB1.out.grow (ag _ _)).z.cell 7,(HY.out _ (HKB1.out.grow (ag _ _)).lo).a 4 _ rfl⟩;refine hK.out _ _ hS5 (fun _=>?_);clear hK K;refine aA ?_;refine bD 22 (fun K hK=>?_);have hvl:=HKB1.out.k.lt;refine step_append_lies _ (by rfl) _ _ _ (by rfl) (w.heap.size+2) 105 i0 (.agg #[I 0,I 0]) 2 16 Tryz.underlying51 HI.out mP.out iM.out iH.out rfl (by omega) (.slice A n cp) n (vW.flatMap Tr.cells) (by rfl) (own_below HKB1.out.own (ag _ _)) ⟨V.heap.size,0,none⟩ 1 1 [I (fd1*1440+r1.minute - r0.off),I r1.off] (by rfl) rfl (bW V _ _ _ rfl) (vH ⟨fd1*1440+r1.minute - r0.off,r1.off⟩) (by omega) (by unfold maxLen;omega) (by omega) (by simp;omega) _ rfl ?_;intro gg cap w6 hown6 hgrow6 _ _;have hxk:=ae (pW.add (x:=⟨fd1*1440+r1.minute - r0.off,r1.off⟩) HKB1.out rfl rfl hown6 hgrow6);have yX:Hid (AV rb 107 #[I r1.month,I r1.cZ,I r1.dh,I r1.minute,I r1.off] w6):=ae ⟨(hgrow6.block _ (by have:=zU.out.lt;simp;omega) zV.out).trans ((Below.heap_alloc _ _ _ zU.out.lt).trans zU.out.var)⟩;have hk6:Hid (AV (w.heap.size+1) 190 ([I ep, .slice A0 n0 a,I lp, .slice R0 n1 r,I st, .slice C0 n2 c0,I ho, .slice (some ⟨yb,yo,none⟩) 2 d0]++ [Value.slice A n cp,I q]).toArray w6):=ae ⟨(hgrow6.block _ (by have:=HKB1.out.k.lt;simp;omega) (dZ HKB1.out.own _ (by omega))).trans ((Below.heap_alloc _ _ _ HKB1.out.k.lt).trans HKB1.out.k.var)⟩;have Ld:Hid (AV w.heap.size 54 #[I ep, .slice A0 n0 a,I lp, .slice R0 n1 r,I st, .slice C0 n2 c0,I ho, .slice (some ⟨yb,yo,none⟩) 2 d0] w6):=ae ⟨(hgrow6.block _ (by have:=HKB1.out.z.lt;simp;omega) (dZ HKB1.out.own _ (by omega))).trans ((Below.heap_alloc _ _ _ HKB1.out.z.lt).trans HKB1.out.z.var)⟩;have KY:Hid (w6.cell? ⟨yb,yo+4,none⟩=some (I r0.off)):=ae (by
         have hb6:Below w.heap.size w w6:=dm (ai HKB1.out.lo (ag _ _)) (aK (own_below HKB1.out.own (ag _ _)) (by omega)) (ai HKB1.out.lo (ag _ _)).size hgrow6;exact (HY.out w6 hb6).a 4 _ rfl)
        clear hown6 hgrow6;have hS6:JM rb w.heap.size yb (yo+4) r1.minute r1.off r0.off (.slice (some ⟨yb,yo,none⟩) 2 d0) w6:=⟨yX.out.cell 3,yX.out.cell 4,Ld.out.cell 7,KY.out⟩;refine hK.out _ _ hS6 (fun _=>?_);clear hK K;try simp only [Act.put,List.setIfInBounds_toArray]
        refine aP 23 (.pointer (some ⟨w.heap.size+1,0,none⟩)) 102 hS6 (fun w' hSw=>?_) ?_
        ·clear hSw
         first|(go_simp;done)|(go_simp;with_reducible rfl)
        try simp only [Act.put]
        refine aP 24 (.pointer (some ⟨w.heap.size+1,8,none⟩)) 103 hS6 (fun w' hSw=>?_) ?_
        ·clear hSw
         first|(go_simp;done)|(go_simp;with_reducible rfl)
        try simp only [Act.put]
        refine bD 25 (fun K hK=>?_);have c8:=hk6.out.cell 8;have f8:=hk6.out.eY 8;go_simp;have hS7:JM rb w.heap.size yb (yo+4) r1.minute r1.off r0.off (.slice (some ⟨yb,yo,none⟩) 2 d0) (w6.setCell ⟨w.heap.size+1,8,none⟩ (.slice (some ⟨gg,0,none⟩) (n+1) cap)):=⟨(yX.out.far QV.out 8 _).cell 3,(yX.out.far QV.out 8 _).cell 4,hxk.out.z.cell 7,(HY.out _ hxk.out.lo).a 4 _ rfl⟩;refine hK.out _ _ hS7 (fun _=>?_);clear hK K;refine wpAnyH_done (by kernel_rfl) ?_ _;go_wp2_with fail;go_meet;exact ⟨some ⟨gg,0,none⟩,n+1,cap,by omega,by rw [show BF=vW++ [⟨fd1*1440+r1.minute - r0.off,r1.off⟩] from HE1T.out];exact hxk.out⟩
       ·go_simp;have hS5:JM rb w.heap.size yb (yo+4) r1.minute r1.off r0.off (.slice (some ⟨yb,yo,none⟩) 2 d0) (V.alloc (.cells #[I (fd1*1440+r1.minute - r0.off),I r1.off] 105)):=⟨(zU.out.below (ag _ _)).cell 3,(zU.out.below (ag _ _)).cell 4,(HKB1.out.grow (ag _ _)).z.cell 7,(HY.out _ (HKB1.out.grow (ag _ _)).lo).a 4 _ rfl⟩;refine hK.out _ _ hS5 (fun _=>?_);clear hK K;refine aA ?_;refine bD 4 (fun K hK=>?_);have c8:(V.alloc (.cells #[I (fd1*1440+r1.minute - r0.off),I r1.off] 105)).cell? ⟨w.heap.size+1,8,none⟩=some (.slice A n cp):=(HKB1.out.grow (ag _ _)).k.cell 8;go_simp;clear c8;refine hK.out _ _ hS5 (fun _=>?_);clear hK K;refine aA ?_;refine bD 22 (fun K hK=>?_);have hvl:=HKB1.out.k.lt;refine step_append_lies _ (by rfl) _ _ _ (by rfl) (w.heap.size+2) 105 i0 (.agg #[I 0,I 0]) 2 16 Tryz.underlying51 HI.out mP.out iM.out iH.out rfl (by omega) (.slice A n cp) n (vW.flatMap Tr.cells) (by rfl) (own_below HKB1.out.own (ag _ _)) ⟨V.heap.size,0,none⟩ 1 1 [I (fd1*1440+r1.minute - r0.off),I r1.off] (by rfl) rfl (bW V _ _ _ rfl) (vH ⟨fd1*1440+r1.minute - r0.off,r1.off⟩) (by omega) (by unfold maxLen;omega) (by omega) (by simp;omega) _ rfl ?_;intro gg cap w6 hown6 hgrow6 _ _;have hxk:=ae (pW.add (x:=⟨fd1*1440+r1.minute - r0.off,r1.off⟩) HKB1.out rfl rfl hown6 hgrow6);have yX:Hid (AV rb 107 #[I r1.month,I r1.cZ,I r1.dh,I r1.minute,I r1.off] w6):=ae ⟨(hgrow6.block _ (by have:=zU.out.lt;simp;omega) zV.out).trans ((Below.heap_alloc _ _ _ zU.out.lt).trans zU.out.var)⟩;have hk6:Hid (AV (w.heap.size+1) 190 ([I ep, .slice A0 n0 a,I lp, .slice R0 n1 r,I st, .slice C0 n2 c0,I ho, .slice (some ⟨yb,yo,none⟩) 2 d0]++ [Value.slice A n cp,I q]).toArray w6):=ae ⟨(hgrow6.block _ (by have:=HKB1.out.k.lt;simp;omega) (dZ HKB1.out.own _ (by omega))).trans ((Below.heap_alloc _ _ _ HKB1.out.k.lt).trans HKB1.out.k.var)⟩;have Ld:Hid (AV w.heap.size 54 #[I ep, .slice A0 n0 a,I lp, .slice R0 n1 r,I st, .slice C0 n2 c0,I ho, .slice (some ⟨yb,yo,none⟩) 2 d0] w6):=ae ⟨(hgrow6.block _ (by have:=HKB1.out.z.lt;simp;omega) (dZ HKB1.out.own _ (by omega))).trans ((Below.heap_alloc _ _ _ HKB1.out.z.lt).trans HKB1.out.z.var)⟩;have KY:Hid (w6.cell? ⟨yb,yo+4,none⟩=some (I r0.off)):=ae (by
         have hb6:Below w.heap.size w w6:=dm (ai HKB1.out.lo (ag _ _)) (aK (own_below HKB1.out.own (ag _ _)) (by omega)) (ai HKB1.out.lo (ag _ _)).size hgrow6;exact (HY.out w6 hb6).a 4 _ rfl)
        clear hown6 hgrow6;have hS6:JM rb w.heap.size yb (yo+4) r1.minute r1.off r0.off (.slice (some ⟨yb,yo,none⟩) 2 d0) w6:=⟨yX.out.cell 3,yX.out.cell 4,Ld.out.cell 7,KY.out⟩;refine hK.out _ _ hS6 (fun _=>?_);clear hK K;try simp only [Act.put,List.setIfInBounds_toArray]
        refine aP 23 (.pointer (some ⟨w.heap.size+1,0,none⟩)) 102 hS6 (fun w' hSw=>?_) ?_
        ·clear hSw
         first|(go_simp;done)|(go_simp;with_reducible rfl)
        try simp only [Act.put]
        refine aP 24 (.pointer (some ⟨w.heap.size+1,8,none⟩)) 103 hS6 (fun w' hSw=>?_) ?_
        ·clear hSw
         first|(go_simp;done)|(go_simp;with_reducible rfl)
        try simp only [Act.put]
        refine bD 25 (fun K hK=>?_);have c8:=hk6.out.cell 8;have f8:=hk6.out.eY 8;go_simp;have hS7:JM rb w.heap.size yb (yo+4) r1.minute r1.off r0.off (.slice (some ⟨yb,yo,none⟩) 2 d0) (w6.setCell ⟨w.heap.size+1,8,none⟩ (.slice (some ⟨gg,0,none⟩) (n+1) cap)):=⟨(yX.out.far QV.out 8 _).cell 3,(yX.out.far QV.out 8 _).cell 4,hxk.out.z.cell 7,(HY.out _ hxk.out.lo).a 4 _ rfl⟩;refine hK.out _ _ hS7 (fun _=>?_);clear hK K;refine wpAnyH_done (by kernel_rfl) ?_ _;go_wp2_with fail;go_meet;exact ⟨some ⟨gg,0,none⟩,n+1,cap,by omega,by rw [show BF=vW++ [⟨fd1*1440+r1.minute - r0.off,r1.off⟩] from HE1T.out];exact hxk.out⟩
     case rest=>
      obtain ⟨A',n',cp',hnn,hk2⟩:=hcut;have jI:=ae hk2;have hnd:(n':Int)≤2*yy:=by omega
      clear hk2 hnn jX HYD1 HFD1 CE VT v0 v1 v2 v3 v7 dE yE yF yG yH yI y9 zf zh y13 zk;have v0:wc.cell? ⟨w.heap.size,0,none⟩=some (I ep):=jI.out.z.cell 0;have v1:wc.cell? ⟨w.heap.size,1,none⟩=some (.slice A0 n0 a):=jI.out.z.cell 1;have v2:wc.cell? ⟨w.heap.size,2,none⟩=some (I lp):=jI.out.z.cell 2;have v3:wc.cell? ⟨w.heap.size,3,none⟩=some (.slice R0 n1 r):=jI.out.z.cell 3;have v7:wc.cell? ⟨w.heap.size,7,none⟩=some (.slice (some ⟨yb,yo,none⟩) 2 d0):=jI.out.z.cell 7;go_wp2_with fail;rw [rounds_succ];have hbd2:=HYRB.out yy;have hge:=hbd2.1;have CQ:Hid (nI BF):=ae (by rw [←HTS1.out,←HTS0.out];exact HPB.out bg yy r1 r0 _ OI.out OH.out hb0 (by omega) (HPB.out bg yy r0 r1 ts OH.out OI.out hb0 (by omega) DN.out));obtain ⟨f',hf1,hf2⟩:=Uc HF.out hlt YP.out hge;rw [HTS0.out,HTS1.out] at hf2;obtain ⟨yl,hyl⟩:∃v,uw cal yy=v:=⟨_,rfl⟩;have hcy:=oI.out yy wc jI.out.lo;rw [hyl] at hf1 hf2 hcy hge hbd2;have VV:=ae hf1;have HF2:=ae hf2;have jb:=ae hcy;clear hcy hyl hf1 hf2;go_wp2_with fail;refine jb.out.mono ?_;rintro e w9 ⟨rfl,Ec⟩;have HK9:=ae (jI.out.grow Ec);clear Ec jI v0 v1 v2 v3 v7;go_wp2_with fail;go_roundw
      case rel=>exact ⟨f',bg+yl,yy+1,A',n',cp',BF,by go_num,by go_num,by omega,by omega,by omega,by omega,by omega,VV.out,HF2.out,CQ.out,HK9.out⟩
      case measure=>simp [intOf];omega
   ·have hre:=PO HF.out hlt;subst hre;clear HF YP;go_wp2_with fail;go_quiet (fail);obtain ⟨W7,SE⟩:∃W,wr.drewN nq=W:=⟨_,rfl⟩;rw [SE];have xh:Hid (pW w [I ep, .slice A0 n0 a,I lp, .slice R0 n1 r,I st, .slice C0 n2 c0,I ho, .slice (some ⟨yb,yo,none⟩) 2 d0] q A n cp ts W7):=ae (by rw [←SE];exact HW.out.drewN nq);clear SE v0 c9 HW;have c8:W7.cell? ⟨w.heap.size+1,8,none⟩=some (.slice A n cp):=xh.out.k.cell 8;have HSRT:=ae (I9 xh.out.own xh.out.len (by omega));go_wp2_with fail;refine HSRT.out.mono ?_;rintro e w8 ⟨rfl,us,hp,hs,ho,hg⟩;have HGS:Hid (ed us (q*1440)=ed ys (q*1440)):=ae (Ea (hp.trans QT.out.symm) hs HPS.out);have xR:Hid (ed ys (q*1440)=true→us=ys):=ae (fun h=>um h (hp.trans QT.out.symm) hs);have hul:us.length=n:=by rw [hp.length_eq];exact xh.out.len
    have YT:=ae (xh.out.sorted hul ho hg);have HUB:Hid (nI us):=ae (DN.out.perm hp);clear hp hs ho hg HSRT xh c8 QT HPS DN;have c8:w8.cell? ⟨w.heap.size+1,8,none⟩=some (.slice A n cp):=YT.out.k.cell 8;go_wp2_with fail;clear c8
    go_loopw [121] (fun i wr=>∃k:Nat,k≤n∧i=I (k:Nat)∧(∀j,j<k→2160≤kT us (q*1440) j)∧pW w [I ep, .slice A0 n0 a,I lp, .slice R0 n1 r,I st, .slice C0 n2 c0,I ho, .slice (some ⟨yb,yo,none⟩) 2 d0] q A n cp us wr) (fun i _=>n - (intOf i).toNat)
    case atStart=>exact ⟨0,Nat.zero_le _,rfl,(fun j hj=>by omega),YT.out⟩
    case round=>
     clear YT;obtain ⟨k,hkn,rfl,hgj,hks⟩:=hrel;have HGJ:=ae hgj;have HX:=ae hks;clear hks hgj;by_cases hlt2:k<n
     ·have i1:(k:Int)<(n:Int):=by omega
      have i0':(0:Int)≤(k:Int):=by omega
      obtain ⟨gp,hga⟩:∃v,kT us (q*1440) k=v:=⟨_,rfl⟩;have HGK:=ae hga;unfold kT at hga;rw [hul] at hga;have a0:=lY 0 HUB.out;have ak:=lY k HUB.out;have ak1:=lY (k+1) HUB.out;obtain ⟨g,hAg⟩:∃g,A=some ⟨g,0,none⟩:=by
       rcases HX.out.own.2 with ⟨_,hz⟩|⟨g,cap,cur,hv,_⟩
       ·omega
       ·injection hv with h1 _ _;exact ⟨g,h1⟩
      subst hAg;have HAT:=ae (fun (W:World) (h:pW w [I ep, .slice A0 n0 a,I lp, .slice R0 n1 r,I st, .slice C0 n2 c0,I ho, .slice (some ⟨yb,yo,none⟩) 2 d0] q (some ⟨g,0,none⟩) n cp us W) (j:Nat) (hj:j<n)=>qQ h.own h.len j hj);have HOF:=ae (uo HX.out.own HX.out.len k hlt2);obtain ⟨t0,ht0⟩:∃t,gG us 0=t:=⟨_,rfl⟩;obtain ⟨tk,htk⟩:∃t,gG us k=t:=⟨_,rfl⟩;obtain ⟨tl,htl⟩:∃t,gG us (k+1)=t:=⟨_,rfl⟩;obtain ⟨ok,hok⟩:∃t,jE us k=t:=⟨_,rfl⟩;have zN:Hid (∀W,pW w [I ep, .slice A0 n0 a,I lp, .slice R0 n1 r,I st, .slice C0 n2 c0,I ho, .slice (some ⟨yb,yo,none⟩) 2 d0] q (some ⟨g,0,none⟩) n cp us W→W.cell? ⟨g,0,none⟩=some (I t0)):=ae (fun W h=>by have:=HAT.out W h 0 (by omega);rw [ht0] at this;simpa using this);have Vh:Hid (∀W,pW w [I ep, .slice A0 n0 a,I lp, .slice R0 n1 r,I st, .slice C0 n2 c0,I ho, .slice (some ⟨yb,yo,none⟩) 2 d0] q (some ⟨g,0,none⟩) n cp us W→k+1<n→W.cell? ⟨g,(k+1)*2,none⟩=some (I tl)):=ae (fun W h hj=>by have:=HAT.out W h (k+1) hj;rw [htl] at this;exact this);have e0:=HAT.out wr HX.out k hlt2;have e1:=HOF.out;rw [htk] at e0;rw [hok] at e1;rw [ht0,htk,htl] at hga;rw [ht0] at a0;rw [htk] at ak;rw [htl] at ak1;clear ht0 htk htl hok HAT HOF;go_upto_region 24 with (first
       |((with_reducible refine bf 105 ?_);refine aI rfl 105 rfl #[I 0,I 0] (by kernel_rfl) ?_)
       |((with_reducible refine dF 105 ?_);go_must (refine wpList_store_row rfl _ _ _ rfl wr.heap.size #[I tk,I ok] rfl rfl 105 #[I 0,I 0] (heap_alloc_last wr _) (by kernel_rfl) rfl (by simp [Value.oneCell']) ?_)))
      have hbr:Below wr.heap.size wr ((wr.alloc (.cells #[I 0,I 0] 105)).setRow wr.heap.size #[I tk,I ok]):=aB (ag wr _) (Nat.le_refl _) _;have OU:=ae (AV.oO (AV.new wr #[I 0,I 0] 105) #[I tk,I ok]);have ug:=ae (HX.out.grow hbr);clear hbr HX e0 e1;generalize (wr.alloc (.cells #[I 0,I 0] 105)).setRow wr.heap.size #[I tk,I ok]=W2 at ug OU ⊢;generalize wr.heap.size=rb at OU ⊢;have c8:W2.cell? ⟨w.heap.size+1,8,none⟩=some (.slice (some ⟨g,0,none⟩) n cp):=ug.out.k.cell 8;have c9:W2.cell? ⟨w.heap.size+1,9,none⟩=some (I q):=ug.out.k.cell 9;have a00:=zN.out W2 ug.out;have hn0:0<n:=by omega
      have wq:IntKind.i64.wrap (q*1440)=q*1440:=by rw [IntKind.wrap_i64];omega
      have wt:IntKind.i64.wrap (t0+q*1440)=t0+q*1440:=by rw [IntKind.wrap_i64];omega
      go_quiet ((go_at_call 96;exact vk _ q W2 c9 (by omega) (by omega) _));obtain ⟨W3,hW3⟩:∃W,W2.drewN nq=W:=⟨_,rfl⟩;rw [hW3];have DT:Hid (pW w [I ep, .slice A0 n0 a,I lp, .slice R0 n1 r,I st, .slice C0 n2 c0,I ho, .slice (some ⟨yb,yo,none⟩) 2 d0] q (some ⟨g,0,none⟩) n cp us W3):=ae (by rw [←hW3];exact ug.out.drewN nq);have HR3:Hid (AV rb 105 #[I tk,I ok] W3):=ae (by rw [←hW3];exact OU.out.below (below_drewN' _ _));clear hW3 c8 c9 a00 ug OU;have c8:W3.cell? ⟨w.heap.size+1,8,none⟩=some (.slice (some ⟨g,0,none⟩) n cp):=DT.out.k.cell 8;have r00:W3.cell? ⟨rb,0,none⟩=some (I tk):=HR3.out.cell 0;by_cases hl:k+1<n
      ·have i2:(k:Int)+1<(n:Int):=by omega
       have al:=Vh.out W3 DT.out hl;rw [if_pos hl] at hga;clear zN Vh;by_cases hgb:gp<2160
       ·have hnl:tl - tk<2160:=by omega
        have HF:Hid (ed ys (q*1440)=false):=ae (by rw [←HGS.out];exact Ip (k:=k) (by rw [hul];exact hlt2) (by rw [HGK.out];exact hgb));clear hga;go_wp2_with fail;go_ret2;exact Or.inr ⟨HF.out,rfl,DT.out.lo⟩
       ·have hnl:¬tl - tk<2160:=by omega
        have HN:Hid (∀j,j<k+1→2160≤kT us (q*1440) j):=ae (fun j hj=>by
         by_cases hj2:j<k
         ·exact HGJ.out j hj2
         ·rw [show j=k by omega,HGK.out];omega)
        clear hga;go_wp2_with fail;go_roundw
        case rel=>exact ⟨k+1,by omega,by go_num,HN.out,DT.out⟩
        case measure=>simp [intOf];omega
      ·have i2:¬(k:Int)+1<(n:Int):=by omega
       rw [if_neg hl] at hga;clear zN Vh;by_cases hgb:gp<2160
       ·have hnl:t0+q*1440 - tk<2160:=by omega
        have HF:Hid (ed ys (q*1440)=false):=ae (by rw [←HGS.out];exact Ip (k:=k) (by rw [hul];exact hlt2) (by rw [HGK.out];exact hgb));clear hga;go_wp2_with fail;go_ret2;exact Or.inr ⟨HF.out,rfl,DT.out.lo⟩
       ·have hnl:¬t0+q*1440 - tk<2160:=by omega
        have HN:Hid (∀j,j<k+1→2160≤kT us (q*1440) j):=ae (fun j hj=>by
         by_cases hj2:j<k
         ·exact HGJ.out j hj2
         ·rw [show j=k by omega,HGK.out];omega)
        clear hga;go_wp2_with fail;go_roundw
        case rel=>exact ⟨k+1,by omega,by go_num,HN.out,DT.out⟩
        case measure=>simp [intOf];omega
     ·have i1:¬(k:Int)<(n:Int):=by omega
      have Gw:Hid (ed us (q*1440)=true):=ae (Iq hul fun j hj=>HGJ.out j (by omega));have OV:Hid (ed ys (q*1440)=true):=ae (HGS.out.symm.trans Gw.out);go_wp2_with fail;go_ret2;exact Or.inl ⟨OV.out,rfl,A,n,cp,by rw [←xR.out OV.out];exact HX.out⟩
end Go.Proofs.YtbaehbbonkljpaaGreat
