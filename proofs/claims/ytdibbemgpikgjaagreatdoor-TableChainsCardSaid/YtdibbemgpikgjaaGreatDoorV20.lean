/- The texts Ni, in this order. -/
import Derived.Test.YtdibbemgpikgjaaGreatDoorV00
import Derived.Test.YtdibbemgpikgjaaGreatDoorV16
import Derived.Test.YtdibbemgpikgjaaGreatDoorV19
namespace Go.Proofs.YtdibbemgpikgjaaGreatDoor
open Go Go.RowKit
theorem ys_bd (z:Zn) {r0 r1:Yr} (hc:fO z.cal) (hy:z.aB= [r0,r1]) (h0:xH r0) (h1:xH r1):Iq (qi z):=by
 have hz:=o7 z hc
 unfold qi
 rw [hy]
 exact (Hz z.cal r0 r1 z.cal.aK _ hc h0 h1 (by have:=hc.ep;omega) hc.ep.1 1400 _ _ _ (show Iq [] from fun _ h=>nomatch h) (by omega) (by omega) (by omega) (by simp)).1
set_option maxRecDepth 10000 in
set_option maxHeartbeats 4000000 in
theorem QQ (z:Zn) (s:Zs) (r0 r1:Yr) (w:World) (hc:fO z.cal) (h:jb w w.heap.size s z) (hy:z.aB= [r0,r1]) (hr0:xH r0) (hr1:xH r1) (hg:jA (qi z) (jl z*1440)=true):
  Calls Tryz.prog 86 #[.agg (ay z s)] w fun e w'=>e= .returned (.tuple #[.pointer (some ⟨w.heap.size+1,0,none⟩), .bool true])∧∃A n c,pG w (ay z s).toList (jl z) A n c (qi z) w':=by
 have ug:=ae (fun (W:World) (hb:Below w.heap.size w W)=>Pz z.cal s.A s.B s.a s.b W hc ⟨h.au.grow hb,h.rules.grow hb⟩)
 have SG:=ae (fun (bg y:Int) (x:Yr) (W:World) (hx:xH x) (h1:0≤bg) (h2:bg≤100000) (hb:Below w.heap.size w W)=>Hy z.cal s.A s.B s.a s.b bg y x W hc ⟨h.au.grow hb,h.rules.grow hb⟩ h1 h2 hx)
 have pg:=ae (fun (y:Int) (W:World) (hb:Below w.heap.size w W)=>UC z.cal s.A s.B s.a s.b y W hc ⟨h.au.grow hb,h.rules.grow hb⟩)
 have hbd:=o7 z hc
 have hge1:=wo z hc
 have hep:=hc.ep
 have HC:=ae hc
 have Rq:=ae (Qz hc hy hr0 hr1)
 have hzm:=(ys_bd z hc hy hr0 hr1)
 have Cf:=ae hg
 obtain ⟨yb,yo,hD,hyb,Ff⟩:=h.aB.there (by rw [hy];simp [Yr.cells])
 have HY:Hid (∀W,Below w.heap.size w W→YC W yb yo r0 r1):=ae fun W hb=>by
  rw [hy] at Ff
  exact ⟨aO (az.elem (s:=5) (f:=Yr.cells) (xs:= [r0,r1]) (fun _ _=>rfl) Ff 0 r0 rfl) hb hyb,aO (az.elem (s:=5) (f:=Yr.cells) (xs:= [r0,r1]) (fun _ _=>rfl) Ff 1 r1 rfl) hb hyb⟩
 clear Ff
 have hzq:jl z=Gs (qx z.cal):=by unfold jl;rw [hy]
 have hcd:=Ec z.cal hc
 obtain ⟨dd,hdd⟩:∃d,qx z.cal=d:=⟨_,rfl⟩
 rw [hdd] at ug hzq hcd
 obtain ⟨res,hres⟩:∃res,Uh z r0 r1=res:=⟨_,rfl⟩
 rw [hres] at Rq
 unfold Uh at hres
 obtain ⟨q,hq⟩:∃q,jl z=q:=⟨_,rfl⟩
 rw [hq] at hbd hge1 hres Cf hzq ⊢
 obtain ⟨ys,hys⟩:∃ys,qi z=ys:=⟨_,rfl⟩
 rw [hys] at Rq Cf hzm ⊢
 have HTBY:=ae hzm
 clear hzm
 have ja:=ae hres
 have Wi:=ae hr0
 have Wj:=ae hr1
 have hmi0:=hr0.mi
 have hof0:=hr0.of
 have TM:=hr1.mi
 have TN:=hr1.of
 clear hres hq hys hr0 hr1 hc h hdd hg
 obtain ⟨cal,st,tr,ho,yr⟩:=z
 obtain ⟨A0,a,R0,r,C0,c0,D0,d0⟩:=s
 simp only at hy hD ug SG pg hep HC ja ⊢
 subst hy hD
 obtain ⟨ep,tN⟩:∃ep,cal.aK=ep:=⟨_,rfl⟩
 rw [tN] at hep ja
 obtain ⟨lp,vI⟩:∃lp,cal.bz=lp:=⟨_,rfl⟩
 obtain ⟨n0,hn0⟩:∃n,cal.au.length=n:=⟨_,rfl⟩
 obtain ⟨n1,hn1⟩:∃n,cal.rules.length=n:=⟨_,rfl⟩
 obtain ⟨n2,hn2⟩:∃n,tr.length=n:=⟨_,rfl⟩
 unfold ay aG at*
 simp only [tN,vI,hn0,hn1,hn2,List.length_cons,List.length_nil,Nat.zero_add,Nat.reduceAdd] at ug SG pg ⊢
 clear tN vI hn0 hn1 hn2
 obtain ⟨i0,hi,hq0,hq1,hq2⟩:=info_parts vJ
 have HI:=ae hi
 have yt:=ae hq0
 have oJ:=ae hq1
 have lH:=ae hq2
 clear hi hq0 hq1 hq2
 show Calls Tryz.prog _ #[.agg #[I ep, .slice A0 n0 a,I lp, .slice R0 n1 r,I st, .slice C0 n2 c0,I ho, .slice (some ⟨yb,yo,none⟩) 2 d0]] w _
 show Calls Tryz.prog _ _ w (fun e w'=>e= .returned (.tuple #[.pointer (some ⟨w.heap.size+1,0,none⟩), .bool true])∧∃A n c,pG w [I ep, .slice A0 n0 a,I lp, .slice R0 n1 r,I st, .slice C0 n2 c0,I ho, .slice (some ⟨yb,yo,none⟩) 2 d0] q A n c ys w')
 have hone:(#[I ep, .slice A0 n0 a,I lp, .slice R0 n1 r,I st, .slice C0 n2 c0,I ho, .slice (some ⟨yb,yo,none⟩) 2 d0, .slice none 0 0,I 1]:Array Value).all (·.oneCell')=true:=by simp [Value.oneCell']
 have HV:=ae (AV.new w #[I ep, .slice A0 n0 a,I lp, .slice R0 n1 r,I st, .slice C0 n2 c0,I ho, .slice (some ⟨yb,yo,none⟩) 2 d0] 67)
 go_enter Tryz.func86,Tryz.ntmps86
 go_wp2_with (first
  |((with_reducible refine dG 67 ?_);go_must (refine aX rfl _ _ rfl w.heap.size rfl #[I ep, .slice A0 n0 a,I lp, .slice R0 n1 r,I st, .slice C0 n2 c0,I ho, .slice (some ⟨yb,yo,none⟩) 2 d0] HV.out.jB _ Tryz.underlying67 rfl (by kernel_rfl) ?_))
  |((with_reducible refine iw 206 ?_);refine bY rfl 206 rfl #[I ep, .slice A0 n0 a,I lp, .slice R0 n1 r,I st, .slice C0 n2 c0,I ho, .slice (some ⟨yb,yo,none⟩) 2 d0, .slice none 0 0,I 1] (by kernel_rfl) ?_))
 have HK:Hid (pG w [I ep, .slice A0 n0 a,I lp, .slice R0 n1 r,I st, .slice C0 n2 c0,I ho, .slice (some ⟨yb,yo,none⟩) 2 d0] 1 none 0 0 [] ((w.alloc (.cells #[I ep, .slice A0 n0 a,I lp, .slice R0 n1 r,I st, .slice C0 n2 c0,I ho, .slice (some ⟨yb,yo,none⟩) 2 d0] 67)).alloc (.cells #[I ep, .slice A0 n0 a,I lp, .slice R0 n1 r,I st, .slice C0 n2 c0,I ho, .slice (some ⟨yb,yo,none⟩) 2 d0, .slice none 0 0,I 1] 206))):=ae ⟨ah (ag w _) (ag _ _),HV.out.below (ag _ _),by have:=AV.new (w.alloc (.cells #[I ep, .slice A0 n0 a,I lp, .slice R0 n1 r,I st, .slice C0 n2 c0,I ho, .slice (some ⟨yb,yo,none⟩) 2 d0] 67)) #[I ep, .slice A0 n0 a,I lp, .slice R0 n1 r,I st, .slice C0 n2 c0,I ho, .slice (some ⟨yb,yo,none⟩) 2 d0, .slice none 0 0,I 1] 206;rw [rX] at this;exact this,World.ownsRow_nil _ _ _ _,rfl⟩
 clear HV
 generalize (w.alloc (.cells #[I ep, .slice A0 n0 a,I lp, .slice R0 n1 r,I st, .slice C0 n2 c0,I ho, .slice (some ⟨yb,yo,none⟩) 2 d0] 67)).alloc (.cells #[I ep, .slice A0 n0 a,I lp, .slice R0 n1 r,I st, .slice C0 n2 c0,I ho, .slice (some ⟨yb,yo,none⟩) 2 d0, .slice none 0 0,I 1] 206)=W0 at HK ⊢
 have v0:W0.cell? ⟨w.heap.size,0,none⟩=some (I ep):=HK.out.z.cell 0
 have v1:W0.cell? ⟨w.heap.size,1,none⟩=some (.slice A0 n0 a):=HK.out.z.cell 1
 have v2:W0.cell? ⟨w.heap.size,2,none⟩=some (I lp):=HK.out.z.cell 2
 have v3:W0.cell? ⟨w.heap.size,3,none⟩=some (.slice R0 n1 r):=HK.out.z.cell 3
 have v7:W0.cell? ⟨w.heap.size,7,none⟩=some (.slice (some ⟨yb,yo,none⟩) 2 d0):=HK.out.z.cell 7
 go_wp2_with fail
 refine (ug.out _ HK.out.lo).mono ?_
 rintro e w1 ⟨rfl,hb1⟩
 have gY:=ae (HK.out.grow hb1)
 clear hb1 HK ug v0 v1 v2 v3 v7
 have c9:w1.cell? ⟨w.heap.size+1,9,none⟩=some (I 1):=gY.out.k.cell 9
 have f9:w1.frozen? ⟨w.heap.size+1,9,none⟩=false:=gY.out.k.dK 9
 have iO:=ae (gY.out.VC rfl dd)
 have Nc:Int.tmod dd 7=dd%7:=Int.tmod_eq_emod_of_nonneg hcd.1
 obtain ⟨p,hp⟩:∃p,dd%7=p:=⟨_,rfl⟩
 rw [hp] at Nc
 have HP:=ae hp
 have HZQ:=ae hzq
 clear hp hzq
 go_upto_if 38 with fail
 go_cut [6] (fun d wx=>d=I dd∧pG w [I ep, .slice A0 n0 a,I lp, .slice R0 n1 r,I st, .slice C0 n2 c0,I ho, .slice (some ⟨yb,yo,none⟩) 2 d0] q none 0 0 [] wx)
 case first=>
  by_cases h7:p=0
  ·subst h7
   have hqq:q=dd:=by rw [HZQ.out];unfold Gs;rw [if_pos HP.out]
   have HQE:=ae hqq
   clear hqq
   go_wp2_with fail
   go_meet
   exact ⟨rfl,by rw [HQE.out];exact iO.out⟩
  ·have hqq:q=7*dd:=by rw [HZQ.out];unfold Gs;rw [if_neg (by rw [HP.out];exact h7)]
   have HQE:=ae hqq
   clear hqq
   have hpb:(p !=0)=true:=by simpa using h7
   have w0:IntKind.i64.wrap (dd*7)=dd*7:=by rw [IntKind.wrap_i64];omega
   clear c9 f9
   generalize w1.setCell ⟨w.heap.size+1,9,none⟩ (I dd)=W2 at iO ⊢
   have c9:W2.cell? ⟨w.heap.size+1,9,none⟩=some (I dd):=iO.out.k.cell 9
   have f9:W2.frozen? ⟨w.heap.size+1,9,none⟩=false:=iO.out.k.dK 9
   have lV:=ae (iO.out.VC rfl (dd*7))
   go_wp2_with fail
   go_meet
   exact ⟨rfl,by rw [HQE.out,Int.mul_comm];exact lV.out⟩
 case rest=>
  obtain ⟨rfl,hk⟩:=hcut
  have HK:=ae hk
  clear hk iO gY c9 f9 Nc HP HZQ
  have v0:wc.cell? ⟨w.heap.size,0,none⟩=some (I ep):=HK.out.z.cell 0
  go_wp2_with fail
  clear v0
  go_loopw [8,9] (fun b y wr=>∃(f:Nat) (bg yy:Int) (A:Option Addr) (n cp:Nat) (ts:List Tr),b=I bg∧y=I yy∧1≤yy∧ep+12*(yy - 1)≤bg∧0≤bg∧bg≤ep+q+100∧(n:Int)≤2*(yy - 1)∧(ep+q - bg).toNat≤f∧uq cal r0 r1 (ep+q) f bg yy ts=res∧pG w [I ep, .slice A0 n0 a,I lp, .slice R0 n1 r,I st, .slice C0 n2 c0,I ho, .slice (some ⟨yb,yo,none⟩) 2 d0] q A n cp ts wr) (fun b _ _=>((ep+q) - intOf b).toNat)
  case atStart=>exact ⟨1400,ep,1,none,0,0,[],rfl,rfl,by omega,by omega,by omega,by omega,by omega,by omega,ja.out,HK.out⟩
  case round=>
   clear HK
   obtain ⟨f,bg,yy,A,n,cp,ts,rfl,rfl,hy1,hy2,hb0,hbs,hn2,hf,hyf,hys⟩:=hrel
   have HF:=ae hyf
   have HW:=ae hys
   have U1:=ae hf
   clear hyf hys hf
   have v0:wr.cell? ⟨w.heap.size,0,none⟩=some (I ep):=HW.out.z.cell 0
   have c9:wr.cell? ⟨w.heap.size+1,9,none⟩=some (I q):=HW.out.k.cell 9
   by_cases hlt:bg<ep+q
   ·go_wp2_with fail
    go_quiet (fail)
    obtain ⟨W7,Xr⟩:∃W,wr.drewN nq=W:=⟨_,rfl⟩
    rw [Xr]
    have wK:Hid (pG w [I ep, .slice A0 n0 a,I lp, .slice R0 n1 r,I st, .slice C0 n2 c0,I ho, .slice (some ⟨yb,yo,none⟩) 2 d0] q A n cp ts W7):=ae (by rw [←Xr];exact HW.out.drewN nq)
    clear Xr v0 c9 HW
    have v0:W7.cell? ⟨w.heap.size,0,none⟩=some (I ep):=wK.out.z.cell 0
    have v1:W7.cell? ⟨w.heap.size,1,none⟩=some (.slice A0 n0 a):=wK.out.z.cell 1
    have v2:W7.cell? ⟨w.heap.size,2,none⟩=some (I lp):=wK.out.z.cell 2
    have v3:W7.cell? ⟨w.heap.size,3,none⟩=some (.slice R0 n1 r):=wK.out.z.cell 3
    have v7:W7.cell? ⟨w.heap.size,7,none⟩=some (.slice (some ⟨yb,yo,none⟩) 2 d0):=wK.out.z.cell 7
    have dn:=ae (HY.out W7 wK.out.lo)
    have wY:W7.cell? ⟨yb,yo,none⟩=some (I r0.month):=dn.out.a 0 _ rfl
    have wZ:W7.cell? ⟨yb,yo+1,none⟩=some (I r0.df):=dn.out.a 1 _ rfl
    have xe:W7.cell? ⟨yb,yo+2,none⟩=some (I r0.dm):=dn.out.a 2 _ rfl
    have xg:W7.cell? ⟨yb,yo+3,none⟩=some (I r0.minute):=dn.out.a 3 _ rfl
    have xh:W7.cell? ⟨yb,yo+4,none⟩=some (I r0.off):=dn.out.a 4 _ rfl
    have xk:W7.cell? ⟨yb,yo+5,none⟩=some (I r1.month):=dn.out.b 0 _ rfl
    have xm:W7.cell? ⟨yb,yo+6,none⟩=some (I r1.df):=dn.out.b 1 _ rfl
    have xn:W7.cell? ⟨yb,yo+7,none⟩=some (I r1.dm):=dn.out.b 2 _ rfl
    have y13:W7.cell? ⟨yb,yo+8,none⟩=some (I r1.minute):=dn.out.b 3 _ rfl
    have xq:W7.cell? ⟨yb,yo+9,none⟩=some (I r1.off):=dn.out.b 4 _ rfl
    go_wp2_with fail
    refine wp_loop_rounds 3 ?_
    rw [rounds_succ]
    go_upto_block 3 with fail
    obtain ⟨vg,Nh⟩:∃t,uo cal bg yy r0 r1 ts=t:=⟨_,rfl⟩
    have qA:=fun (W:World) hb=>SG.out bg yy r0 W Wi.out (by omega) (by omega) hb
    have Qh:=EZ cal bg yy r0 HC.out Wi.out (by omega)
    have TI:=sW cal bg yy r0 HC.out Wi.out (by omega)
    obtain ⟨pr0,Ju⟩:∃pr,RJ cal bg yy r0=pr:=⟨_,rfl⟩
    rw [Ju] at qA Qh
    have hps0:=Nh
    unfold uo at hps0
    rw [Ju] at hps0
    obtain ⟨fd0,Xl⟩:=pr0
    simp only at qA Qh hps0
    have HYD0:=ae qA
    have Zx:Hid (Xl=true→ -1≤fd0∧fd0≤bg+30):=ae (fun h=>by
     have h2:=Qh.2 (by rw [←Qh.1];exact h)
     omega)
    have Oi:Hid (Xl=true→vg=ts++ [⟨fd0*1440+r0.minute - r1.off,r0.off⟩]):=ae (fun h=>by rw [←hps0,if_pos h])
    have RS:Hid (Xl=false→vg=ts):=ae (fun h=>by rw [←hps0,if_neg (by rw [h];decide)])
    have HTS0:=ae Nh
    clear Nh qA Qh TI Ju hps0
    go_cut [10] (fun _ wx=>∃(A':Option Addr) (n' cp':Nat),n'≤n+1∧pG w [I ep, .slice A0 n0 a,I lp, .slice R0 n1 r,I st, .slice C0 n2 c0,I ho, .slice (some ⟨yb,yo,none⟩) 2 d0] q A' n' cp' vg wx)
    case first=>
     go_upto_region 15 with (first
      |((with_reducible refine bP 129 ?_);refine aJ rfl 129 rfl #[I 0,I 0,I 0,I 0,I 0] (by kernel_rfl) ?_)
      |((with_reducible refine bH 129 ?_);go_must (refine wpList_store_row rfl _ _ _ rfl W7.heap.size #[I r0.month,I r0.df,I r0.dm,I r0.minute,I r0.off] rfl rfl 129 #[I 0,I 0,I 0,I 0,I 0] (heap_alloc_last W7 _) (by kernel_rfl) rfl (by simp [Value.oneCell']) ?_)))
     have hb2:Below W7.heap.size W7 ((W7.alloc (.cells #[I 0,I 0,I 0,I 0,I 0] 129)).setRow W7.heap.size #[I r0.month,I r0.df,I r0.dm,I r0.minute,I r0.off]):=aF (ag W7 _) (Nat.le_refl _) _
     have HR2:=ae (AV.qE (AV.new W7 #[I 0,I 0,I 0,I 0,I 0] 129) #[I r0.month,I r0.df,I r0.dm,I r0.minute,I r0.off])
     have DL:Hid (some W7.heap.size≠(Value.slice A n cp).ownBlock):=ae (kY (fun g hg=>(World.ownsRow.lt wK.out.own g hg).2))
     have OU:Hid (W7.heap.size≠w.heap.size+1):=ae (by have:=wK.out.k.lt;omega)
     have iO:=ae (wK.out.grow hb2)
     clear hb2 wK
     clear v0 v1 v2 v3 v7
     clear dn wY wZ xe xg xh xk xm xn y13 xq
     generalize (W7.alloc (.cells #[I 0,I 0,I 0,I 0,I 0] 129)).setRow W7.heap.size #[I r0.month,I r0.df,I r0.dm,I r0.minute,I r0.off]=W2 at iO HR2 ⊢
     generalize W7.heap.size=rb at HR2 DL OU ⊢
     have v0:W2.cell? ⟨w.heap.size,0,none⟩=some (I ep):=iO.out.z.cell 0
     have v1:W2.cell? ⟨w.heap.size,1,none⟩=some (.slice A0 n0 a):=iO.out.z.cell 1
     have v2:W2.cell? ⟨w.heap.size,2,none⟩=some (I lp):=iO.out.z.cell 2
     have v3:W2.cell? ⟨w.heap.size,3,none⟩=some (.slice R0 n1 r):=iO.out.z.cell 3
     have v7:W2.cell? ⟨w.heap.size,7,none⟩=some (.slice (some ⟨yb,yo,none⟩) 2 d0):=iO.out.z.cell 7
     clear v7
     have u0:W2.cell? ⟨rb,0,none⟩=some (I r0.month):=HR2.out.cell 0
     have u1:W2.cell? ⟨rb,1,none⟩=some (I r0.df):=HR2.out.cell 1
     have u2:W2.cell? ⟨rb,2,none⟩=some (I r0.dm):=HR2.out.cell 2
     have u3:W2.cell? ⟨rb,3,none⟩=some (I r0.minute):=HR2.out.cell 3
     have u4:W2.cell? ⟨rb,4,none⟩=some (I r0.off):=HR2.out.cell 4
     go_wp2_with fail
     refine (HYD0.out W2 iO.out.lo).mono ?_
     rintro e w3 ⟨rfl,hb3⟩
     have lV:=ae (iO.out.grow hb3)
     have HR3:=ae (HR2.out.below hb3)
     clear hb3 iO HR2 v0 v1 v2 v3 u0 u1 u2 u3 u4
     cases Xl with
     |false=>
      have HEF:=ae (RS.out rfl)
      clear RS Oi
      go_wp2_with fail
      go_meet
      exact ⟨A,n,cp,by omega,by rw [HEF.out];exact lV.out⟩
     |true=>
      have Zu:=ae (Oi.out rfl)
      clear Oi RS
      have hfd:=Zx.out rfl
      go_upto_region 17 with fail
      have hS0:Ip rb w.heap.size yb (yo+9) r0.minute r0.off r1.off (.slice (some ⟨yb,yo,none⟩) 2 d0) w3.drew:=⟨HR3.out.drew.cell 3,HR3.out.drew.cell 4,lV.out.drew.z.cell 7,(HY.out _ lV.out.drew.lo).b 4 _ rfl⟩
      have jc:=ae lV.out.drew
      have zq:=ae HR3.out.drew
      clear lV HR3
      refine wp_region_held_drew (S:=Ip rb w.heap.size yb (yo+9) r0.minute r0.off r1.off (.slice (some ⟨yb,yo,none⟩) 2 d0)) (by kernel_rfl) hS0 (fun _=>?_)
      generalize w3.drew=V at hS0 jc zq ⊢
      have wk0:IntKind.i64.wrap 1=1:=by rw [IntKind.wrap_i64];omega
      have w1:IntKind.i64.wrap (fd0*1440)=fd0*1440:=by rw [IntKind.wrap_i64];omega
      have w2:IntKind.i64.wrap (fd0*1440+r0.minute)=fd0*1440+r0.minute:=by rw [IntKind.wrap_i64];omega
      have w3:IntKind.i64.wrap (fd0*1440+r0.minute - r1.off)=fd0*1440+r0.minute - r1.off:=by rw [IntKind.wrap_i64];omega
      refine aC 0 (.pointer (some ⟨w.heap.size+1,0,none⟩)) 79 hS0 (fun w' hSw=>?_) ?_
      ·clear hSw
       first|(go_simp;done)|(go_simp;with_reducible rfl)
      refine ax ?_
      refine aC 1 (.pointer (some ⟨w.heap.size+1,0,none⟩)) 80 hS0 (fun w' hSw=>?_) ?_
      ·clear hSw
       first|(go_simp;done)|(go_simp;with_reducible rfl)
      refine ax ?_
      refine aC 2 (.pointer (some ⟨w.heap.size+1,0,none⟩)) 81 hS0 (fun w' hSw=>?_) ?_
      ·clear hSw
       first|(go_simp;done)|(go_simp;with_reducible rfl)
      refine ax ?_
      refine aC 3 (.pointer (some ⟨w.heap.size+1,8,none⟩)) 82 hS0 (fun w' hSw=>?_) ?_
      ·clear hSw
       first|(go_simp;done)|(go_simp;with_reducible rfl)
      refine ax ?_
      refine aC 5 (I fd0) 84 hS0 (fun w' hSw=>?_) ?_
      ·clear hSw
       first|(go_simp;done)|(go_simp;with_reducible rfl)
      refine ax ?_
      refine aC 6 (I (fd0*1440)) 85 hS0 (fun w' hSw=>?_) ?_
      ·clear hSw
       first|(go_simp;done)|(go_simp;with_reducible rfl)
      refine ax ?_
      refine aC 7 (.pointer (some ⟨rb,3,none⟩)) 86 hS0 (fun w' hSw=>?_) ?_
      ·clear hSw
       first|(go_simp;done)|(go_simp;with_reducible rfl)
      refine ax ?_
      refine aC 8 (I r0.minute) 87 hS0 (fun w' hSw=>?_) ?_
      ·obtain ⟨s0,s1,s2,s3⟩:=hSw
       first|(go_simp;done)|(go_simp;with_reducible rfl)
      refine ax ?_
      refine aC 9 (I (fd0*1440+r0.minute)) 88 hS0 (fun w' hSw=>?_) ?_
      ·clear hSw
       first|(go_simp;done)|(go_simp;with_reducible rfl)
      refine ax ?_
      refine aC 10 (.pointer (some ⟨w.heap.size,7,none⟩)) 89 hS0 (fun w' hSw=>?_) ?_
      ·clear hSw
       first|(go_simp;done)|(go_simp;with_reducible rfl)
      refine ax ?_
      refine aC 11 (.slice (some ⟨yb,yo,none⟩) 2 d0) 90 hS0 (fun w' hSw=>?_) ?_
      ·obtain ⟨s0,s1,s2,s3⟩:=hSw
       first|(go_simp;done)|(go_simp;with_reducible rfl)
      refine ax ?_
      refine aC 12 (I 0) 91 hS0 (fun w' hSw=>?_) ?_
      ·clear hSw
       first|(go_simp;done)|(go_simp;with_reducible rfl)
      refine ax ?_
      refine aC 13 (I 1) 92 hS0 (fun w' hSw=>?_) ?_
      ·clear hSw
       first|(go_simp;done)|(go_simp;with_reducible rfl)
      refine ax ?_
      refine aC 14 (.pointer (some ⟨yb,yo+5,none⟩)) 93 hS0 (fun w' hSw=>?_) ?_
      ·clear hSw
       first|(go_simp;done)|(go_simp;with_reducible rfl)
      refine ax ?_
      refine aC 15 (.pointer (some ⟨yb,yo+9,none⟩)) 94 hS0 (fun w' hSw=>?_) ?_
      ·clear hSw
       first|(go_simp;done)|(go_simp;with_reducible rfl)
      refine ax ?_
      refine aC 16 (I r1.off) 95 hS0 (fun w' hSw=>?_) ?_
      ·obtain ⟨s0,s1,s2,s3⟩:=hSw
       first|(go_simp;done)|(go_simp;with_reducible rfl)
      refine ax ?_
      refine aC 17 (I (fd0*1440+r0.minute - r1.off)) 96 hS0 (fun w' hSw=>?_) ?_
      ·clear hSw
       first|(go_simp;done)|(go_simp;with_reducible rfl)
      refine ax ?_
      refine aC 18 (.pointer (some ⟨rb,4,none⟩)) 97 hS0 (fun w' hSw=>?_) ?_
      ·clear hSw
       first|(go_simp;done)|(go_simp;with_reducible rfl)
      refine ax ?_
      refine aC 19 (I r0.off) 98 hS0 (fun w' hSw=>?_) ?_
      ·obtain ⟨s0,s1,s2,s3⟩:=hSw
       first|(go_simp;done)|(go_simp;with_reducible rfl)
      refine ax ?_
      refine gK 20 ( .agg #[I (fd0*1440+r0.minute - r1.off),I r0.off]) 99 hS0 (bQ rfl 127 _ rfl _ (by kernel_rfl)) ?_
      refine ax ?_
      refine jr 4 21 (fun K hK=>?_) (fun K hK=>?_)
      ·have c8:V.cell? ⟨w.heap.size+1,8,none⟩=some (.slice A n cp):=jc.out.k.cell 8
       go_simp
       clear c8
       refine hK.out _ _ hS0 (fun _=>?_)
       clear hK K
       refine ax ?_
       refine aV 21 (fun K hK=>?_)
       go_simp
       have hS5:Ip rb w.heap.size yb (yo+9) r0.minute r0.off r1.off (.slice (some ⟨yb,yo,none⟩) 2 d0) (V.alloc (.cells #[I (fd0*1440+r0.minute - r1.off),I r0.off] 127)):=⟨(zq.out.below (ag _ _)).cell 3,(zq.out.below (ag _ _)).cell 4,(jc.out.grow (ag _ _)).z.cell 7,(HY.out _ (jc.out.grow (ag _ _)).lo).b 4 _ rfl⟩
       refine hK.out _ _ hS5 (fun _=>?_)
       clear hK K
       refine ax ?_
       refine aV 22 (fun K hK=>?_)
       have hvl:=jc.out.k.lt
       refine step_append_lies _ (by rfl) _ _ _ (by rfl) (w.heap.size+2) 127 i0 (.agg #[I 0,I 0]) 2 16 Tryz.underlying64 HI.out yt.out oJ.out lH.out rfl (by omega) (.slice A n cp) n (ts.flatMap Tr.cells) (by rfl) (own_below jc.out.own (ag _ _)) ⟨V.heap.size,0,none⟩ 1 1 [I (fd0*1440+r0.minute - r1.off),I r0.off] (by rfl) rfl (bI V _ _ _ rfl) (sN ⟨fd0*1440+r0.minute - r1.off,r0.off⟩) (by omega) (by unfold maxLen;omega) (by omega) (by simp;omega) _ rfl ?_
       intro gg cap w6 hown6 hgrow6 _ _
       have hxk:=ae (pG.add (x:=⟨fd0*1440+r0.minute - r1.off,r0.off⟩) jc.out rfl rfl hown6 hgrow6)
       have Bq:Hid (AV rb 129 #[I r0.month,I r0.df,I r0.dm,I r0.minute,I r0.off] w6):=ae ⟨(hgrow6.block _ (by have:=zq.out.lt;simp;omega) DL.out).trans ((Below.heap_alloc _ _ _ zq.out.lt).trans zq.out.var)⟩
       have hk6:Hid (AV (w.heap.size+1) 206 ([I ep, .slice A0 n0 a,I lp, .slice R0 n1 r,I st, .slice C0 n2 c0,I ho, .slice (some ⟨yb,yo,none⟩) 2 d0]++ [Value.slice A n cp,I q]).toArray w6):=ae ⟨(hgrow6.block _ (by have:=jc.out.k.lt;simp;omega) (dN jc.out.own _ (by omega))).trans ((Below.heap_alloc _ _ _ jc.out.k.lt).trans jc.out.k.var)⟩
       have Di:Hid (AV w.heap.size 67 #[I ep, .slice A0 n0 a,I lp, .slice R0 n1 r,I st, .slice C0 n2 c0,I ho, .slice (some ⟨yb,yo,none⟩) 2 d0] w6):=ae ⟨(hgrow6.block _ (by have:=jc.out.z.lt;simp;omega) (dN jc.out.own _ (by omega))).trans ((Below.heap_alloc _ _ _ jc.out.z.lt).trans jc.out.z.var)⟩
       have Jz:Hid (w6.cell? ⟨yb,yo+9,none⟩=some (I r1.off)):=ae (by
        have hb6:Below w.heap.size w w6:=bU (ah jc.out.lo (ag _ _)) (bu (own_below jc.out.own (ag _ _)) (by omega)) (ah jc.out.lo (ag _ _)).size hgrow6
        exact (HY.out w6 hb6).b 4 _ rfl)
       clear hown6 hgrow6
       have hS6:Ip rb w.heap.size yb (yo+9) r0.minute r0.off r1.off (.slice (some ⟨yb,yo,none⟩) 2 d0) w6:=⟨Bq.out.cell 3,Bq.out.cell 4,Di.out.cell 7,Jz.out⟩
       refine hK.out _ _ hS6 (fun _=>?_)
       clear hK K
       try simp only [Act.put,List.setIfInBounds_toArray]
       refine aC 23 (.pointer (some ⟨w.heap.size+1,0,none⟩)) 102 hS6 (fun w' hSw=>?_) ?_
       ·clear hSw
        first|(go_simp;done)|(go_simp;with_reducible rfl)
       try simp only [Act.put]
       refine aC 24 (.pointer (some ⟨w.heap.size+1,8,none⟩)) 103 hS6 (fun w' hSw=>?_) ?_
       ·clear hSw
        first|(go_simp;done)|(go_simp;with_reducible rfl)
       try simp only [Act.put]
       refine aV 25 (fun K hK=>?_)
       have c8:=hk6.out.cell 8
       have f8:=hk6.out.dK 8
       go_simp
       have hS7:Ip rb w.heap.size yb (yo+9) r0.minute r0.off r1.off (.slice (some ⟨yb,yo,none⟩) 2 d0) (w6.setCell ⟨w.heap.size+1,8,none⟩ (.slice (some ⟨gg,0,none⟩) (n+1) cap)):=⟨(Bq.out.far OU.out 8 _).cell 3,(Bq.out.far OU.out 8 _).cell 4,hxk.out.z.cell 7,(HY.out _ hxk.out.lo).b 4 _ rfl⟩
       refine hK.out _ _ hS7 (fun _=>?_)
       clear hK K
       refine wpAnyH_done (by kernel_rfl) ?_ _
       go_wp2_with fail
       go_meet
       exact ⟨some ⟨gg,0,none⟩,n+1,cap,by omega,by rw [show vg=ts++ [⟨fd0*1440+r0.minute - r1.off,r0.off⟩] from Zu.out];exact hxk.out⟩
      ·go_simp
       have hS5:Ip rb w.heap.size yb (yo+9) r0.minute r0.off r1.off (.slice (some ⟨yb,yo,none⟩) 2 d0) (V.alloc (.cells #[I (fd0*1440+r0.minute - r1.off),I r0.off] 127)):=⟨(zq.out.below (ag _ _)).cell 3,(zq.out.below (ag _ _)).cell 4,(jc.out.grow (ag _ _)).z.cell 7,(HY.out _ (jc.out.grow (ag _ _)).lo).b 4 _ rfl⟩
       refine hK.out _ _ hS5 (fun _=>?_)
       clear hK K
       refine ax ?_
       refine aV 4 (fun K hK=>?_)
       have c8:(V.alloc (.cells #[I (fd0*1440+r0.minute - r1.off),I r0.off] 127)).cell? ⟨w.heap.size+1,8,none⟩=some (.slice A n cp):=(jc.out.grow (ag _ _)).k.cell 8
       go_simp
       clear c8
       refine hK.out _ _ hS5 (fun _=>?_)
       clear hK K
       refine ax ?_
       refine aV 22 (fun K hK=>?_)
       have hvl:=jc.out.k.lt
       refine step_append_lies _ (by rfl) _ _ _ (by rfl) (w.heap.size+2) 127 i0 (.agg #[I 0,I 0]) 2 16 Tryz.underlying64 HI.out yt.out oJ.out lH.out rfl (by omega) (.slice A n cp) n (ts.flatMap Tr.cells) (by rfl) (own_below jc.out.own (ag _ _)) ⟨V.heap.size,0,none⟩ 1 1 [I (fd0*1440+r0.minute - r1.off),I r0.off] (by rfl) rfl (bI V _ _ _ rfl) (sN ⟨fd0*1440+r0.minute - r1.off,r0.off⟩) (by omega) (by unfold maxLen;omega) (by omega) (by simp;omega) _ rfl ?_
       intro gg cap w6 hown6 hgrow6 _ _
       have hxk:=ae (pG.add (x:=⟨fd0*1440+r0.minute - r1.off,r0.off⟩) jc.out rfl rfl hown6 hgrow6)
       have Bq:Hid (AV rb 129 #[I r0.month,I r0.df,I r0.dm,I r0.minute,I r0.off] w6):=ae ⟨(hgrow6.block _ (by have:=zq.out.lt;simp;omega) DL.out).trans ((Below.heap_alloc _ _ _ zq.out.lt).trans zq.out.var)⟩
       have hk6:Hid (AV (w.heap.size+1) 206 ([I ep, .slice A0 n0 a,I lp, .slice R0 n1 r,I st, .slice C0 n2 c0,I ho, .slice (some ⟨yb,yo,none⟩) 2 d0]++ [Value.slice A n cp,I q]).toArray w6):=ae ⟨(hgrow6.block _ (by have:=jc.out.k.lt;simp;omega) (dN jc.out.own _ (by omega))).trans ((Below.heap_alloc _ _ _ jc.out.k.lt).trans jc.out.k.var)⟩
       have Di:Hid (AV w.heap.size 67 #[I ep, .slice A0 n0 a,I lp, .slice R0 n1 r,I st, .slice C0 n2 c0,I ho, .slice (some ⟨yb,yo,none⟩) 2 d0] w6):=ae ⟨(hgrow6.block _ (by have:=jc.out.z.lt;simp;omega) (dN jc.out.own _ (by omega))).trans ((Below.heap_alloc _ _ _ jc.out.z.lt).trans jc.out.z.var)⟩
       have Jz:Hid (w6.cell? ⟨yb,yo+9,none⟩=some (I r1.off)):=ae (by
        have hb6:Below w.heap.size w w6:=bU (ah jc.out.lo (ag _ _)) (bu (own_below jc.out.own (ag _ _)) (by omega)) (ah jc.out.lo (ag _ _)).size hgrow6
        exact (HY.out w6 hb6).b 4 _ rfl)
       clear hown6 hgrow6
       have hS6:Ip rb w.heap.size yb (yo+9) r0.minute r0.off r1.off (.slice (some ⟨yb,yo,none⟩) 2 d0) w6:=⟨Bq.out.cell 3,Bq.out.cell 4,Di.out.cell 7,Jz.out⟩
       refine hK.out _ _ hS6 (fun _=>?_)
       clear hK K
       try simp only [Act.put,List.setIfInBounds_toArray]
       refine aC 23 (.pointer (some ⟨w.heap.size+1,0,none⟩)) 102 hS6 (fun w' hSw=>?_) ?_
       ·clear hSw
        first|(go_simp;done)|(go_simp;with_reducible rfl)
       try simp only [Act.put]
       refine aC 24 (.pointer (some ⟨w.heap.size+1,8,none⟩)) 103 hS6 (fun w' hSw=>?_) ?_
       ·clear hSw
        first|(go_simp;done)|(go_simp;with_reducible rfl)
       try simp only [Act.put]
       refine aV 25 (fun K hK=>?_)
       have c8:=hk6.out.cell 8
       have f8:=hk6.out.dK 8
       go_simp
       have hS7:Ip rb w.heap.size yb (yo+9) r0.minute r0.off r1.off (.slice (some ⟨yb,yo,none⟩) 2 d0) (w6.setCell ⟨w.heap.size+1,8,none⟩ (.slice (some ⟨gg,0,none⟩) (n+1) cap)):=⟨(Bq.out.far OU.out 8 _).cell 3,(Bq.out.far OU.out 8 _).cell 4,hxk.out.z.cell 7,(HY.out _ hxk.out.lo).b 4 _ rfl⟩
       refine hK.out _ _ hS7 (fun _=>?_)
       clear hK K
       refine wpAnyH_done (by kernel_rfl) ?_ _
       go_wp2_with fail
       go_meet
       exact ⟨some ⟨gg,0,none⟩,n+1,cap,by omega,by rw [show vg=ts++ [⟨fd0*1440+r0.minute - r1.off,r0.off⟩] from Zu.out];exact hxk.out⟩
    case rest=>
     obtain ⟨A',n',cp',hnn,hk1⟩:=hcut
     have gY:=ae hk1
     have hnb:n'≤600:=by omega
     have hnc:(n':Int)≤2*(yy - 1)+1:=by omega
     clear hk1 hnn wK
     clear HYD0 Zx Oi RS
     obtain ⟨A,rfl⟩:∃A,A=A':=⟨_,rfl⟩
     obtain ⟨n,rfl⟩:∃n,n=n':=⟨_,rfl⟩
     obtain ⟨cp,rfl⟩:∃c,c=cp':=⟨_,rfl⟩
     clear v0 v1 v2 v3 v7 dn wY wZ xe xg xh xk xm xn y13 xq
     have v0:wc.cell? ⟨w.heap.size,0,none⟩=some (I ep):=gY.out.z.cell 0
     have v1:wc.cell? ⟨w.heap.size,1,none⟩=some (.slice A0 n0 a):=gY.out.z.cell 1
     have v2:wc.cell? ⟨w.heap.size,2,none⟩=some (I lp):=gY.out.z.cell 2
     have v3:wc.cell? ⟨w.heap.size,3,none⟩=some (.slice R0 n1 r):=gY.out.z.cell 3
     have v7:wc.cell? ⟨w.heap.size,7,none⟩=some (.slice (some ⟨yb,yo,none⟩) 2 d0):=gY.out.z.cell 7
     have dn:=ae (HY.out wc gY.out.lo)
     have wY:wc.cell? ⟨yb,yo,none⟩=some (I r0.month):=dn.out.a 0 _ rfl
     have wZ:wc.cell? ⟨yb,yo+1,none⟩=some (I r0.df):=dn.out.a 1 _ rfl
     have xe:wc.cell? ⟨yb,yo+2,none⟩=some (I r0.dm):=dn.out.a 2 _ rfl
     have xg:wc.cell? ⟨yb,yo+3,none⟩=some (I r0.minute):=dn.out.a 3 _ rfl
     have xh:wc.cell? ⟨yb,yo+4,none⟩=some (I r0.off):=dn.out.a 4 _ rfl
     have xk:wc.cell? ⟨yb,yo+5,none⟩=some (I r1.month):=dn.out.b 0 _ rfl
     have xm:wc.cell? ⟨yb,yo+6,none⟩=some (I r1.df):=dn.out.b 1 _ rfl
     have xn:wc.cell? ⟨yb,yo+7,none⟩=some (I r1.dm):=dn.out.b 2 _ rfl
     have y13:wc.cell? ⟨yb,yo+8,none⟩=some (I r1.minute):=dn.out.b 3 _ rfl
     have xq:wc.cell? ⟨yb,yo+9,none⟩=some (I r1.off):=dn.out.b 4 _ rfl
     go_wp2_with fail
     rw [rounds_succ]
     go_upto_block 3 with fail
     obtain ⟨BA,Eo⟩:∃t,uo cal bg yy r1 r0 vg=t:=⟨_,rfl⟩
     have kW:=fun (W:World) hb=>SG.out bg yy r1 W Wj.out (by omega) (by omega) hb
     have Qi:=EZ cal bg yy r1 HC.out Wj.out (by omega)
     have Jp:=sW cal bg yy r1 HC.out Wj.out (by omega)
     obtain ⟨pr1,zW⟩:∃pr,RJ cal bg yy r1=pr:=⟨_,rfl⟩
     rw [zW] at kW Qi
     have hps1:=Eo
     unfold uo at hps1
     rw [zW] at hps1
     obtain ⟨fd1,RF⟩:=pr1
     simp only at kW Qi hps1
     have HYD1:=ae kW
     have Zy:Hid (RF=true→ -1≤fd1∧fd1≤bg+30):=ae (fun h=>by
      have h2:=Qi.2 (by rw [←Qi.1];exact h)
      omega)
     have DJ:Hid (RF=true→BA=vg++ [⟨fd1*1440+r1.minute - r0.off,r1.off⟩]):=ae (fun h=>by rw [←hps1,if_pos h])
     have RU:Hid (RF=false→BA=vg):=ae (fun h=>by rw [←hps1,if_neg (by rw [h];decide)])
     have HTS1:=ae Eo
     clear Eo kW Qi Jp zW hps1
     go_cut [10] (fun _ wx=>∃(A':Option Addr) (n' cp':Nat),n'≤n+1∧pG w [I ep, .slice A0 n0 a,I lp, .slice R0 n1 r,I st, .slice C0 n2 c0,I ho, .slice (some ⟨yb,yo,none⟩) 2 d0] q A' n' cp' BA wx)
     case first=>
      go_upto_region 15 with (first
       |((with_reducible refine bP 129 ?_);refine aJ rfl 129 rfl #[I 0,I 0,I 0,I 0,I 0] (by kernel_rfl) ?_)
       |((with_reducible refine bH 129 ?_);go_must (refine wpList_store_row rfl _ _ _ rfl wc.heap.size #[I r1.month,I r1.df,I r1.dm,I r1.minute,I r1.off] rfl rfl 129 #[I 0,I 0,I 0,I 0,I 0] (heap_alloc_last wc _) (by kernel_rfl) rfl (by simp [Value.oneCell']) ?_)))
      have hb2:Below wc.heap.size wc ((wc.alloc (.cells #[I 0,I 0,I 0,I 0,I 0] 129)).setRow wc.heap.size #[I r1.month,I r1.df,I r1.dm,I r1.minute,I r1.off]):=aF (ag wc _) (Nat.le_refl _) _
      have HR2:=ae (AV.qE (AV.new wc #[I 0,I 0,I 0,I 0,I 0] 129) #[I r1.month,I r1.df,I r1.dm,I r1.minute,I r1.off])
      have DL:Hid (some wc.heap.size≠(Value.slice A n cp).ownBlock):=ae (kY (fun g hg=>(World.ownsRow.lt gY.out.own g hg).2))
      have OU:Hid (wc.heap.size≠w.heap.size+1):=ae (by have:=gY.out.k.lt;omega)
      have iO:=ae (gY.out.grow hb2)
      clear hb2 gY
      clear v0 v1 v2 v3 v7
      clear dn wY wZ xe xg xh xk xm xn y13 xq
      generalize (wc.alloc (.cells #[I 0,I 0,I 0,I 0,I 0] 129)).setRow wc.heap.size #[I r1.month,I r1.df,I r1.dm,I r1.minute,I r1.off]=W2 at iO HR2 ⊢
      generalize wc.heap.size=rb at HR2 DL OU ⊢
      have v0:W2.cell? ⟨w.heap.size,0,none⟩=some (I ep):=iO.out.z.cell 0
      have v1:W2.cell? ⟨w.heap.size,1,none⟩=some (.slice A0 n0 a):=iO.out.z.cell 1
      have v2:W2.cell? ⟨w.heap.size,2,none⟩=some (I lp):=iO.out.z.cell 2
      have v3:W2.cell? ⟨w.heap.size,3,none⟩=some (.slice R0 n1 r):=iO.out.z.cell 3
      have v7:W2.cell? ⟨w.heap.size,7,none⟩=some (.slice (some ⟨yb,yo,none⟩) 2 d0):=iO.out.z.cell 7
      clear v7
      have u0:W2.cell? ⟨rb,0,none⟩=some (I r1.month):=HR2.out.cell 0
      have u1:W2.cell? ⟨rb,1,none⟩=some (I r1.df):=HR2.out.cell 1
      have u2:W2.cell? ⟨rb,2,none⟩=some (I r1.dm):=HR2.out.cell 2
      have u3:W2.cell? ⟨rb,3,none⟩=some (I r1.minute):=HR2.out.cell 3
      have u4:W2.cell? ⟨rb,4,none⟩=some (I r1.off):=HR2.out.cell 4
      go_wp2_with fail
      refine (HYD1.out W2 iO.out.lo).mono ?_
      rintro e w3 ⟨rfl,hb3⟩
      have lV:=ae (iO.out.grow hb3)
      have HR3:=ae (HR2.out.below hb3)
      clear hb3 iO HR2 v0 v1 v2 v3 u0 u1 u2 u3 u4
      cases RF with
      |false=>
       have HEF:=ae (RU.out rfl)
       clear RU DJ
       go_wp2_with fail
       go_meet
       exact ⟨A,n,cp,by omega,by rw [HEF.out];exact lV.out⟩
      |true=>
       have Zw:=ae (DJ.out rfl)
       clear DJ RU
       have hfd:=Zy.out rfl
       go_upto_region 17 with fail
       have hS0:Ip rb w.heap.size yb (yo+4) r1.minute r1.off r0.off (.slice (some ⟨yb,yo,none⟩) 2 d0) w3.drew:=⟨HR3.out.drew.cell 3,HR3.out.drew.cell 4,lV.out.drew.z.cell 7,(HY.out _ lV.out.drew.lo).a 4 _ rfl⟩
       have HKB1:=ae lV.out.drew
       have zt:=ae HR3.out.drew
       clear lV HR3
       refine wp_region_held_drew (S:=Ip rb w.heap.size yb (yo+4) r1.minute r1.off r0.off (.slice (some ⟨yb,yo,none⟩) 2 d0)) (by kernel_rfl) hS0 (fun _=>?_)
       generalize w3.drew=V at hS0 HKB1 zt ⊢
       have wk0:IntKind.i64.wrap 0=0:=by rw [IntKind.wrap_i64];omega
       have w1:IntKind.i64.wrap (fd1*1440)=fd1*1440:=by rw [IntKind.wrap_i64];omega
       have w2:IntKind.i64.wrap (fd1*1440+r1.minute)=fd1*1440+r1.minute:=by rw [IntKind.wrap_i64];omega
       have w3:IntKind.i64.wrap (fd1*1440+r1.minute - r0.off)=fd1*1440+r1.minute - r0.off:=by rw [IntKind.wrap_i64];omega
       refine aC 0 (.pointer (some ⟨w.heap.size+1,0,none⟩)) 79 hS0 (fun w' hSw=>?_) ?_
       ·clear hSw
        first|(go_simp;done)|(go_simp;with_reducible rfl)
       refine ax ?_
       refine aC 1 (.pointer (some ⟨w.heap.size+1,0,none⟩)) 80 hS0 (fun w' hSw=>?_) ?_
       ·clear hSw
        first|(go_simp;done)|(go_simp;with_reducible rfl)
       refine ax ?_
       refine aC 2 (.pointer (some ⟨w.heap.size+1,0,none⟩)) 81 hS0 (fun w' hSw=>?_) ?_
       ·clear hSw
        first|(go_simp;done)|(go_simp;with_reducible rfl)
       refine ax ?_
       refine aC 3 (.pointer (some ⟨w.heap.size+1,8,none⟩)) 82 hS0 (fun w' hSw=>?_) ?_
       ·clear hSw
        first|(go_simp;done)|(go_simp;with_reducible rfl)
       refine ax ?_
       refine aC 5 (I fd1) 84 hS0 (fun w' hSw=>?_) ?_
       ·clear hSw
        first|(go_simp;done)|(go_simp;with_reducible rfl)
       refine ax ?_
       refine aC 6 (I (fd1*1440)) 85 hS0 (fun w' hSw=>?_) ?_
       ·clear hSw
        first|(go_simp;done)|(go_simp;with_reducible rfl)
       refine ax ?_
       refine aC 7 (.pointer (some ⟨rb,3,none⟩)) 86 hS0 (fun w' hSw=>?_) ?_
       ·clear hSw
        first|(go_simp;done)|(go_simp;with_reducible rfl)
       refine ax ?_
       refine aC 8 (I r1.minute) 87 hS0 (fun w' hSw=>?_) ?_
       ·obtain ⟨s0,s1,s2,s3⟩:=hSw
        first|(go_simp;done)|(go_simp;with_reducible rfl)
       refine ax ?_
       refine aC 9 (I (fd1*1440+r1.minute)) 88 hS0 (fun w' hSw=>?_) ?_
       ·clear hSw
        first|(go_simp;done)|(go_simp;with_reducible rfl)
       refine ax ?_
       refine aC 10 (.pointer (some ⟨w.heap.size,7,none⟩)) 89 hS0 (fun w' hSw=>?_) ?_
       ·clear hSw
        first|(go_simp;done)|(go_simp;with_reducible rfl)
       refine ax ?_
       refine aC 11 (.slice (some ⟨yb,yo,none⟩) 2 d0) 90 hS0 (fun w' hSw=>?_) ?_
       ·obtain ⟨s0,s1,s2,s3⟩:=hSw
        first|(go_simp;done)|(go_simp;with_reducible rfl)
       refine ax ?_
       refine aC 12 (I 1) 91 hS0 (fun w' hSw=>?_) ?_
       ·clear hSw
        first|(go_simp;done)|(go_simp;with_reducible rfl)
       refine ax ?_
       refine aC 13 (I 0) 92 hS0 (fun w' hSw=>?_) ?_
       ·clear hSw
        first|(go_simp;done)|(go_simp;with_reducible rfl)
       refine ax ?_
       refine aC 14 (.pointer (some ⟨yb,yo,none⟩)) 93 hS0 (fun w' hSw=>?_) ?_
       ·clear hSw
        first|(go_simp;done)|(go_simp;with_reducible rfl)
       refine ax ?_
       refine aC 15 (.pointer (some ⟨yb,yo+4,none⟩)) 94 hS0 (fun w' hSw=>?_) ?_
       ·clear hSw
        first|(go_simp;done)|(go_simp;with_reducible rfl)
       refine ax ?_
       refine aC 16 (I r0.off) 95 hS0 (fun w' hSw=>?_) ?_
       ·obtain ⟨s0,s1,s2,s3⟩:=hSw
        first|(go_simp;done)|(go_simp;with_reducible rfl)
       refine ax ?_
       refine aC 17 (I (fd1*1440+r1.minute - r0.off)) 96 hS0 (fun w' hSw=>?_) ?_
       ·clear hSw
        first|(go_simp;done)|(go_simp;with_reducible rfl)
       refine ax ?_
       refine aC 18 (.pointer (some ⟨rb,4,none⟩)) 97 hS0 (fun w' hSw=>?_) ?_
       ·clear hSw
        first|(go_simp;done)|(go_simp;with_reducible rfl)
       refine ax ?_
       refine aC 19 (I r1.off) 98 hS0 (fun w' hSw=>?_) ?_
       ·obtain ⟨s0,s1,s2,s3⟩:=hSw
        first|(go_simp;done)|(go_simp;with_reducible rfl)
       refine ax ?_
       refine gK 20 ( .agg #[I (fd1*1440+r1.minute - r0.off),I r1.off]) 99 hS0 (bQ rfl 127 _ rfl _ (by kernel_rfl)) ?_
       refine ax ?_
       refine jr 4 21 (fun K hK=>?_) (fun K hK=>?_)
       ·have c8:V.cell? ⟨w.heap.size+1,8,none⟩=some (.slice A n cp):=HKB1.out.k.cell 8
        go_simp
        clear c8
        refine hK.out _ _ hS0 (fun _=>?_)
        clear hK K
        refine ax ?_
        refine aV 21 (fun K hK=>?_)
        go_simp
        have hS5:Ip rb w.heap.size yb (yo+4) r1.minute r1.off r0.off (.slice (some ⟨yb,yo,none⟩) 2 d0) (V.alloc (.cells #[I (fd1*1440+r1.minute - r0.off),I r1.off] 127)):=⟨(zt.out.below (ag _ _)).cell 3,(zt.out.below (ag _ _)).cell 4,(HKB1.out.grow (ag _ _)).z.cell 7,(HY.out _ (HKB1.out.grow (ag _ _)).lo).a 4 _ rfl⟩
        refine hK.out _ _ hS5 (fun _=>?_)
        clear hK K
        refine ax ?_
        refine aV 22 (fun K hK=>?_)
        have hvl:=HKB1.out.k.lt
        refine step_append_lies _ (by rfl) _ _ _ (by rfl) (w.heap.size+2) 127 i0 (.agg #[I 0,I 0]) 2 16 Tryz.underlying64 HI.out yt.out oJ.out lH.out rfl (by omega) (.slice A n cp) n (vg.flatMap Tr.cells) (by rfl) (own_below HKB1.out.own (ag _ _)) ⟨V.heap.size,0,none⟩ 1 1 [I (fd1*1440+r1.minute - r0.off),I r1.off] (by rfl) rfl (bI V _ _ _ rfl) (sN ⟨fd1*1440+r1.minute - r0.off,r1.off⟩) (by omega) (by unfold maxLen;omega) (by omega) (by simp;omega) _ rfl ?_
        intro gg cap w6 hown6 hgrow6 _ _
        have hxk:=ae (pG.add (x:=⟨fd1*1440+r1.minute - r0.off,r1.off⟩) HKB1.out rfl rfl hown6 hgrow6)
        have Bq:Hid (AV rb 129 #[I r1.month,I r1.df,I r1.dm,I r1.minute,I r1.off] w6):=ae ⟨(hgrow6.block _ (by have:=zt.out.lt;simp;omega) DL.out).trans ((Below.heap_alloc _ _ _ zt.out.lt).trans zt.out.var)⟩
        have hk6:Hid (AV (w.heap.size+1) 206 ([I ep, .slice A0 n0 a,I lp, .slice R0 n1 r,I st, .slice C0 n2 c0,I ho, .slice (some ⟨yb,yo,none⟩) 2 d0]++ [Value.slice A n cp,I q]).toArray w6):=ae ⟨(hgrow6.block _ (by have:=HKB1.out.k.lt;simp;omega) (dN HKB1.out.own _ (by omega))).trans ((Below.heap_alloc _ _ _ HKB1.out.k.lt).trans HKB1.out.k.var)⟩
        have Di:Hid (AV w.heap.size 67 #[I ep, .slice A0 n0 a,I lp, .slice R0 n1 r,I st, .slice C0 n2 c0,I ho, .slice (some ⟨yb,yo,none⟩) 2 d0] w6):=ae ⟨(hgrow6.block _ (by have:=HKB1.out.z.lt;simp;omega) (dN HKB1.out.own _ (by omega))).trans ((Below.heap_alloc _ _ _ HKB1.out.z.lt).trans HKB1.out.z.var)⟩
        have Jz:Hid (w6.cell? ⟨yb,yo+4,none⟩=some (I r0.off)):=ae (by
         have hb6:Below w.heap.size w w6:=bU (ah HKB1.out.lo (ag _ _)) (bu (own_below HKB1.out.own (ag _ _)) (by omega)) (ah HKB1.out.lo (ag _ _)).size hgrow6
         exact (HY.out w6 hb6).a 4 _ rfl)
        clear hown6 hgrow6
        have hS6:Ip rb w.heap.size yb (yo+4) r1.minute r1.off r0.off (.slice (some ⟨yb,yo,none⟩) 2 d0) w6:=⟨Bq.out.cell 3,Bq.out.cell 4,Di.out.cell 7,Jz.out⟩
        refine hK.out _ _ hS6 (fun _=>?_)
        clear hK K
        try simp only [Act.put,List.setIfInBounds_toArray]
        refine aC 23 (.pointer (some ⟨w.heap.size+1,0,none⟩)) 102 hS6 (fun w' hSw=>?_) ?_
        ·clear hSw
         first|(go_simp;done)|(go_simp;with_reducible rfl)
        try simp only [Act.put]
        refine aC 24 (.pointer (some ⟨w.heap.size+1,8,none⟩)) 103 hS6 (fun w' hSw=>?_) ?_
        ·clear hSw
         first|(go_simp;done)|(go_simp;with_reducible rfl)
        try simp only [Act.put]
        refine aV 25 (fun K hK=>?_)
        have c8:=hk6.out.cell 8
        have f8:=hk6.out.dK 8
        go_simp
        have hS7:Ip rb w.heap.size yb (yo+4) r1.minute r1.off r0.off (.slice (some ⟨yb,yo,none⟩) 2 d0) (w6.setCell ⟨w.heap.size+1,8,none⟩ (.slice (some ⟨gg,0,none⟩) (n+1) cap)):=⟨(Bq.out.far OU.out 8 _).cell 3,(Bq.out.far OU.out 8 _).cell 4,hxk.out.z.cell 7,(HY.out _ hxk.out.lo).a 4 _ rfl⟩
        refine hK.out _ _ hS7 (fun _=>?_)
        clear hK K
        refine wpAnyH_done (by kernel_rfl) ?_ _
        go_wp2_with fail
        go_meet
        exact ⟨some ⟨gg,0,none⟩,n+1,cap,by omega,by rw [show BA=vg++ [⟨fd1*1440+r1.minute - r0.off,r1.off⟩] from Zw.out];exact hxk.out⟩
       ·go_simp
        have hS5:Ip rb w.heap.size yb (yo+4) r1.minute r1.off r0.off (.slice (some ⟨yb,yo,none⟩) 2 d0) (V.alloc (.cells #[I (fd1*1440+r1.minute - r0.off),I r1.off] 127)):=⟨(zt.out.below (ag _ _)).cell 3,(zt.out.below (ag _ _)).cell 4,(HKB1.out.grow (ag _ _)).z.cell 7,(HY.out _ (HKB1.out.grow (ag _ _)).lo).a 4 _ rfl⟩
        refine hK.out _ _ hS5 (fun _=>?_)
        clear hK K
        refine ax ?_
        refine aV 4 (fun K hK=>?_)
        have c8:(V.alloc (.cells #[I (fd1*1440+r1.minute - r0.off),I r1.off] 127)).cell? ⟨w.heap.size+1,8,none⟩=some (.slice A n cp):=(HKB1.out.grow (ag _ _)).k.cell 8
        go_simp
        clear c8
        refine hK.out _ _ hS5 (fun _=>?_)
        clear hK K
        refine ax ?_
        refine aV 22 (fun K hK=>?_)
        have hvl:=HKB1.out.k.lt
        refine step_append_lies _ (by rfl) _ _ _ (by rfl) (w.heap.size+2) 127 i0 (.agg #[I 0,I 0]) 2 16 Tryz.underlying64 HI.out yt.out oJ.out lH.out rfl (by omega) (.slice A n cp) n (vg.flatMap Tr.cells) (by rfl) (own_below HKB1.out.own (ag _ _)) ⟨V.heap.size,0,none⟩ 1 1 [I (fd1*1440+r1.minute - r0.off),I r1.off] (by rfl) rfl (bI V _ _ _ rfl) (sN ⟨fd1*1440+r1.minute - r0.off,r1.off⟩) (by omega) (by unfold maxLen;omega) (by omega) (by simp;omega) _ rfl ?_
        intro gg cap w6 hown6 hgrow6 _ _
        have hxk:=ae (pG.add (x:=⟨fd1*1440+r1.minute - r0.off,r1.off⟩) HKB1.out rfl rfl hown6 hgrow6)
        have Bq:Hid (AV rb 129 #[I r1.month,I r1.df,I r1.dm,I r1.minute,I r1.off] w6):=ae ⟨(hgrow6.block _ (by have:=zt.out.lt;simp;omega) DL.out).trans ((Below.heap_alloc _ _ _ zt.out.lt).trans zt.out.var)⟩
        have hk6:Hid (AV (w.heap.size+1) 206 ([I ep, .slice A0 n0 a,I lp, .slice R0 n1 r,I st, .slice C0 n2 c0,I ho, .slice (some ⟨yb,yo,none⟩) 2 d0]++ [Value.slice A n cp,I q]).toArray w6):=ae ⟨(hgrow6.block _ (by have:=HKB1.out.k.lt;simp;omega) (dN HKB1.out.own _ (by omega))).trans ((Below.heap_alloc _ _ _ HKB1.out.k.lt).trans HKB1.out.k.var)⟩
        have Di:Hid (AV w.heap.size 67 #[I ep, .slice A0 n0 a,I lp, .slice R0 n1 r,I st, .slice C0 n2 c0,I ho, .slice (some ⟨yb,yo,none⟩) 2 d0] w6):=ae ⟨(hgrow6.block _ (by have:=HKB1.out.z.lt;simp;omega) (dN HKB1.out.own _ (by omega))).trans ((Below.heap_alloc _ _ _ HKB1.out.z.lt).trans HKB1.out.z.var)⟩
        have Jz:Hid (w6.cell? ⟨yb,yo+4,none⟩=some (I r0.off)):=ae (by
         have hb6:Below w.heap.size w w6:=bU (ah HKB1.out.lo (ag _ _)) (bu (own_below HKB1.out.own (ag _ _)) (by omega)) (ah HKB1.out.lo (ag _ _)).size hgrow6
         exact (HY.out w6 hb6).a 4 _ rfl)
        clear hown6 hgrow6
        have hS6:Ip rb w.heap.size yb (yo+4) r1.minute r1.off r0.off (.slice (some ⟨yb,yo,none⟩) 2 d0) w6:=⟨Bq.out.cell 3,Bq.out.cell 4,Di.out.cell 7,Jz.out⟩
        refine hK.out _ _ hS6 (fun _=>?_)
        clear hK K
        try simp only [Act.put,List.setIfInBounds_toArray]
        refine aC 23 (.pointer (some ⟨w.heap.size+1,0,none⟩)) 102 hS6 (fun w' hSw=>?_) ?_
        ·clear hSw
         first|(go_simp;done)|(go_simp;with_reducible rfl)
        try simp only [Act.put]
        refine aC 24 (.pointer (some ⟨w.heap.size+1,8,none⟩)) 103 hS6 (fun w' hSw=>?_) ?_
        ·clear hSw
         first|(go_simp;done)|(go_simp;with_reducible rfl)
        try simp only [Act.put]
        refine aV 25 (fun K hK=>?_)
        have c8:=hk6.out.cell 8
        have f8:=hk6.out.dK 8
        go_simp
        have hS7:Ip rb w.heap.size yb (yo+4) r1.minute r1.off r0.off (.slice (some ⟨yb,yo,none⟩) 2 d0) (w6.setCell ⟨w.heap.size+1,8,none⟩ (.slice (some ⟨gg,0,none⟩) (n+1) cap)):=⟨(Bq.out.far OU.out 8 _).cell 3,(Bq.out.far OU.out 8 _).cell 4,hxk.out.z.cell 7,(HY.out _ hxk.out.lo).a 4 _ rfl⟩
        refine hK.out _ _ hS7 (fun _=>?_)
        clear hK K
        refine wpAnyH_done (by kernel_rfl) ?_ _
        go_wp2_with fail
        go_meet
        exact ⟨some ⟨gg,0,none⟩,n+1,cap,by omega,by rw [show BA=vg++ [⟨fd1*1440+r1.minute - r0.off,r1.off⟩] from Zw.out];exact hxk.out⟩
     case rest=>
      obtain ⟨A',n',cp',hnn,hk2⟩:=hcut
      have iO:=ae hk2
      have hnd:(n':Int)≤2*yy:=by omega
      clear hk2 hnn gY HYD1 Zy DJ RU v0 v1 v2 v3 v7 dn wY wZ xe xg xh xk xm xn y13 xq
      have v0:wc.cell? ⟨w.heap.size,0,none⟩=some (I ep):=iO.out.z.cell 0
      have v1:wc.cell? ⟨w.heap.size,1,none⟩=some (.slice A0 n0 a):=iO.out.z.cell 1
      have v2:wc.cell? ⟨w.heap.size,2,none⟩=some (I lp):=iO.out.z.cell 2
      have v3:wc.cell? ⟨w.heap.size,3,none⟩=some (.slice R0 n1 r):=iO.out.z.cell 3
      have v7:wc.cell? ⟨w.heap.size,7,none⟩=some (.slice (some ⟨yb,yo,none⟩) 2 d0):=iO.out.z.cell 7
      go_wp2_with fail
      rw [rounds_succ]
      have hge:=oW cal yy HC.out
      have hbd2:=iZ cal yy HC.out
      obtain ⟨f',hf1,hf2⟩:=QA HF.out hlt U1.out hge
      rw [HTS0.out,HTS1.out] at hf2
      obtain ⟨yl,hyl⟩:∃v,dB cal yy=v:=⟨_,rfl⟩
      have hcy:=pg.out yy wc iO.out.lo
      rw [hyl] at hf1 hf2 hcy hge hbd2
      have RV:=ae hf1
      have HF2:=ae hf2
      have jE:=ae hcy
      clear hcy hyl hf1 hf2
      go_wp2_with fail
      refine jE.out.mono ?_
      rintro e w9 ⟨rfl,Gv⟩
      have HK9:=ae (iO.out.grow Gv)
      clear Gv iO v0 v1 v2 v3 v7
      go_wp2_with fail
      go_roundw
      case rel=>exact ⟨f',bg+yl,yy+1,A',n',cp',BA,by go_num,by go_num,by omega,by omega,by omega,by omega,by omega,RV.out,HF2.out,HK9.out⟩
      case measure=>simp [intOf];omega
   ·have hre:=Nz HF.out hlt
    subst hre
    clear HF U1
    go_wp2_with fail
    go_quiet (fail)
    obtain ⟨W7,Xr⟩:∃W,wr.drewN nq=W:=⟨_,rfl⟩
    rw [Xr]
    have wK:Hid (pG w [I ep, .slice A0 n0 a,I lp, .slice R0 n1 r,I st, .slice C0 n2 c0,I ho, .slice (some ⟨yb,yo,none⟩) 2 d0] q A n cp ts W7):=ae (by rw [←Xr];exact HW.out.drewN nq)
    clear Xr v0 c9 HW
    have c8:W7.cell? ⟨w.heap.size+1,8,none⟩=some (.slice A n cp):=wK.out.k.cell 8
    have aac:=ae (JW wK.out.own wK.out.len (by omega))
    go_wp2_with fail
    refine aac.out.mono ?_
    rintro e w8 ⟨rfl,us,hp,hs,ho,hg⟩
    have hus:us=ys:=NK Cf.out (hp.trans Rq.out.symm) hs
    subst hus
    have hul:us.length=n:=by rw [hp.length_eq];exact wK.out.len
    have U3:=ae (wK.out.sorted hul ho hg)
    have HUB:Hid (Iq us):=ae HTBY.out
    clear hp hs ho hg aac wK c8 Rq
    have c8:w8.cell? ⟨w.heap.size+1,8,none⟩=some (.slice A n cp):=U3.out.k.cell 8
    go_wp2_with fail
    clear c8
    go_loopw [121] (fun i wr=>∃k:Nat,k≤n∧i=I (k:Nat)∧pG w [I ep, .slice A0 n0 a,I lp, .slice R0 n1 r,I st, .slice C0 n2 c0,I ho, .slice (some ⟨yb,yo,none⟩) 2 d0] q A n cp us wr) (fun i _=>n - (intOf i).toNat)
    case atStart=>exact ⟨0,Nat.zero_le _,rfl,U3.out⟩
    case round=>
     clear U3
     obtain ⟨k,hkn,rfl,hks⟩:=hrel
     have HX:=ae hks
     clear hks
     by_cases hlt2:k<n
     ·have i1:(k:Int)<(n:Int):=by omega
      have i0':(0:Int)≤(k:Int):=by omega
      have hga:=Ef Cf.out k (by rw [hul];exact hlt2)
      unfold nS at hga
      rw [hul] at hga
      have a0:=pq 0 HUB.out
      have ak:=pq k HUB.out
      have ak1:=pq (k+1) HUB.out
      obtain ⟨g,hAg⟩:∃g,A=some ⟨g,0,none⟩:=by
       rcases HX.out.own.2 with ⟨_,hz⟩|⟨g,cap,cur,hv,_⟩
       ·omega
       ·injection hv with h1 _ _
        exact ⟨g,h1⟩
      subst hAg
      have HAT:=ae (fun (W:World) (h:pG w [I ep, .slice A0 n0 a,I lp, .slice R0 n1 r,I st, .slice C0 n2 c0,I ho, .slice (some ⟨yb,yo,none⟩) 2 d0] q (some ⟨g,0,none⟩) n cp us W) (j:Nat) (hj:j<n)=>qH h.own h.len j hj)
      have HOF:=ae (tH HX.out.own HX.out.len k hlt2)
      obtain ⟨t0,ht0⟩:∃t,iH us 0=t:=⟨_,rfl⟩
      obtain ⟨tk,htk⟩:∃t,iH us k=t:=⟨_,rfl⟩
      obtain ⟨tl,htl⟩:∃t,iH us (k+1)=t:=⟨_,rfl⟩
      obtain ⟨ok,hok⟩:∃t,lG us k=t:=⟨_,rfl⟩
      have sV:Hid (∀W,pG w [I ep, .slice A0 n0 a,I lp, .slice R0 n1 r,I st, .slice C0 n2 c0,I ho, .slice (some ⟨yb,yo,none⟩) 2 d0] q (some ⟨g,0,none⟩) n cp us W→W.cell? ⟨g,0,none⟩=some (I t0)):=ae (fun W h=>by have:=HAT.out W h 0 (by omega);rw [ht0] at this;simpa using this)
      have Ih:Hid (∀W,pG w [I ep, .slice A0 n0 a,I lp, .slice R0 n1 r,I st, .slice C0 n2 c0,I ho, .slice (some ⟨yb,yo,none⟩) 2 d0] q (some ⟨g,0,none⟩) n cp us W→k+1<n→W.cell? ⟨g,(k+1)*2,none⟩=some (I tl)):=ae (fun W h hj=>by have:=HAT.out W h (k+1) hj;rw [htl] at this;exact this)
      have e0:=HAT.out wr HX.out k hlt2
      have e1:=HOF.out
      rw [htk] at e0
      rw [hok] at e1
      rw [ht0,htk,htl] at hga
      rw [ht0] at a0
      rw [htk] at ak
      rw [htl] at ak1
      clear ht0 htk htl hok HAT HOF
      go_upto_region 24 with (first
       |((with_reducible refine bP 127 ?_);refine aJ rfl 127 rfl #[I 0,I 0] (by kernel_rfl) ?_)
       |((with_reducible refine bH 127 ?_);go_must (refine wpList_store_row rfl _ _ _ rfl wr.heap.size #[I tk,I ok] rfl rfl 127 #[I 0,I 0] (heap_alloc_last wr _) (by kernel_rfl) rfl (by simp [Value.oneCell']) ?_)))
      have hbr:Below wr.heap.size wr ((wr.alloc (.cells #[I 0,I 0] 127)).setRow wr.heap.size #[I tk,I ok]):=aF (ag wr _) (Nat.le_refl _) _
      have MJ:=ae (AV.qE (AV.new wr #[I 0,I 0] 127) #[I tk,I ok])
      have xC:=ae (HX.out.grow hbr)
      clear hbr HX e0 e1
      generalize (wr.alloc (.cells #[I 0,I 0] 127)).setRow wr.heap.size #[I tk,I ok]=W2 at xC MJ ⊢
      generalize wr.heap.size=rb at MJ ⊢
      have c8:W2.cell? ⟨w.heap.size+1,8,none⟩=some (.slice (some ⟨g,0,none⟩) n cp):=xC.out.k.cell 8
      have c9:W2.cell? ⟨w.heap.size+1,9,none⟩=some (I q):=xC.out.k.cell 9
      have a00:=sV.out W2 xC.out
      have hn0:0<n:=by omega
      have wq:IntKind.i64.wrap (q*1440)=q*1440:=by rw [IntKind.wrap_i64];omega
      have wt:IntKind.i64.wrap (t0+q*1440)=t0+q*1440:=by rw [IntKind.wrap_i64];omega
      go_quiet ((go_at_call 109;exact pz _ q W2 c9 (by omega) (by omega) _))
      obtain ⟨W3,hW3⟩:∃W,W2.drewN nq=W:=⟨_,rfl⟩
      rw [hW3]
      have wE:Hid (pG w [I ep, .slice A0 n0 a,I lp, .slice R0 n1 r,I st, .slice C0 n2 c0,I ho, .slice (some ⟨yb,yo,none⟩) 2 d0] q (some ⟨g,0,none⟩) n cp us W3):=ae (by rw [←hW3];exact xC.out.drewN nq)
      have HR3:Hid (AV rb 127 #[I tk,I ok] W3):=ae (by rw [←hW3];exact MJ.out.below (below_drewN' _ _))
      clear hW3 c8 c9 a00 xC MJ
      have c8:W3.cell? ⟨w.heap.size+1,8,none⟩=some (.slice (some ⟨g,0,none⟩) n cp):=wE.out.k.cell 8
      have r00:W3.cell? ⟨rb,0,none⟩=some (I tk):=HR3.out.cell 0
      by_cases hl:k+1<n
      ·have i2:(k:Int)+1<(n:Int):=by omega
       have al:=Ih.out W3 wE.out hl
       rw [if_pos hl] at hga
       have hnl:¬tl - tk<2160:=by omega
       clear hga sV Ih
       go_wp2_with fail
       go_roundw
       case rel=>exact ⟨k+1,by omega,by go_num,wE.out⟩
       case measure=>simp [intOf];omega
      ·have i2:¬(k:Int)+1<(n:Int):=by omega
       rw [if_neg hl] at hga
       have hnl:¬t0+q*1440 - tk<2160:=by omega
       clear hga sV Ih
       go_wp2_with fail
       go_roundw
       case rel=>exact ⟨k+1,by omega,by go_num,wE.out⟩
       case measure=>simp [intOf];omega
     ·have i1:¬(k:Int)<(n:Int):=by omega
      go_wp2_with fail
      go_ret2
      exact ⟨rfl,A,n,cp,HX.out⟩
end Go.Proofs.YtdibbemgpikgjaaGreatDoor
