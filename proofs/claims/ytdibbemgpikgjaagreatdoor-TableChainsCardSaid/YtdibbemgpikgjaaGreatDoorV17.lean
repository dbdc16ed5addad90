/- The texts Kf0, in this order. -/
import Derived.Test.YtdibbemgpikgjaaGreatDoorV00
import Derived.Test.YtdibbemgpikgjaaGreatDoorV12
namespace Go.Proofs.YtdibbemgpikgjaaGreatDoor
open Go Go.RowKit
set_option maxRecDepth 10000 in
set_option maxHeartbeats 16000000 in
theorem QC (z:Zn) (s:Zs) (w:World) (hm:vG z) (h:jb w w.heap.size s z) (zX:z.aB= []):Calls Tryz.prog 53 #[.agg (ay z s)] w (Gives (.int .i64 (wV z)) w):=by
 have yS:Hid (∀W,Below w.heap.size w W→Calls Tryz.prog 78 #[.agg (ay z s)] W (Pg W (qi z) (jA (qi z) (jl z*1440)))):=ae fun W hb=>Bc z s W hm (h.grow hb)
 have ug:Hid (∀W,Below w.heap.size w W→Calls Tryz.prog 80 #[.agg (ay z s)] W (Gives (I (jl z)) W)):=ae fun W hb=>Bd z s W hm.cal (h.grow hb)
 have WE:Hid (∀W,Below w.heap.size w W→Calls Tryz.prog 76 #[.agg (aG z.cal s.A s.a s.B s.b)] W (Gives (.bool true) W)):=ae fun W hb=>iL z.cal s.A s.B s.a s.b W hm.cal ⟨h.au.grow hb,h.rules.grow hb⟩
 have HM:=ae hm
 have HH:=ae h
 have hmo:=hm.cal.mo
 have hst:=hm.start
 have hho:=hm.hor
 have htl:=hm.Uw
 clear hm h
 obtain ⟨res,hres⟩:∃r,wV z=r:=⟨_,rfl⟩
 rw [hres]
 have ja:=ae hres
 clear hres
 obtain ⟨m,hmm⟩:∃m,z.trans.length=m:=⟨_,rfl⟩
 rw [hmm] at htl
 have jw:=ae hmm
 obtain ⟨cal,st,tr,ho,yr⟩:=z
 obtain ⟨A0,a,R0,r,C0,c0,D0,d0⟩:=s
 simp only at zX hmo hmm hst hho jw ⊢
 obtain ⟨ep,tN⟩:∃ep,cal.aK=ep:=⟨_,rfl⟩
 obtain ⟨lp,vI⟩:∃lp,cal.bz=lp:=⟨_,rfl⟩
 obtain ⟨n1,hn1⟩:∃n,cal.rules.length=n:=⟨_,rfl⟩
 have TQ:=fun W=>gQ st 1080 W (by omega) (by omega) (by omega)
 have hwb:=fun W=>gQ ho 2251799813685248 W (by omega) (by omega) (by omega)
 have HWA:=ae TQ
 have HWB:=ae hwb
 clear TQ hwb
 subst zX
 unfold ay aG at*
 simp only [tN,vI,hmo,hn1,hmm,List.length_nil] at yS ug WE ⊢
 have HV:=ae (jD.start w #[I ep, .slice A0 2 a,I lp, .slice R0 n1 r,I st, .slice C0 m c0,I ho, .slice D0 0 d0] 67)
 clear tN vI hmo hn1 hmm
 go_enter Tryz.func53,Tryz.ntmps53
 go_wp2_with fail
 refine (WE.out _ HV.out.up).mono ?_
 rintro e w1 ⟨rfl,hb1⟩
 have HW:=ae (HV.out.grow hb1)
 clear hb1 HV WE
 have v0:w1.cell? ⟨w.heap.size,0,none⟩=some (I ep):=HW.out.row.2 0
 have v1:w1.cell? ⟨w.heap.size,1,none⟩=some (.slice A0 2 a):=HW.out.row.2 1
 have v2:w1.cell? ⟨w.heap.size,2,none⟩=some (I lp):=HW.out.row.2 2
 have v3:w1.cell? ⟨w.heap.size,3,none⟩=some (.slice R0 n1 r):=HW.out.row.2 3
 have v4:w1.cell? ⟨w.heap.size,4,none⟩=some (I st):=HW.out.row.2 4
 have v5:w1.cell? ⟨w.heap.size,5,none⟩=some (.slice C0 m c0):=HW.out.row.2 5
 have v6:w1.cell? ⟨w.heap.size,6,none⟩=some (I ho):=HW.out.row.2 6
 have v7:w1.cell? ⟨w.heap.size,7,none⟩=some (.slice D0 0 d0):=HW.out.row.2 7
 go_wp2_with fail
 refine (HWA.out w1).mono ?_
 rintro e w2 ⟨rfl,rfl⟩
 go_wp2_with fail
 refine (HWB.out w2).mono ?_
 rintro e w3 ⟨rfl,rfl⟩
 go_wp2_with fail
 clear v0 v1 v2 v3 v4 v5 v6 v7
 go_loopw [3] (fun i wr=>VRel w #[I ep, .slice A0 2 a,I lp, .slice R0 n1 r,I st, .slice C0 m c0,I ho, .slice D0 0 d0] m i wr) (fun i _=>m - (intOf i).toNat)
 case atStart=>exact ⟨0,Nat.zero_le _,by go_num,HW.out⟩
 case round=>
  obtain ⟨k,hk,rfl,hv⟩:=hrel
  have HX:=ae hv
  clear hv HW
  by_cases hlt:k<m
  ·have hct:=ou HH.out.trans HX.out.up (by show 0<tr.length;rw [jw.out];omega)
   obtain ⟨tb,tf,hC,htc⟩:=hct
   simp only at hC
   subst hC
   have v0:wr.cell? ⟨w.heap.size,0,none⟩=some (I ep):=HX.out.row.2 0
   have v1:wr.cell? ⟨w.heap.size,1,none⟩=some (.slice A0 2 a):=HX.out.row.2 1
   have v2:wr.cell? ⟨w.heap.size,2,none⟩=some (I lp):=HX.out.row.2 2
   have v3:wr.cell? ⟨w.heap.size,3,none⟩=some (.slice R0 n1 r):=HX.out.row.2 3
   have v4:wr.cell? ⟨w.heap.size,4,none⟩=some (I st):=HX.out.row.2 4
   have v5:wr.cell? ⟨w.heap.size,5,none⟩=some (.slice (some ⟨tb,tf,none⟩) m c0):=HX.out.row.2 5
   have v6:wr.cell? ⟨w.heap.size,6,none⟩=some (I ho):=HX.out.row.2 6
   have v7:wr.cell? ⟨w.heap.size,7,none⟩=some (.slice D0 0 d0):=HX.out.row.2 7
   obtain ⟨x0,x1⟩:=htc k (by show k<tr.length;rw [jw.out];exact hlt)
   have hbd:=vG.zJ HM.out k (by show k<tr.length;rw [jw.out];exact hlt)
   simp only at x0 x1 hbd
   obtain ⟨a1,ha1⟩:∃v,iH tr k=v:=⟨_,rfl⟩
   obtain ⟨o1,ho1⟩:∃v,lG tr k=v:=⟨_,rfl⟩
   rw [ha1] at x0 hbd
   rw [ho1] at x1 hbd
   have HA1:=ae ha1
   clear ho1
   have i0:(0:Int)≤(k:Int):=by omega
   have i1:(k:Int)<(m:Int):=by omega
   have hwo:=fun W=>gQ o1 1080 W (by omega) (by omega) (by omega)
   have hwt:=fun W=>gQ a1 2251799813685248 W (by omega) (by omega) (by omega)
   have HWO:=ae hwo
   have HWT:=ae hwt
   have hah:decide (ho≤a1)=false:=decide_eq_false (by omega)
   clear hwo hwt ha1
   have Oc:=fun (hk0:0<k)=>(htc (k - 1) (by show k - 1<tr.length;rw [jw.out];omega)).1
   have wR:=fun (hk0:0<k)=>HM.out.gap (k - 1) (by show k - 1+1<tr.length;rw [jw.out];omega)
   simp only at Oc wR
   have HX0P:=ae Oc
   have Cf:=ae wR
   clear Oc wR
   go_wp2_with fail
   clear v0 v1 v2 v3 v4 v5 v6 v7
   have uj:Hid (jD w #[I ep, .slice A0 2 a,I lp, .slice R0 n1 r,I st, .slice (some ⟨tb,tf,none⟩) m c0,I ho, .slice D0 0 d0] (wr.alloc (.cells #[I a1,I o1] 127))):=ae (HX.out.alloc _)
   have HU1:Hid (Below wr.heap.size wr (wr.alloc (.cells #[I a1,I o1] 127))):=ae (ag wr _)
   have HRW:=(Row.new wr #[I a1,I o1] 127).2
   have t0:(wr.alloc (.cells #[I a1,I o1] 127)).cell? ⟨wr.heap.size,0,none⟩=some (I a1):=HRW 0
   have t1:(wr.alloc (.cells #[I a1,I o1] 127)).cell? ⟨wr.heap.size,1,none⟩=some (I o1):=HRW 1
   clear HRW x0 x1
   generalize wr.alloc (.cells #[I a1,I o1] 127)=W1 at uj HU1 t0 t1 ⊢
   have v0:W1.cell? ⟨w.heap.size,0,none⟩=some (I ep):=uj.out.row.2 0
   have v1:W1.cell? ⟨w.heap.size,1,none⟩=some (.slice A0 2 a):=uj.out.row.2 1
   have v2:W1.cell? ⟨w.heap.size,2,none⟩=some (I lp):=uj.out.row.2 2
   have v3:W1.cell? ⟨w.heap.size,3,none⟩=some (.slice R0 n1 r):=uj.out.row.2 3
   have v4:W1.cell? ⟨w.heap.size,4,none⟩=some (I st):=uj.out.row.2 4
   have v5:W1.cell? ⟨w.heap.size,5,none⟩=some (.slice (some ⟨tb,tf,none⟩) m c0):=uj.out.row.2 5
   have v6:W1.cell? ⟨w.heap.size,6,none⟩=some (I ho):=uj.out.row.2 6
   have v7:W1.cell? ⟨w.heap.size,7,none⟩=some (.slice D0 0 d0):=uj.out.row.2 7
   cases k with
   |zero=>
    go_quiet (first|(go_at_call 77;with_reducible refine Calls.quiet_of_same (HWO.out _))|(go_at_call 77;with_reducible refine Calls.quiet_of_same (HWT.out _)))
    go_wp2_with fail
    go_roundw
    case rel=>exact ⟨0+1,by omega,by go_num,uj.out.grow (below_drewN' _ _)⟩
    case measure=>simp [intOf];omega
   |succ k'=>
    obtain ⟨tb2,tf2,hC2,XT⟩:=ou HH.out.trans uj.out.up (by show 0<tr.length;rw [jw.out];omega)
    simp only at hC2
    injection hC2 with hC2
    injection hC2 with e1 e2
    subst e1 e2
    have Oc:=(XT k' (by show k'<tr.length;rw [jw.out];omega)).1
    have wR:=Cf.out (by omega)
    rw [show k'+1 - 1=k' by omega,HA1.out] at wR
    simp only at Oc
    have hbq:=(vG.zJ HM.out k' (by show k'<tr.length;rw [jw.out];omega)).2
    simp only at hbq
    obtain ⟨a2,ha2⟩:∃v,iH tr k'=v:=⟨_,rfl⟩
    rw [ha2] at Oc wR hbq
    clear ha2
    have j0:decide ((0:Int)<(k':Int)+1)=true:=decide_eq_true (by omega)
    have j1:((k'+1:Nat):Int) - 1=(k':Int):=by omega
    have j2:(k':Int)<(m:Int):=by omega
    have j3:decide (a1 - a2<2160)=false:=decide_eq_false (by omega)
    go_quiet (first|(go_at_call 77;with_reducible refine Calls.quiet_of_same (HWO.out _))|(go_at_call 77;with_reducible refine Calls.quiet_of_same (HWT.out _)))
    go_wp2_with fail
    go_roundw
    case rel=>exact ⟨k'+1+1,by omega,by go_num,uj.out.grow (below_drewN' _ _)⟩
    case measure=>simp [intOf];omega
  ·have hnl:¬(k:Int)<(m:Int):=by omega
   have v0:wr.cell? ⟨w.heap.size,0,none⟩=some (I ep):=HX.out.row.2 0
   have v1:wr.cell? ⟨w.heap.size,1,none⟩=some (.slice A0 2 a):=HX.out.row.2 1
   have v2:wr.cell? ⟨w.heap.size,2,none⟩=some (I lp):=HX.out.row.2 2
   have v3:wr.cell? ⟨w.heap.size,3,none⟩=some (.slice R0 n1 r):=HX.out.row.2 3
   have v4:wr.cell? ⟨w.heap.size,4,none⟩=some (I st):=HX.out.row.2 4
   have v5:wr.cell? ⟨w.heap.size,5,none⟩=some (.slice C0 m c0):=HX.out.row.2 5
   have v6:wr.cell? ⟨w.heap.size,6,none⟩=some (I ho):=HX.out.row.2 6
   have v7:wr.cell? ⟨w.heap.size,7,none⟩=some (.slice D0 0 d0):=HX.out.row.2 7
   go_wp2_with fail
   clear v0 v1 v2 v3 v4 v5 v6 v7
   refine wp_loop_rounds 1 ?_
   rw [rounds_succ]
   have v0:wr.cell? ⟨w.heap.size,0,none⟩=some (I ep):=HX.out.row.2 0
   have v1:wr.cell? ⟨w.heap.size,1,none⟩=some (.slice A0 2 a):=HX.out.row.2 1
   have v2:wr.cell? ⟨w.heap.size,2,none⟩=some (I lp):=HX.out.row.2 2
   have v3:wr.cell? ⟨w.heap.size,3,none⟩=some (.slice R0 n1 r):=HX.out.row.2 3
   have v4:wr.cell? ⟨w.heap.size,4,none⟩=some (I st):=HX.out.row.2 4
   have v5:wr.cell? ⟨w.heap.size,5,none⟩=some (.slice C0 m c0):=HX.out.row.2 5
   have v6:wr.cell? ⟨w.heap.size,6,none⟩=some (I ho):=HX.out.row.2 6
   have v7:wr.cell? ⟨w.heap.size,7,none⟩=some (.slice D0 0 d0):=HX.out.row.2 7
   go_wp2_with fail
   clear v0 v1 v2 v3 v4 v5 v6 v7
   have HE:=HX
   refine (yS.out _ HE.out.up).mono ?_
   rintro e w4 ⟨A,n,c,hlen,rfl,hown,hb4⟩
   have HY:Hid (YS w #[I ep, .slice A0 2 a,I lp, .slice R0 n1 r,I st, .slice C0 m c0,I ho, .slice D0 0 d0] w4 A n c (qi ⟨cal,st,tr,ho,[]⟩)):=ae ⟨HE.out.row.keep hb4,hown.lower HE.out.row.1,ah HE.out.up hb4,hlen⟩
   have hB:=DC _ HM.out
   have hzc:=o7 _ HM.out.cal
   have hzg:=wo _ HM.out.cal
   obtain ⟨yA,Ei⟩:∃v,jl ⟨cal,st,tr,ho,[]⟩=v:=⟨_,rfl⟩
   rw [Ei] at hzc hzg ug
   have wJ:=ae Ei
   obtain ⟨ts,hts⟩:∃v,qi ⟨cal,st,tr,ho,[]⟩=v:=⟨_,rfl⟩
   rw [hts] at HY hB hlen
   have FI:=ae hts
   have hnl:n≤1000:=by omega
   have RP:Hid (∀W,YS w #[I ep, .slice A0 2 a,I lp, .slice R0 n1 r,I st, .slice C0 m c0,I ho, .slice D0 0 d0] W A n c ts→Calls Tryz.prog 79 #[.slice A n c,I yA,I ho] W (Gives (.tuple #[.agg #[I (dP ts (yA*1440) ho).1.at_,I (dP ts (yA*1440) ho).1.off], .bool (dP ts (yA*1440) ho).2]) W)):=
    ae fun W hY=>CS (w.heap.size+1) n c A ts yA ho W hY.len hnl hY.own hB.1 hzg hzc.2 hho.1 hho.2
   obtain ⟨gp,wR⟩:∃g,jA ts (yA*1440)=g:=⟨_,rfl⟩
   have Cf:=ae wR
   rw [hts,Ei,wR]
   have XF:=ae hB.1
   clear hown hb4 hts Ei wR hB hlen hnl HX yS
   cases gp with
   |false=>
    have HR1:Hid (res=1):=ae (by rw [←ja.out];unfold wV;rw [FI.out,wJ.out,Cf.out];rfl)
    go_wp2_with fail
    go_ret
    exact ⟨by rw [HR1.out];rfl,HY.out.up⟩
   |true=>
    obtain ⟨af,Xx⟩:∃v,dP ts (yA*1440) ho=v:=⟨_,rfl⟩
    rw [Xx] at RP
    have DF:=ae Xx
    clear Xx
    obtain ⟨⟨wI,RI⟩,sm⟩:=af
    have HXB:Hid (-10000000000≤wI∧wI≤10000000000):=ae (by have h:=FY (t:=ho) (XF.out) (show 1440≤yA*1440 by omega) (by omega) hho.1 hho.2;rw [DF.out] at h;exact h)
    simp only at RP
    have hlt4:w.heap.size<w4.heap.size:=HY.out.row.1
    have v0:w4.cell? ⟨w.heap.size,0,none⟩=some (I ep):=HY.out.row.2 0
    have v1:w4.cell? ⟨w.heap.size,1,none⟩=some (.slice A0 2 a):=HY.out.row.2 1
    have v2:w4.cell? ⟨w.heap.size,2,none⟩=some (I lp):=HY.out.row.2 2
    have v3:w4.cell? ⟨w.heap.size,3,none⟩=some (.slice R0 n1 r):=HY.out.row.2 3
    have v4:w4.cell? ⟨w.heap.size,4,none⟩=some (I st):=HY.out.row.2 4
    have v5:w4.cell? ⟨w.heap.size,5,none⟩=some (.slice C0 m c0):=HY.out.row.2 5
    have v6:w4.cell? ⟨w.heap.size,6,none⟩=some (I ho):=HY.out.row.2 6
    have v7:w4.cell? ⟨w.heap.size,7,none⟩=some (.slice D0 0 d0):=HY.out.row.2 7
    go_upto_region 20 with fail
    go_cut [9,10] (fun p ok wx=>∃b,p= .pointer (some ⟨b,0,none⟩)∧ok= .bool sm∧wx.cell? ⟨b,0,none⟩=some (I wI)∧jD w #[I ep, .slice A0 2 a,I lp, .slice R0 n1 r,I st, .slice C0 m c0,I ho, .slice D0 0 d0] wx)
    case first=>
     go_region_law (first
      |(go_simp;go_at_call 80;refine Calls.mono (ug.out _ ?hcb) ?_;(case hcb=>(first|exact HY.out.up.drew|exact (HY.out.call (ag w4 _)).up.drew));rintro e w5 ⟨rfl,hb5⟩;(first|have uh:=ae (HY.out.call (ah (Below.refl _ w4).drew hb5))|(have uh:=ae (HY.out.call (ah (ag w4 (.cells #[I 0,I 0] 127)).drew hb5));have JA:w5.heap[w4.heap.size]? =some (.cells #[I 0,I 0] 127 (0,0)):=(hb5.block _ (ik (heap_alloc_last w4 (.cells #[I 0,I 0] 127)))).trans (heap_alloc_last w4 _);have q0:=cell_of_row _ _ 0 _ _ _ JA;have q1:=cell_of_row _ _ 1 _ _ _ JA;have qf:=fun i=>frozen_of_row _ _ i _ _ JA));have v6':w5.cell? ⟨w.heap.size,6,none⟩=some (I ho):=uh.out.row.2 6;have TL:w.heap.size<w5.heap.size:=uh.out.row.1)
      |(go_simp;go_at_call 79;refine Calls.mono (RP.out _ ?hcb) ?_;(case hcb=>(first|exact uh.out|exact uh.out.call (ag w5 _)));rintro e w6 ⟨rfl,hb6⟩;(first|have IJ:=ae (uh.out.call hb6)|(have IJ:=ae (uh.out.call (ah (ag w5 (.cells #[I 0,I 0] 127)) hb6));have Di:w6.heap[w5.heap.size]? =some (.cells #[I 0,I 0] 127 (0,0)):=(hb6.block _ (ik (heap_alloc_last w5 (.cells #[I 0,I 0] 127)))).trans (heap_alloc_last w5 _);have q0:=cell_of_row _ _ 0 _ _ _ Di;have q1:=cell_of_row _ _ 1 _ _ _ Di;have qf:=fun i=>frozen_of_row _ _ i _ _ Di));(try (have Ep:w6.heap[w4.heap.size]? =some (.cells #[I 0,I 0] 127 (0,0)):=(hb6.block _ (ik JA)).trans JA;have q0:=cell_of_row _ _ 0 _ _ _ Ep;have q1:=cell_of_row _ _ 1 _ _ _ Ep;have qf:=fun i=>frozen_of_row _ _ i _ _ Ep))))
     all_goals
      go_wp2_with fail
      go_meet
      first
       |(have hzz:=Ep;exact ⟨w4.heap.size,rfl,rfl,cell_of_row _ _ 0 _ _ _ (heap_setCell_same _ w4.heap.size 1 _ _ _ (heap_setCell_same _ w4.heap.size 0 _ _ _ hzz)),(HY.out.call (((ah (ah (ag w4 _).drew hb5) hb6).setCell (p:=⟨w4.heap.size,0,none⟩) (Nat.le_refl _) _).setCell (p:=⟨w4.heap.size,1,none⟩) (Nat.le_refl _) _)).row,(HY.out.call (((ah (ah (ag w4 _).drew hb5) hb6).setCell (p:=⟨w4.heap.size,0,none⟩) (Nat.le_refl _) _).setCell (p:=⟨w4.heap.size,1,none⟩) (Nat.le_refl _) _)).up⟩)
       |(have hzz:=Di;exact ⟨w5.heap.size,rfl,rfl,cell_of_row _ _ 0 _ _ _ (heap_setCell_same _ w5.heap.size 1 _ _ _ (heap_setCell_same _ w5.heap.size 0 _ _ _ hzz)),(uh.out.call (((ah (ag w5 _) hb6).setCell (p:=⟨w5.heap.size,0,none⟩) (Nat.le_refl _) _).setCell (p:=⟨w5.heap.size,1,none⟩) (Nat.le_refl _) _)).row,(uh.out.call (((ah (ag w5 _) hb6).setCell (p:=⟨w5.heap.size,0,none⟩) (Nat.le_refl _) _).setCell (p:=⟨w5.heap.size,1,none⟩) (Nat.le_refl _) _)).up⟩)
       |exact ⟨w6.heap.size,rfl,rfl,(Row.new w6 #[I wI,I RI] 127).2 0,(IJ.out.call (ag w6 _)).row,(IJ.out.call (ag w6 _)).up⟩
    case rest=>
     obtain ⟨b,rfl,rfl,hx,hcv⟩:=hcut
     have HXC:=ae hx
     have MC:=ae hcv
     clear hx hcv RP ug HY hlt4
     clear v0 v1 v2 v3 v4 v5 v6 v7
     have x0:wc.cell? ⟨b,0,none⟩=some (I wI):=HXC.out
     have v5:wc.cell? ⟨w.heap.size,5,none⟩=some (.slice C0 m c0):=MC.out.row.2 5
     cases sm with
     |false=>
      have HR0:Hid (res=0):=ae (by rw [←ja.out];unfold wV pK;rw [FI.out,wJ.out,Cf.out,DF.out];rfl)
      go_wp2_with fail
      go_quiet (fail)
      go_wp2_with fail
      go_ret
      exact ⟨by rw [HR0.out];rfl,ah MC.out.up (below_drewN' _ _)⟩
     |true=>
      cases m with
      |zero=>
       have HR0:Hid (res=0):=ae (by rw [←ja.out];unfold wV pK;rw [FI.out,wJ.out,Cf.out,DF.out,jw.out];rfl)
       go_wp2_with fail
       go_quiet (fail)
       go_wp2_with fail
       go_ret
       exact ⟨by rw [HR0.out];rfl,ah MC.out.up (below_drewN' _ _)⟩
      |succ m'=>
       obtain ⟨tb,tf,hC,htc⟩:=ou HH.out.trans MC.out.up (by show 0<tr.length;rw [jw.out];omega)
       simp only at hC
       subst hC
       have y0:=(htc m' (by show m'<tr.length;rw [jw.out];omega)).1
       have hbd:=(vG.zJ HM.out m' (by show m'<tr.length;rw [jw.out];omega)).2
       simp only at y0 hbd
       obtain ⟨a1,ha1⟩:∃v,iH tr m'=v:=⟨_,rfl⟩
       rw [ha1] at y0 hbd
       have HA1:=ae ha1
       clear ha1 htc
       have hxb: -10000000000≤wI∧wI≤10000000000:=HXB.out
       have j0:decide ((0:Int)<(m':Int)+1)=true:=decide_eq_true (by omega)
       have j1:(m':Int)+1 - 1=(m':Int):=by omega
       have j2:(m':Int)<(m':Int)+1:=by omega
       obtain ⟨t,ht⟩:∃t,decide (wI - a1<2160)=t:=⟨_,rfl⟩
       have HT:=ae ht
       have hlv:pK ⟨cal,st,tr,ho,[]⟩=t:=by
        unfold pK
        rw [FI.out,wJ.out,DF.out,jw.out]
        show (true&&(decide (0<m'+1)&&decide (wI - iH tr (m'+1 - 1)<2160)))=t
        rw [show m'+1 - 1=m' by omega,HA1.out,HT.out,decide_eq_true (show 0<m'+1 by omega)]
        rfl
       have U6:=ae hlv
       clear hlv
       cases t with
       |false=>
        have HR0:Hid (res=0):=ae (by rw [←ja.out];unfold wV;rw [FI.out,wJ.out,Cf.out,U6.out];rfl)
        go_wp2_with fail
        go_quiet (fail)
        go_wp2_with fail
        go_ret
        exact ⟨by rw [HR0.out];rfl,ah MC.out.up (below_drewN' _ _)⟩
       |true=>
        have HR0:Hid (res=1):=ae (by rw [←ja.out];unfold wV;rw [FI.out,wJ.out,Cf.out,U6.out];rfl)
        go_wp2_with fail
        go_quiet (fail)
        go_wp2_with fail
        go_ret
        exact ⟨by rw [HR0.out];rfl,ah MC.out.up (below_drewN' _ _)⟩
end Go.Proofs.YtdibbemgpikgjaaGreatDoor
