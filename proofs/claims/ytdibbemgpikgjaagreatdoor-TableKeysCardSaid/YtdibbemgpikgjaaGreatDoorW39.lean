/- The texts Ei, in this order. -/
import Derived.Test.YtdibbemgpikgjaaGreatDoorW00
import Derived.Test.YtdibbemgpikgjaaGreatDoorW22
import Derived.Test.YtdibbemgpikgjaaGreatDoorW37
import Derived.Test.YtdibbemgpikgjaaGreatDoorW38
set_option maxRecDepth 10000
set_option maxHeartbeats 8000000
namespace Go.Proofs.YtdibbemgpikgjaaGreatDoor
open Go Go.RowKit
structure Qh (r:l9) (ts:List dI):Prop where
 adm:oN uy r.key ts
 good:∀x∈ts,Nr x
 made:∀x∈ts,Fj x.t
 Dw:∀x∈ts,x.t.aT=(r.Dw.toNat:Int)%16
theorem Qh.nil {r:l9}:Qh r []:=⟨oN.nil,(fun _ h=>nomatch h),(fun _ h=>nomatch h),fun _ h=>nomatch h⟩
theorem Qh.snoc {r:l9} {ts:List dI} {k:Nat} {y:dI} {W:World} {B:Nat} (h:Qh r ts) (hk:ts.length=k) (hM:Fj y.t) (hy:kM W B y) (hi:y.t.aT=(r.Dw.toNat:Int)%16) (hv:y.t.version=(k:Int)+1) (hl:∀z,ts[k - 1]? =some z→jU uy (nV z.t++z.t.bz)=y.t.prev)
  {d:List UInt8} (hd:d.length=32) (hq:nS uy r.key (nV y.t)=d):Qh r (ts++ [⟨{y.t with bz:=d},y.A,y.c,y.zs⟩]):=by
 have hg:Nr ⟨{y.t with bz:=d},y.A,y.c,y.zs⟩:=⟨(hM.Me d).good hy.prev hd,hM.up hy.names⟩;have he:nV {y.t with bz:=d}=nV y.t:=by
  unfold nV;rfl
 have ha:iW uy r.key ts {y.t with bz:=d}=0:=by
  refine Hy ?_ ?_ fun z hz=>?_
  ·rw [he,hq]
  ·rw [hk];exact hv
  ·rw [hk] at hz;exact ⟨hl z hz,(h.Dw z (fZ hz)).trans hi.symm⟩
 refine ⟨h.adm.snoc ha,fun x hx=>?_,fun x hx=>?_,fun x hx=>?_⟩
 ·rcases List.mem_append.1 hx with h1|h1
  ·exact h.good x h1
  ·obtain rfl:=List.mem_singleton.1 h1;exact hg
 ·rcases List.mem_append.1 hx with h1|h1
  ·exact h.made x h1
  ·obtain rfl:=List.mem_singleton.1 h1;exact hM.Me d
 ·rcases List.mem_append.1 hx with h1|h1
  ·exact h.Dw x h1
  ·obtain rfl:=List.mem_singleton.1 h1;exact hi
theorem xh.cap {w W:World} {rc:Array Value} {k c:Nat} {A:Option Addr} {ts:List dI} (h:xh w rc k c A ts W):k≤c:=V8 h.own
def QS (w:World) (r:l9) (e:Ending) (w':World):Prop:=
 ∃A n c ts,e= .returned (.slice A n c)∧ts.length=n∧n≤5∧n≤c∧jd w' w'.heap.size A ts∧Qh r ts∧Xj w.heap.size A ts∧Below w.heap.size w w'
theorem SX (r:l9) (w:World) (hr:vH w w.heap.size r):
  Calls Tryz.prog 7 #[.agg r.cells.toArray] w (QS w r):=by
 have oP:=ae hr.key;have hnl:=hr.len;obtain ⟨n,hn⟩:∃n,r.its.length=n:=⟨_,rfl⟩;rw [hn] at hnl;have AQ:=ae hn;have HRR:=ae hr;have H0:Hid (xh w r.cells.toArray 0 0 none [] (w.alloc (.cells r.cells.toArray 26))):=ae ⟨AV.new w _ _,ag w _,World.ownsRow_nil _ _ _ _,(fun _ h=>nomatch h),(fun _ h=>nomatch h)⟩;clear hr hn;go_enter Tryz.func7,Tryz.ntmps7;go_wp2_with fail;generalize w.alloc (.cells r.cells.toArray 26)=W0 at H0 ⊢
 go_loopw [3,4] (fun o i wr=>∃(k c:Nat) (A:Option Addr) (ts:List dI),k≤5∧k≤n∧o= .slice A k c∧i=I (k:Nat)∧ts.length=k∧Qh r ts∧xh w r.cells.toArray k c A ts wr) (fun _ i _=>5 - (intOf i).toNat)
 case atStart=>exact ⟨0,0,none,[],by omega,by omega,rfl,rfl,rfl,Qh.nil,H0.out⟩
 case round=>
  clear H0;obtain ⟨k,c,A,ts,hk5,hkn,rfl,rfl,htl,hcx,hw⟩:=hrel;have E5:=ae hcx;clear hcx;have HX0:=ae hw;have xg:=ae htl;clear hw htl;have c33:wr.cell? ⟨w.heap.size,33,none⟩=some (.slice r.A n r.c):=(HX0.out.it.cell 33).trans (by rw [Oi r oP.out,AQ.out]);by_cases hlt:k<n∧k<5
  ·obtain ⟨hln,hl5⟩:=hlt;have i1:(k:Int)<(n:Int):=by omega
   have i2:(k:Int)<5:=by omega
   obtain ⟨x,hx⟩:∃x,r.its[k]? =some x:=⟨_,dw (by rw [AQ.out];exact hln)⟩;obtain ⟨ib,io,hA,hib,hcl⟩:=HRR.out.row.there (by rw [dN (fun x:Hq=>x.cells.toList) r.its (show∀x∈r.its,x.cells.toList.length=2 from fun _ _=>rfl),AQ.out];omega);have JY:=ae hA;have HR:Hid (w.rangeAt ib (io+k*2) x.cells.toList):=ae (aA.elem (s:=2) (f:=fun x:Hq=>x.cells.toList) (fun _ _=>rfl) hcl k x hx);have HIT:=ae (HRR.out.each x (fZ hx));rw [hA] at c33;have Nw:Hid (∀W,xh w r.cells.toArray k c A ts W→Calls Tryz.prog 16 #[.slice A k c, .int .u8 (r.Dw.toNat:Int), .agg x.cells] W (XM W k r.Dw x ts)):=ae (fun W h=>next_x x r.Dw A c k ts W ((HIT.out.keep h.lo).more h.lo.size) xg.out (by omega) h.chain (fun y hy=>(h.each y hy).made));clear hx hcl hA;go_upto_block 1 with fail
   go_cut [3,4] (fun o p wx=>p=I (k:Nat)∧∃A2 c2 y,o= .slice A2 (k+1) c2∧Qh r (ts++ [y])∧xh w r.cells.toArray (k+1) c2 A2 (ts++ [y]) wx)
   case first=>
    go_upto_region 5 with fail;obtain ⟨V0,hV0⟩:∃V,wr.drew=V:=⟨_,rfl⟩
    go_cut [5] (fun p wx=>∃vb y,p= .pointer (some ⟨vb,0,none⟩)∧Qh r (ts++ [y])∧Ve w r V0 k c A ts vb y wx)
    case first=>
     clear c33;have hS0:yh w r ib io n k x wr.drew:=yh.of oP.out AQ.out JY.out HX0.out.drew.it HX0.out.drew.lo HR.out hib;refine wp_region_held_drew (S:=yh w r ib io n k x) (by kernel_rfl) hS0 (fun _=>?_);have sS:=ae HX0.out.drew;have HB0:Hid (Below wr.drew.heap.size wr.drew wr.drew):=ae (Below.refl _ _);rw [hV0] at sS hS0 HB0 ⊢;refine aH 0 (.pointer (some ⟨w.heap.size,1,none⟩)) 19 hS0 (fun w' hSw=>?_) ?_
     ·obtain ⟨s0,s1,_⟩:=hSw;go_simp
     refine ax ?_;refine aH 2 (.slice A k c) 21 hS0 (fun w' hSw=>?_) ?_
     ·obtain ⟨s0,s1,_⟩:=hSw;go_simp
     refine ax ?_;refine aH 3 (.pointer (some ⟨w.heap.size,0,none⟩)) 22 hS0 (fun w' hSw=>?_) ?_
     ·obtain ⟨s0,s1,_⟩:=hSw;go_simp
     refine ax ?_;refine aH 5 (.pointer (some ⟨w.heap.size,33,none⟩)) 24 hS0 (fun w' hSw=>?_) ?_
     ·obtain ⟨s0,s1,_⟩:=hSw;go_simp
     refine ax ?_;refine aH 7 (I (k:Int)) 26 hS0 (fun w' hSw=>?_) ?_
     ·obtain ⟨s0,s1,_⟩:=hSw;go_simp
     refine ax ?_;refine gJ 1 ( .agg (cD r.key)) 20 rfl rfl hS0 (yieldsIf_load_mid rfl 23 _ rfl w.heap.size (1) rfl (aj r.key) _ (fun _ h=>h.2.2.1) Tryz.underlying23 rfl (by simp only [aj,List.length_map,oP.out];kernel_rfl)) ?_;refine ax ?_;refine aH 4 (.int .u8 (r.Dw.toNat:Int)) 23 hS0 (fun w' hSw=>?_) ?_
     ·obtain ⟨s0,s1,_⟩:=hSw;go_simp
     refine ax ?_;refine aH 6 (.slice (some ⟨ib,io,none⟩) n r.c) 25 hS0 (fun w' hSw=>?_) ?_
     ·obtain ⟨s0,s1,_⟩:=hSw;go_simp
     refine ax ?_;refine aH 8 (.pointer (some ⟨ib,io+k*2,none⟩)) 27 hS0 (fun w' hSw=>?_) ?_
     ·obtain ⟨s0,s1,_⟩:=hSw;go_simp
     refine ax ?_;refine gJ 9 ( .agg x.cells) 28 rfl rfl hS0 (yieldsIf_load_mid rfl 50 _ rfl ib (io+k*2) rfl x.cells.toList _ (fun _ h=>h.2.2.2) Tryz.underlying50 rfl (by kernel_rfl)) ?_;refine ax ?_;refine jG 10 15 (fun K hK=>?_) (fun K hK=>?_)
     ·go_simp;refine (Nw.out V0 sS.out).mono ?_;rintro e W1 ⟨y,rfl,hy1,hm1,hm2,UE,hm4,hm5,hl1,hb1,hkx⟩;have HM:=ae (Jf (by omega) hm1 hm2 UE hm4 hm5);have Yn:Hid (∀d:List UInt8,d.length=32→nS uy r.key (nV y.t)=d→Qh r (ts++ [⟨{y.t with bz:=d},y.A,y.c,y.zs⟩])):=ae (fun d hd hq=>E5.out.snoc xg.out HM.out hy1 hm1 hm2 hkx hd hq);clear hkx;have U9:=ae hy1;have nZ:=ae (show vI V0.heap.size y from hl1.mono HB0.out.size);clear hm1 hm2 UE hm4 hm5 hy1 hl1;have HB1:Hid (Below V0.heap.size V0 W1):=ae (ah HB0.out hb1);have xQ:=ae (sS.out.grow HB1.out);have hS1:yh w r ib io n k x W1:=yh.of oP.out AQ.out JY.out xQ.out.it xQ.out.lo HR.out hib;clear hb1;refine hK.out _ _ hS1 (fun _=>?_);clear hK K;refine ax ?_;refine jG 11 15 (fun K hK=>?_) (fun K hK=>?_)
      ·go_simp;refine (Ce r.key oP.out y W1 U9.out HM.out).mono ?_;rintro e W2 ⟨d,hd,VM,rfl,hb2⟩;have qH:=ae (Yn.out d hd VM);clear VM;have HD:=ae hd;have HYT2:=ae (U9.out.grow hb2);clear hd;have HB2:Hid (Below V0.heap.size V0 W2):=ae (ah HB1.out hb2);have xZ:=ae (sS.out.grow HB2.out);have hS2:yh w r ib io n k x W2:=yh.of oP.out AQ.out JY.out xZ.out.it xZ.out.lo HR.out hib;clear hb2;refine hK.out _ _ hS2 (fun _=>?_);clear hK K;refine ax ?_;refine aH 12 (.tuple #[.agg (ai {y.t with bz:=d} (.slice y.A y.zs.length y.c)), .int .i64 0]) 18 hS2 (fun w' hSw=>?_) ?_
       ·obtain ⟨s0,s1,_⟩:=hSw;go_simp
       refine ax ?_;refine aH 13 (.agg (ai {y.t with bz:=d} (.slice y.A y.zs.length y.c))) 31 hS2 (fun w' hSw=>?_) ?_
       ·obtain ⟨s0,s1,_⟩:=hSw;go_simp
       refine ax ?_;refine aH 14 (.int .i64 0) 32 hS2 (fun w' hSw=>?_) ?_
       ·obtain ⟨s0,s1,_⟩:=hSw;go_simp
       refine ax ?_;refine aU 15 (fun K hK=>?_);refine jh (o:=⟨some 5, .alloc 37,_,_,_,none⟩) rfl 37 rfl (ai bQ (.slice none 0 0)) fM ?_;have HB3:Hid (Below V0.heap.size V0 (W2.alloc (.cells (ai bQ (.slice none 0 0)) 37))):=ae (ah HB2.out (ag W2 _));have yV:=ae (sS.out.grow HB3.out);have hS3:yh w r ib io n k x (W2.alloc (.cells (ai bQ (.slice none 0 0)) 37)):=yh.of oP.out AQ.out JY.out yV.out.it yV.out.lo HR.out hib;have wV:Hid (AV W2.heap.size 37 (ai bQ (.slice none 0 0)) (W2.alloc (.cells (ai bQ (.slice none 0 0)) 37))):=ae (AV.new W2 _ _);obtain ⟨vb3,hve3,hvb3⟩:∃b,W2.heap.size=b∧V0.heap.size≤b:=⟨_,rfl,HB2.out.size⟩;have Za:Hid (iU V0.heap.size (.slice (some ⟨W2.heap.size,0,none⟩) 1 1) (W2.alloc (.cells (ai bQ (.slice none 0 0)) 37)) y):=ae (iU.of (HYT2.out.keep (ag W2 _)) (ag W2 (.cells (ai bQ (.slice none 0 0)) 37)).size nZ.out (Nat.le_refl _) (Oc W2.heap.size));have Va:=ae (HYT2.out.grow (ag W2 (.cells (ai bQ (.slice none 0 0)) 37)));refine hK.out _ _ hS3 (fun _=>?_);clear hK K;refine ax ?_;generalize (W2.alloc (.cells (ai bQ (.slice none 0 0)) 37))=W3 at HB3 yV hS3 wV Za Va ⊢;rw [hve3] at wV Za ⊢;clear hve3;have Ns:Hid ((Tryz.prog.info? 37).map (·.size)=some (ai {y.t with bz:=d} (.slice y.A y.zs.length y.c)).size):=ae (cu {y.t with bz:=d} _ Va.out.prev HD.out);have QA:Hid ((ai bQ (.slice none 0 0)).size=(ai {y.t with bz:=d} (.slice y.A y.zs.length y.c)).size):=ae ((bF bQ _ rfl rfl).trans (bF {y.t with bz:=d} _ Va.out.prev HD.out).symm);refine aU 16 (fun K hK=>?_);refine ji (o:=⟨none, .store 37 (.tmp 5) (.tmp 31),_,_,_,none⟩) rfl 37 _ _ rfl vb3 (ai {y.t with bz:=d} (.slice y.A y.zs.length y.c)) rfl rfl 37 (ai bQ (.slice none 0 0)) wV.out.var Ns.out QA.out (bu _ _ _ _) ?_;have Xt:Hid (Below V0.heap.size V0 (W3.setRow vb3 (ai {y.t with bz:=d} (.slice y.A y.zs.length y.c)))):=ae (aB HB3.out hvb3 _);have JI:=ae (sS.out.grow Xt.out);have Qs:yh w r ib io n k x (W3.setRow vb3 (ai {y.t with bz:=d} (.slice y.A y.zs.length y.c))):=yh.of oP.out AQ.out JY.out JI.out.it JI.out.lo HR.out hib;refine hK.out _ _ Qs (fun _=>?_);clear hK K;try simp only [Act.put]
       refine aH 17 (.int .i64 0) 6 Qs (fun w' hSw=>?_) ?_
       ·obtain ⟨s0,s1,_⟩:=hSw;go_simp
       try simp only [Act.put]
       refine wpAnyH_done (by kernel_rfl) ?_ _;have Qy:Hid (Ve w r V0 k c A ts vb3 ⟨{y.t with bz:=d},y.A,y.c,y.zs⟩ (W3.setRow vb3 (ai {y.t with bz:=d} (.slice y.A y.zs.length y.c)))):=ae (Ve.of sS.out Xt.out (wV.out.pG _) Za.out Va.out HM.out HD.out);go_wp2_with fail;go_meet;exact ⟨_,_,rfl,qH.out,Qy.out⟩
      ·refine jh (o:=⟨some 5, .alloc 37,_,_,_,none⟩) rfl 37 rfl (ai bQ (.slice none 0 0)) fM ?_;have HB4:Hid (Below V0.heap.size V0 (W1.alloc (.cells (ai bQ (.slice none 0 0)) 37))):=ae (ah HB1.out (ag W1 _));have Uz:=ae (sS.out.grow HB4.out);have hS4:yh w r ib io n k x (W1.alloc (.cells (ai bQ (.slice none 0 0)) 37)):=yh.of oP.out AQ.out JY.out Uz.out.it Uz.out.lo HR.out hib;have OM:Hid (AV W1.heap.size 37 (ai bQ (.slice none 0 0)) (W1.alloc (.cells (ai bQ (.slice none 0 0)) 37))):=ae (AV.new W1 _ _);obtain ⟨vb4,hve4,hvb4⟩:∃b,W1.heap.size=b∧V0.heap.size≤b:=⟨_,rfl,HB1.out.size⟩;have Zb:Hid (iU V0.heap.size (.slice (some ⟨W1.heap.size,0,none⟩) 1 1) (W1.alloc (.cells (ai bQ (.slice none 0 0)) 37)) y):=ae (iU.of (U9.out.keep (ag W1 _)) (ag W1 (.cells (ai bQ (.slice none 0 0)) 37)).size nZ.out (Nat.le_refl _) (Oc W1.heap.size));have Y7:=ae (U9.out.grow (ag W1 (.cells (ai bQ (.slice none 0 0)) 37)));refine hK.out _ _ hS4 (fun _=>?_);clear hK K;refine ax ?_;generalize (W1.alloc (.cells (ai bQ (.slice none 0 0)) 37))=W4 at HB4 Uz hS4 OM Zb Y7 ⊢;rw [hve4] at OM Zb ⊢;clear hve4;refine aU 11 (fun K hK=>?_);go_simp;refine (Ce r.key oP.out y W4 Y7.out HM.out).mono ?_;rintro e W5 ⟨d,hd,VM,rfl,hb5⟩;have qH:=ae (Yn.out d hd VM);clear VM;have HD:=ae hd;have Y8:=ae (Y7.out.grow hb5);have HYV5:=ae (Zb.out.grow hb5);clear hd;have oO:Hid (Below V0.heap.size V0 W5):=ae (ah HB4.out hb5);have nY:=ae (sS.out.grow oO.out);have hS5:yh w r ib io n k x W5:=yh.of oP.out AQ.out JY.out nY.out.it nY.out.lo HR.out hib;have HV5:=ae (OM.out.below hb5);clear hb5;refine hK.out _ _ hS5 (fun _=>?_);clear hK K;refine ax ?_;refine aH 12 (.tuple #[.agg (ai {y.t with bz:=d} (.slice y.A y.zs.length y.c)), .int .i64 0]) 18 hS5 (fun w' hSw=>?_) ?_
       ·obtain ⟨s0,s1,_⟩:=hSw;go_simp
       refine ax ?_;refine aH 13 (.agg (ai {y.t with bz:=d} (.slice y.A y.zs.length y.c))) 31 hS5 (fun w' hSw=>?_) ?_
       ·obtain ⟨s0,s1,_⟩:=hSw;go_simp
       refine ax ?_;refine aH 14 (.int .i64 0) 32 hS5 (fun w' hSw=>?_) ?_
       ·obtain ⟨s0,s1,_⟩:=hSw;go_simp
       refine ax ?_;have Ns:Hid ((Tryz.prog.info? 37).map (·.size)=some (ai {y.t with bz:=d} (.slice y.A y.zs.length y.c)).size):=ae (cu {y.t with bz:=d} _ Y8.out.prev HD.out);have QA:Hid ((ai bQ (.slice none 0 0)).size=(ai {y.t with bz:=d} (.slice y.A y.zs.length y.c)).size):=ae ((bF bQ _ rfl rfl).trans (bF {y.t with bz:=d} _ Y8.out.prev HD.out).symm);refine aU 16 (fun K hK=>?_);refine ji (o:=⟨none, .store 37 (.tmp 5) (.tmp 31),_,_,_,none⟩) rfl 37 _ _ rfl vb4 (ai {y.t with bz:=d} (.slice y.A y.zs.length y.c)) rfl rfl 37 (ai bQ (.slice none 0 0)) HV5.out.var Ns.out QA.out (bu _ _ _ _) ?_;have Xt:Hid (Below V0.heap.size V0 (W5.setRow vb4 (ai {y.t with bz:=d} (.slice y.A y.zs.length y.c)))):=ae (aB oO.out hvb4 _);have JI:=ae (sS.out.grow Xt.out);have Qs:yh w r ib io n k x (W5.setRow vb4 (ai {y.t with bz:=d} (.slice y.A y.zs.length y.c))):=yh.of oP.out AQ.out JY.out JI.out.it JI.out.lo HR.out hib;refine hK.out _ _ Qs (fun _=>?_);clear hK K;try simp only [Act.put]
       refine aH 17 (.int .i64 0) 6 Qs (fun w' hSw=>?_) ?_
       ·obtain ⟨s0,s1,_⟩:=hSw;go_simp
       try simp only [Act.put]
       refine wpAnyH_done (by kernel_rfl) ?_ _;have Qy:Hid (Ve w r V0 k c A ts vb4 ⟨{y.t with bz:=d},y.A,y.c,y.zs⟩ (W5.setRow vb4 (ai {y.t with bz:=d} (.slice y.A y.zs.length y.c)))):=ae (Ve.of sS.out Xt.out (HV5.out.pG _) HYV5.out Y8.out HM.out HD.out);go_wp2_with fail;go_meet;exact ⟨_,_,rfl,qH.out,Qy.out⟩
     ·refine jh (o:=⟨some 5, .alloc 37,_,_,_,none⟩) rfl 37 rfl (ai bQ (.slice none 0 0)) fM ?_;have EZ:Hid (Below V0.heap.size V0 (V0.alloc (.cells (ai bQ (.slice none 0 0)) 37))):=ae (ah HB0.out (ag V0 _));have jB:=ae (sS.out.grow EZ.out);have hS6:yh w r ib io n k x (V0.alloc (.cells (ai bQ (.slice none 0 0)) 37)):=yh.of oP.out AQ.out JY.out jB.out.it jB.out.lo HR.out hib;have Uy:Hid (AV V0.heap.size 37 (ai bQ (.slice none 0 0)) (V0.alloc (.cells (ai bQ (.slice none 0 0)) 37))):=ae (AV.new V0 _ _);obtain ⟨vb6,hve6,hvb6⟩:∃b,V0.heap.size=b∧V0.heap.size≤b:=⟨_,rfl,HB0.out.size⟩;refine hK.out _ _ hS6 (fun _=>?_);clear hK K;refine ax ?_;generalize (V0.alloc (.cells (ai bQ (.slice none 0 0)) 37))=W6 at EZ jB hS6 Uy ⊢;rw [hve6] at Uy ⊢;clear hve6;refine aU 10 (fun K hK=>?_);go_simp;refine (Nw.out W6 jB.out).mono ?_;rintro e W7 ⟨y,rfl,hy7,hm1,hm2,UE,hm4,hm5,hl7,hb7,hkx⟩;have HM:=ae (Jf (by omega) hm1 hm2 UE hm4 hm5);have Yn:Hid (∀d:List UInt8,d.length=32→nS uy r.key (nV y.t)=d→Qh r (ts++ [⟨{y.t with bz:=d},y.A,y.c,y.zs⟩])):=ae (fun d hd hq=>E5.out.snoc xg.out HM.out hy7 hm1 hm2 hkx hd hq);clear hkx;have HYT7:=ae hy7;have nZ:=ae (show vI V0.heap.size y from hl7.mono EZ.out.size);have HYV7:Hid (iU V0.heap.size (.slice (some ⟨vb6,0,none⟩) 1 1) W7 y):=ae (iU.of hy7 (Nat.le_refl _) hl7 EZ.out.size (V6 Uy.out.lt));clear hm1 hm2 UE hm4 hm5 hy7 hl7;have qy:Hid (Below V0.heap.size V0 W7):=ae (ah EZ.out hb7);have iy:=ae (sS.out.grow qy.out);have hS7:yh w r ib io n k x W7:=yh.of oP.out AQ.out JY.out iy.out.it iy.out.lo HR.out hib;have HV7:=ae (Uy.out.below hb7);clear hb7;refine hK.out _ _ hS7 (fun _=>?_);clear hK K;refine ax ?_;refine aU 11 (fun K hK=>?_);go_simp;refine (Ce r.key oP.out y W7 HYT7.out HM.out).mono ?_;rintro e W8 ⟨d,hd,VM,rfl,hb8⟩;have qH:=ae (Yn.out d hd VM);clear VM;have HD:=ae hd;have Y9:=ae (HYT7.out.grow hb8);have HYV8:=ae (HYV7.out.grow hb8);clear hd;have Uo:Hid (Below V0.heap.size V0 W8):=ae (ah qy.out hb8);have yc:=ae (sS.out.grow Uo.out);have hS8:yh w r ib io n k x W8:=yh.of oP.out AQ.out JY.out yc.out.it yc.out.lo HR.out hib;have YY:=ae (HV7.out.below hb8);clear hb8;refine hK.out _ _ hS8 (fun _=>?_);clear hK K;refine ax ?_;refine aH 12 (.tuple #[.agg (ai {y.t with bz:=d} (.slice y.A y.zs.length y.c)), .int .i64 0]) 18 hS8 (fun w' hSw=>?_) ?_
      ·obtain ⟨s0,s1,_⟩:=hSw;go_simp
      refine ax ?_;refine aH 13 (.agg (ai {y.t with bz:=d} (.slice y.A y.zs.length y.c))) 31 hS8 (fun w' hSw=>?_) ?_
      ·obtain ⟨s0,s1,_⟩:=hSw;go_simp
      refine ax ?_;refine aH 14 (.int .i64 0) 32 hS8 (fun w' hSw=>?_) ?_
      ·obtain ⟨s0,s1,_⟩:=hSw;go_simp
      refine ax ?_;have Ns:Hid ((Tryz.prog.info? 37).map (·.size)=some (ai {y.t with bz:=d} (.slice y.A y.zs.length y.c)).size):=ae (cu {y.t with bz:=d} _ Y9.out.prev HD.out);have QA:Hid ((ai bQ (.slice none 0 0)).size=(ai {y.t with bz:=d} (.slice y.A y.zs.length y.c)).size):=ae ((bF bQ _ rfl rfl).trans (bF {y.t with bz:=d} _ Y9.out.prev HD.out).symm);refine aU 16 (fun K hK=>?_);refine ji (o:=⟨none, .store 37 (.tmp 5) (.tmp 31),_,_,_,none⟩) rfl 37 _ _ rfl vb6 (ai {y.t with bz:=d} (.slice y.A y.zs.length y.c)) rfl rfl 37 (ai bQ (.slice none 0 0)) YY.out.var Ns.out QA.out (bu _ _ _ _) ?_;have Xt:Hid (Below V0.heap.size V0 (W8.setRow vb6 (ai {y.t with bz:=d} (.slice y.A y.zs.length y.c)))):=ae (aB Uo.out hvb6 _);have JI:=ae (sS.out.grow Xt.out);have Qs:yh w r ib io n k x (W8.setRow vb6 (ai {y.t with bz:=d} (.slice y.A y.zs.length y.c))):=yh.of oP.out AQ.out JY.out JI.out.it JI.out.lo HR.out hib;refine hK.out _ _ Qs (fun _=>?_);clear hK K;try simp only [Act.put]
      refine aH 17 (.int .i64 0) 6 Qs (fun w' hSw=>?_) ?_
      ·obtain ⟨s0,s1,_⟩:=hSw;go_simp
      try simp only [Act.put]
      refine wpAnyH_done (by kernel_rfl) ?_ _;have Qy:Hid (Ve w r V0 k c A ts vb6 ⟨{y.t with bz:=d},y.A,y.c,y.zs⟩ (W8.setRow vb6 (ai {y.t with bz:=d} (.slice y.A y.zs.length y.c)))):=ae (Ve.of sS.out Xt.out (YY.out.pG _) HYV8.out Y9.out HM.out HD.out);go_wp2_with fail;go_meet;exact ⟨_,_,rfl,qH.out,Qy.out⟩
    case rest=>
     obtain ⟨vb,y,rfl,hcy,ht⟩:=hcut;have qH:=ae hcy;clear hcy;have HT:=ae ht;have ed:Hid ((Tryz.prog.info? 37).map (·.size)=some (ai y.t (.slice y.A y.zs.length y.c)).size):=ae (cu y.t _ ht.each.prev ht.each.bz);have H68:Hid ((ai y.t (.slice y.A y.zs.length y.c)).size=68):=ae (bF y.t _ ht.each.prev ht.each.bz);have hlt:=ht.md.lt;obtain ⟨i0,hi,hq0,hq1,hq2⟩:=info_parts rQ;have HI:=ae hi;have zZ:=ae hq0;have qB:=ae hq1;have mV:=ae hq2;have HY68:=ae ht.each.size;clear ht hi hq0 hq1 hq2 HX0 c33 hV0;go_wp2_with (first
      |((with_reducible refine fA 37 ?_);go_must (refine aQ rfl _ _ rfl vb rfl (ai y.t (.slice y.A y.zs.length y.c)) HT.out.var.jg _ Tryz.underlying37 rfl ed.out ?_))
      |((with_reducible refine rO 28 ?_);go_must (refine wQ rfl _ rfl (ai y.t (.slice y.A y.zs.length y.c)) H68.out rfl ?_))
      |(at_builtin;go_must (refine wpList_append_lies _ rfl _ _ 28 rfl (w.heap.size+1) 37 i0 (.agg (ai bQ (.slice none 0 0))) 68 112 Tryz.underlying28 HI.out zZ.out qB.out mV.out rfl (by decide) (.slice A k c) k (ts.flatMap dI.cells) rfl (own_below HT.out.md.own (ag wc _)) ⟨wc.heap.size,0,none⟩ 1 1 y.cells rfl HY68.out (bJ _ _ _ _ rfl) (WC y) (by omega) (by unfold maxLen;omega) (by omega) (by simp;omega) _ rfl ?_;intro gg cap w6 hown6 hgrow6 fF _;have HN:Hid (xh w r.cells.toArray (k+1) cap (some ⟨gg,0,none⟩) (ts++ [y]) w6):=ae (HT.out.md.add HT.out.mem HT.out.each rfl hown6 hgrow6 fF);clear hown6 hgrow6 fF)))
     go_meet;exact ⟨rfl,some ⟨gg,0,none⟩,cap,y,rfl,qH.out,HN.out⟩
   case rest=>
    obtain ⟨rfl,A2,c2,y,rfl,hcy,hw2⟩:=hcut;have qH:=ae hcy;clear hcy;have HW2:=ae hw2;clear hw2 HX0;go_wp2_with fail;go_roundw
    case rel=>exact ⟨k+1,c2,A2,_,by omega,by omega,rfl,by go_num,by rw [aZ,xg.out];rfl,qH.out,HW2.out⟩
    case measure=>simp [intOf];omega
  ·have hex:¬(k:Int)<(n:Int)∨((k:Int)<(n:Int)∧¬(k:Int)<5):=by omega
   rcases hex with h1|⟨h1,h2⟩
   all_goals
    go_wp2_with fail;go_ret;exact ⟨A,k,c,ts,rfl,xg.out,hk5,HX0.out.cap,HX0.out.chain,E5.out,HX0.out.fin,HX0.out.lo⟩
end Go.Proofs.YtdibbemgpikgjaaGreatDoor
