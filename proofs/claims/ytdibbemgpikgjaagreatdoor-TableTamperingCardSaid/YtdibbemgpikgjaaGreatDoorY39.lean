/- The texts Ei, in this order. -/
import Derived.Test.YtdibbemgpikgjaaGreatDoorY00
import Derived.Test.YtdibbemgpikgjaaGreatDoorY31
import Derived.Test.YtdibbemgpikgjaaGreatDoorY32
import Derived.Test.YtdibbemgpikgjaaGreatDoorY35
import Derived.Test.YtdibbemgpikgjaaGreatDoorY38
set_option maxRecDepth 10000
set_option maxHeartbeats 8000000
namespace Go.Proofs.YtdibbemgpikgjaaGreatDoor
open Go Go.RowKit
structure QD (r:l9) (ts:List bI):Prop where
 adm:jT um r.key ts
 good:∀x∈ts,jr x
 made:∀x∈ts,FN x.t
 DC:∀x∈ts,x.t.aP=(r.DC.toNat:Int)%16
 shape:∀x∈ts,TbS x
theorem QD.nil {r:l9}:QD r []:=⟨jT.nil,(fun _ h=>nomatch h),(fun _ h=>nomatch h),(fun _ h=>nomatch h),fun _ h=>nomatch h⟩
theorem QD.snoc {r:l9} {ts:List bI} {k:Nat} {y:bI} {W:World} {B:Nat} (h:QD r ts) (hk:ts.length=k) (hM:FN y.t) (hy:jE W B y) (hi:y.t.aP=(r.DC.toNat:Int)%16) (hv:y.t.version=(k:Int)+1) (hl:(∀z,ts[k - 1]? =some z→fH um (mQ z.t++z.t.bn)=y.t.prev)∧TbS y)
  {d:List UInt8} (hd:d.length=32) (hq:sN um r.key (mQ y.t)=d):QD r (ts++ [⟨{y.t with bn:=d},y.A,y.c,y.zs⟩]):=by
 have hg:jr ⟨{y.t with bn:=d},y.A,y.c,y.zs⟩:=⟨(hM.MM d).good hy.prev hd,hM.up hy.names⟩;have he:mQ {y.t with bn:=d}=mQ y.t:=by
  unfold mQ;rfl
 have ha:kK um r.key ts {y.t with bn:=d}=0:=by
  refine Ip ?_ ?_ fun z hz=>?_
  ·rw [he,hq]
  ·rw [hk];exact hv
  ·rw [hk] at hz;exact ⟨hl.1 z hz,(h.DC z (dS hz)).trans hi.symm⟩
 refine ⟨h.adm.snoc ha,fun x hx=>?_,fun x hx=>?_,fun x hx=>?_,fun x hx=>?_⟩
 ·rcases List.mem_append.1 hx with h1|h1
  ·exact h.good x h1
  ·obtain rfl:=List.mem_singleton.1 h1;exact hg
 ·rcases List.mem_append.1 hx with h1|h1
  ·exact h.made x h1
  ·obtain rfl:=List.mem_singleton.1 h1;exact hM.MM d
 ·rcases List.mem_append.1 hx with h1|h1
  ·exact h.DC x h1
  ·obtain rfl:=List.mem_singleton.1 h1;exact hi
 ·rcases List.mem_append.1 hx with h1|h1
  ·exact h.shape x h1
  ·obtain rfl:=List.mem_singleton.1 h1;exact hl.2
theorem vT.cap {w W:World} {rc:Array Value} {k c:Nat} {A:Option Addr} {ts:List bI} (h:vT w rc k c A ts W):k≤c:=WX h.own
theorem vT.form {w W:World} {rc:Array Value} {k c:Nat} {A:Option Addr} {ts:List bI} (h:vT w rc k c A ts W):(A=none∧k=0∧c=0)∨∃b off,A=some ⟨b,off,none⟩:=by
 rcases h.own.2 with ⟨hv,_⟩|⟨g,cap,cur,hv,_⟩
 ·injection hv with e0 e1 e2;exact .inl ⟨e0,e1,e2⟩
 ·injection hv with e0 _ _;exact .inr ⟨g,0,e0⟩
def Rz (w:World) (r:l9) (e:Ending) (w':World):Prop:=
 ∃A n c ts,e= .returned (.slice A n c)∧ts.length=n∧n≤5∧n≤c∧gq w' w'.heap.size A ts∧QD r ts∧(XR w.heap.size A ts∧((A=none∧n=0∧c=0)∨∃b off,A=some ⟨b,off,none⟩))∧Below w.heap.size w w'
theorem TN (r:l9) (w:World) (hr:vw w w.heap.size r):
  Calls Tryz.prog 7 #[.agg r.cells.toArray] w (Rz w r):=by
 have oJ:=ae hr.key;have hnl:=hr.len;obtain ⟨n,hn⟩:∃n,r.its.length=n:=⟨_,rfl⟩;rw [hn] at hnl;have Bf:=ae hn;have HRR:=ae hr;have H0:Hid (vT w r.cells.toArray 0 0 none [] (w.alloc (.cells r.cells.toArray 26))):=ae ⟨AV.new w _ _,ag w _,World.ownsRow_nil _ _ _ _,(fun _ h=>nomatch h),(fun _ h=>nomatch h)⟩;clear hr hn;go_enter Tryz.func7,Tryz.ntmps7;go_wp2_with fail;generalize w.alloc (.cells r.cells.toArray 26)=W0 at H0 ⊢
 go_loopw [3,4] (fun o i wr=>∃(k c:Nat) (A:Option Addr) (ts:List bI),k≤5∧k≤n∧o= .slice A k c∧i=I (k:Nat)∧ts.length=k∧QD r ts∧vT w r.cells.toArray k c A ts wr) (fun _ i _=>5 - (intOf i).toNat)
 case atStart=>exact ⟨0,0,none,[],by omega,by omega,rfl,rfl,rfl,QD.nil,H0.out⟩
 case round=>
  clear H0;obtain ⟨k,c,A,ts,hk5,hkn,rfl,rfl,htl,hcx,hw⟩:=hrel;have Ej:=ae hcx;clear hcx;have HX0:=ae hw;have wP:=ae htl;clear hw htl;have c33:wr.cell? ⟨w.heap.size,33,none⟩=some (.slice r.A n r.c):=(HX0.out.it.cell 33).trans (by rw [OD r oJ.out,Bf.out]);by_cases hlt:k<n∧k<5
  ·obtain ⟨hln,hl5⟩:=hlt;have i1:(k:Int)<(n:Int):=by omega
   have i2:(k:Int)<5:=by omega
   obtain ⟨x,hx⟩:∃x,r.its[k]? =some x:=⟨_,bZ (by rw [Bf.out];exact hln)⟩;obtain ⟨ib,io,hA,hib,hcl⟩:=HRR.out.row.there (by rw [dD (fun x:Ih=>x.cells.toList) r.its (show∀x∈r.its,x.cells.toList.length=2 from fun _ _=>rfl),Bf.out];omega);have Kq:=ae hA;have HR:Hid (w.rangeAt ib (io+k*2) x.cells.toList):=ae (aA.elem (s:=2) (f:=fun x:Ih=>x.cells.toList) (fun _ _=>rfl) hcl k x hx);have HIT:=ae (HRR.out.each x (dS hx));rw [hA] at c33;have NM:Hid (∀W,vT w r.cells.toArray k c A ts W→Calls Tryz.prog 16 #[.slice A k c, .int .u8 (r.DC.toNat:Int), .agg x.cells] W (Ym W k r.DC x ts)):=ae (fun W h=>next_x x r.DC A c k ts W ((HIT.out.keep h.lo).more h.lo.size) wP.out (by omega) h.chain (fun y hy=>(h.each y hy).made));clear hx hcl hA;go_upto_block 1 with fail
   go_cut [3,4] (fun o p wx=>p=I (k:Nat)∧∃A2 c2 y,o= .slice A2 (k+1) c2∧QD r (ts++ [y])∧vT w r.cells.toArray (k+1) c2 A2 (ts++ [y]) wx)
   case first=>
    go_upto_region 5 with fail;obtain ⟨V0,hV0⟩:∃V,wr.drew=V:=⟨_,rfl⟩
    go_cut [5] (fun p wx=>∃vb y,p= .pointer (some ⟨vb,0,none⟩)∧QD r (ts++ [y])∧VF w r V0 k c A ts vb y wx)
    case first=>
     clear c33;have hS0:yg w r ib io n k x wr.drew:=yg.of oJ.out Bf.out Kq.out HX0.out.drew.it HX0.out.drew.lo HR.out hib;refine wp_region_held_drew (S:=yg w r ib io n k x) (by kernel_rfl) hS0 (fun _=>?_);have sJ:=ae HX0.out.drew;have HB0:Hid (Below wr.drew.heap.size wr.drew wr.drew):=ae (Below.refl _ _);rw [hV0] at sJ hS0 HB0 ⊢;refine aJ 0 (.pointer (some ⟨w.heap.size,1,none⟩)) 19 hS0 (fun w' hSw=>?_) ?_
     ·obtain ⟨s0,s1,_⟩:=hSw;go_simp
     refine ax ?_;refine aJ 2 (.slice A k c) 21 hS0 (fun w' hSw=>?_) ?_
     ·obtain ⟨s0,s1,_⟩:=hSw;go_simp
     refine ax ?_;refine aJ 3 (.pointer (some ⟨w.heap.size,0,none⟩)) 22 hS0 (fun w' hSw=>?_) ?_
     ·obtain ⟨s0,s1,_⟩:=hSw;go_simp
     refine ax ?_;refine aJ 5 (.pointer (some ⟨w.heap.size,33,none⟩)) 24 hS0 (fun w' hSw=>?_) ?_
     ·obtain ⟨s0,s1,_⟩:=hSw;go_simp
     refine ax ?_;refine aJ 7 (I (k:Int)) 26 hS0 (fun w' hSw=>?_) ?_
     ·obtain ⟨s0,s1,_⟩:=hSw;go_simp
     refine ax ?_;refine gI 1 ( .agg (cD r.key)) 20 rfl rfl hS0 (yieldsIf_load_mid rfl 23 _ rfl w.heap.size (1) rfl (aj r.key) _ (fun _ h=>h.2.2.1) Tryz.underlying23 rfl (by simp only [aj,List.length_map,oJ.out];kernel_rfl)) ?_;refine ax ?_;refine aJ 4 (.int .u8 (r.DC.toNat:Int)) 23 hS0 (fun w' hSw=>?_) ?_
     ·obtain ⟨s0,s1,_⟩:=hSw;go_simp
     refine ax ?_;refine aJ 6 (.slice (some ⟨ib,io,none⟩) n r.c) 25 hS0 (fun w' hSw=>?_) ?_
     ·obtain ⟨s0,s1,_⟩:=hSw;go_simp
     refine ax ?_;refine aJ 8 (.pointer (some ⟨ib,io+k*2,none⟩)) 27 hS0 (fun w' hSw=>?_) ?_
     ·obtain ⟨s0,s1,_⟩:=hSw;go_simp
     refine ax ?_;refine gI 9 ( .agg x.cells) 28 rfl rfl hS0 (yieldsIf_load_mid rfl 50 _ rfl ib (io+k*2) rfl x.cells.toList _ (fun _ h=>h.2.2.2) Tryz.underlying50 rfl (by kernel_rfl)) ?_;refine ax ?_;refine kW 10 15 (fun K hK=>?_) (fun K hK=>?_)
     ·go_simp;refine (NM.out V0 sJ.out).mono ?_;rintro e W1 ⟨y,rfl,hy1,hm1,hm2,U3,hm4,hm5,hl1,hb1,hkx⟩;have HM:=ae (Js (by omega) hm1 hm2 U3 hm4 hm5);have QH:Hid (∀d:List UInt8,d.length=32→sN um r.key (mQ y.t)=d→QD r (ts++ [⟨{y.t with bn:=d},y.A,y.c,y.zs⟩])):=ae (fun d hd hq=>Ej.out.snoc wP.out HM.out hy1 hm1 hm2 hkx hd hq);clear hkx;have VC:=ae hy1;have nI:=ae (show vC V0.heap.size y from hl1.mono HB0.out.size);clear hm1 hm2 U3 hm4 hm5 hy1 hl1;have HB1:Hid (Below V0.heap.size V0 W1):=ae (ah HB0.out hb1);have wR:=ae (sJ.out.grow HB1.out);have hS1:yg w r ib io n k x W1:=yg.of oJ.out Bf.out Kq.out wR.out.it wR.out.lo HR.out hib;clear hb1;refine hK.out _ _ hS1 (fun _=>?_);clear hK K;refine ax ?_;refine kW 11 15 (fun K hK=>?_) (fun K hK=>?_)
      ·go_simp;refine (CG r.key oJ.out y W1 VC.out HM.out).mono ?_;rintro e W2 ⟨d,hd,Wp,rfl,hb2⟩;have qE:=ae (QH.out d hd Wp);clear Wp;have HD:=ae hd;have HYT2:=ae (VC.out.grow hb2);clear hd;have HB2:Hid (Below V0.heap.size V0 W2):=ae (ah HB1.out hb2);have wS:=ae (sJ.out.grow HB2.out);have hS2:yg w r ib io n k x W2:=yg.of oJ.out Bf.out Kq.out wS.out.it wS.out.lo HR.out hib;clear hb2;refine hK.out _ _ hS2 (fun _=>?_);clear hK K;refine ax ?_;refine aJ 12 (.tuple #[.agg (ai {y.t with bn:=d} (.slice y.A y.zs.length y.c)), .int .i64 0]) 18 hS2 (fun w' hSw=>?_) ?_
       ·obtain ⟨s0,s1,_⟩:=hSw;go_simp
       refine ax ?_;refine aJ 13 (.agg (ai {y.t with bn:=d} (.slice y.A y.zs.length y.c))) 31 hS2 (fun w' hSw=>?_) ?_
       ·obtain ⟨s0,s1,_⟩:=hSw;go_simp
       refine ax ?_;refine aJ 14 (.int .i64 0) 32 hS2 (fun w' hSw=>?_) ?_
       ·obtain ⟨s0,s1,_⟩:=hSw;go_simp
       refine ax ?_;refine aW 15 (fun K hK=>?_);refine jd (o:=⟨some 5, .alloc 37,_,_,_,none⟩) rfl 37 rfl (ai bQ (.slice none 0 0)) fO ?_;have HB3:Hid (Below V0.heap.size V0 (W2.alloc (.cells (ai bQ (.slice none 0 0)) 37))):=ae (ah HB2.out (ag W2 _));have yS:=ae (sJ.out.grow HB3.out);have hS3:yg w r ib io n k x (W2.alloc (.cells (ai bQ (.slice none 0 0)) 37)):=yg.of oJ.out Bf.out Kq.out yS.out.it yS.out.lo HR.out hib;have wQ:Hid (AV W2.heap.size 37 (ai bQ (.slice none 0 0)) (W2.alloc (.cells (ai bQ (.slice none 0 0)) 37))):=ae (AV.new W2 _ _);obtain ⟨vb3,hve3,hvb3⟩:∃b,W2.heap.size=b∧V0.heap.size≤b:=⟨_,rfl,HB2.out.size⟩;have ZT:Hid (iQ V0.heap.size (.slice (some ⟨W2.heap.size,0,none⟩) 1 1) (W2.alloc (.cells (ai bQ (.slice none 0 0)) 37)) y):=ae (iQ.of (HYT2.out.keep (ag W2 _)) (ag W2 (.cells (ai bQ (.slice none 0 0)) 37)).size nI.out (Nat.le_refl _) (Ox W2.heap.size));have VD:=ae (HYT2.out.grow (ag W2 (.cells (ai bQ (.slice none 0 0)) 37)));refine hK.out _ _ hS3 (fun _=>?_);clear hK K;refine ax ?_;generalize (W2.alloc (.cells (ai bQ (.slice none 0 0)) 37))=W3 at HB3 yS hS3 wQ ZT VD ⊢;rw [hve3] at wQ ZT ⊢;clear hve3;have Q5:Hid ((Tryz.prog.info? 37).map (·.size)=some (ai {y.t with bn:=d} (.slice y.A y.zs.length y.c)).size):=ae (bU {y.t with bn:=d} _ VD.out.prev HD.out);have Q4:Hid ((ai bQ (.slice none 0 0)).size=(ai {y.t with bn:=d} (.slice y.A y.zs.length y.c)).size):=ae ((bF bQ _ rfl rfl).trans (bF {y.t with bn:=d} _ VD.out.prev HD.out).symm);refine aW 16 (fun K hK=>?_);refine je (o:=⟨none, .store 37 (.tmp 5) (.tmp 31),_,_,_,none⟩) rfl 37 _ _ rfl vb3 (ai {y.t with bn:=d} (.slice y.A y.zs.length y.c)) rfl rfl 37 (ai bQ (.slice none 0 0)) wQ.out.var Q5.out Q4.out (bz _ _ _ _) ?_;have QF:Hid (Below V0.heap.size V0 (W3.setRow vb3 (ai {y.t with bn:=d} (.slice y.A y.zs.length y.c)))):=ae (aB HB3.out hvb3 _);have JV:=ae (sJ.out.grow QF.out);have QS:yg w r ib io n k x (W3.setRow vb3 (ai {y.t with bn:=d} (.slice y.A y.zs.length y.c))):=yg.of oJ.out Bf.out Kq.out JV.out.it JV.out.lo HR.out hib;refine hK.out _ _ QS (fun _=>?_);clear hK K;try simp only [Act.put]
       refine aJ 17 (.int .i64 0) 6 QS (fun w' hSw=>?_) ?_
       ·obtain ⟨s0,s1,_⟩:=hSw;go_simp
       try simp only [Act.put]
       refine wpAnyH_done (by kernel_rfl) ?_ _;have QZ:Hid (VF w r V0 k c A ts vb3 ⟨{y.t with bn:=d},y.A,y.c,y.zs⟩ (W3.setRow vb3 (ai {y.t with bn:=d} (.slice y.A y.zs.length y.c)))):=ae (VF.of sJ.out QF.out (wQ.out.oZ _) ZT.out VD.out HM.out HD.out);go_wp2_with fail;go_meet;exact ⟨_,_,rfl,qE.out,QZ.out⟩
      ·refine jd (o:=⟨some 5, .alloc 37,_,_,_,none⟩) rfl 37 rfl (ai bQ (.slice none 0 0)) fO ?_;have HB4:Hid (Below V0.heap.size V0 (W1.alloc (.cells (ai bQ (.slice none 0 0)) 37))):=ae (ah HB1.out (ag W1 _));have UY:=ae (sJ.out.grow HB4.out);have hS4:yg w r ib io n k x (W1.alloc (.cells (ai bQ (.slice none 0 0)) 37)):=yg.of oJ.out Bf.out Kq.out UY.out.it UY.out.lo HR.out hib;have O9:Hid (AV W1.heap.size 37 (ai bQ (.slice none 0 0)) (W1.alloc (.cells (ai bQ (.slice none 0 0)) 37))):=ae (AV.new W1 _ _);obtain ⟨vb4,hve4,hvb4⟩:∃b,W1.heap.size=b∧V0.heap.size≤b:=⟨_,rfl,HB1.out.size⟩;have ZU:Hid (iQ V0.heap.size (.slice (some ⟨W1.heap.size,0,none⟩) 1 1) (W1.alloc (.cells (ai bQ (.slice none 0 0)) 37)) y):=ae (iQ.of (VC.out.keep (ag W1 _)) (ag W1 (.cells (ai bQ (.slice none 0 0)) 37)).size nI.out (Nat.le_refl _) (Ox W1.heap.size));have ZN:=ae (VC.out.grow (ag W1 (.cells (ai bQ (.slice none 0 0)) 37)));refine hK.out _ _ hS4 (fun _=>?_);clear hK K;refine ax ?_;generalize (W1.alloc (.cells (ai bQ (.slice none 0 0)) 37))=W4 at HB4 UY hS4 O9 ZU ZN ⊢;rw [hve4] at O9 ZU ⊢;clear hve4;refine aW 11 (fun K hK=>?_);go_simp;refine (CG r.key oJ.out y W4 ZN.out HM.out).mono ?_;rintro e W5 ⟨d,hd,Wp,rfl,hb5⟩;have qE:=ae (QH.out d hd Wp);clear Wp;have HD:=ae hd;have ZP:=ae (ZN.out.grow hb5);have HYV5:=ae (ZU.out.grow hb5);clear hd;have pO:Hid (Below V0.heap.size V0 W5):=ae (ah HB4.out hb5);have xY:=ae (sJ.out.grow pO.out);have hS5:yg w r ib io n k x W5:=yg.of oJ.out Bf.out Kq.out xY.out.it xY.out.lo HR.out hib;have HV5:=ae (O9.out.below hb5);clear hb5;refine hK.out _ _ hS5 (fun _=>?_);clear hK K;refine ax ?_;refine aJ 12 (.tuple #[.agg (ai {y.t with bn:=d} (.slice y.A y.zs.length y.c)), .int .i64 0]) 18 hS5 (fun w' hSw=>?_) ?_
       ·obtain ⟨s0,s1,_⟩:=hSw;go_simp
       refine ax ?_;refine aJ 13 (.agg (ai {y.t with bn:=d} (.slice y.A y.zs.length y.c))) 31 hS5 (fun w' hSw=>?_) ?_
       ·obtain ⟨s0,s1,_⟩:=hSw;go_simp
       refine ax ?_;refine aJ 14 (.int .i64 0) 32 hS5 (fun w' hSw=>?_) ?_
       ·obtain ⟨s0,s1,_⟩:=hSw;go_simp
       refine ax ?_;have Q5:Hid ((Tryz.prog.info? 37).map (·.size)=some (ai {y.t with bn:=d} (.slice y.A y.zs.length y.c)).size):=ae (bU {y.t with bn:=d} _ ZP.out.prev HD.out);have Q4:Hid ((ai bQ (.slice none 0 0)).size=(ai {y.t with bn:=d} (.slice y.A y.zs.length y.c)).size):=ae ((bF bQ _ rfl rfl).trans (bF {y.t with bn:=d} _ ZP.out.prev HD.out).symm);refine aW 16 (fun K hK=>?_);refine je (o:=⟨none, .store 37 (.tmp 5) (.tmp 31),_,_,_,none⟩) rfl 37 _ _ rfl vb4 (ai {y.t with bn:=d} (.slice y.A y.zs.length y.c)) rfl rfl 37 (ai bQ (.slice none 0 0)) HV5.out.var Q5.out Q4.out (bz _ _ _ _) ?_;have QF:Hid (Below V0.heap.size V0 (W5.setRow vb4 (ai {y.t with bn:=d} (.slice y.A y.zs.length y.c)))):=ae (aB pO.out hvb4 _);have JV:=ae (sJ.out.grow QF.out);have QS:yg w r ib io n k x (W5.setRow vb4 (ai {y.t with bn:=d} (.slice y.A y.zs.length y.c))):=yg.of oJ.out Bf.out Kq.out JV.out.it JV.out.lo HR.out hib;refine hK.out _ _ QS (fun _=>?_);clear hK K;try simp only [Act.put]
       refine aJ 17 (.int .i64 0) 6 QS (fun w' hSw=>?_) ?_
       ·obtain ⟨s0,s1,_⟩:=hSw;go_simp
       try simp only [Act.put]
       refine wpAnyH_done (by kernel_rfl) ?_ _;have QZ:Hid (VF w r V0 k c A ts vb4 ⟨{y.t with bn:=d},y.A,y.c,y.zs⟩ (W5.setRow vb4 (ai {y.t with bn:=d} (.slice y.A y.zs.length y.c)))):=ae (VF.of sJ.out QF.out (HV5.out.oZ _) HYV5.out ZP.out HM.out HD.out);go_wp2_with fail;go_meet;exact ⟨_,_,rfl,qE.out,QZ.out⟩
     ·refine jd (o:=⟨some 5, .alloc 37,_,_,_,none⟩) rfl 37 rfl (ai bQ (.slice none 0 0)) fO ?_;have G8:Hid (Below V0.heap.size V0 (V0.alloc (.cells (ai bQ (.slice none 0 0)) 37))):=ae (ah HB0.out (ag V0 _));have qw:=ae (sJ.out.grow G8.out);have hS6:yg w r ib io n k x (V0.alloc (.cells (ai bQ (.slice none 0 0)) 37)):=yg.of oJ.out Bf.out Kq.out qw.out.it qw.out.lo HR.out hib;have UX:Hid (AV V0.heap.size 37 (ai bQ (.slice none 0 0)) (V0.alloc (.cells (ai bQ (.slice none 0 0)) 37))):=ae (AV.new V0 _ _);obtain ⟨vb6,hve6,hvb6⟩:∃b,V0.heap.size=b∧V0.heap.size≤b:=⟨_,rfl,HB0.out.size⟩;refine hK.out _ _ hS6 (fun _=>?_);clear hK K;refine ax ?_;generalize (V0.alloc (.cells (ai bQ (.slice none 0 0)) 37))=W6 at G8 qw hS6 UX ⊢;rw [hve6] at UX ⊢;clear hve6;refine aW 10 (fun K hK=>?_);go_simp;refine (NM.out W6 qw.out).mono ?_;rintro e W7 ⟨y,rfl,hy7,hm1,hm2,U3,hm4,hm5,hl7,hb7,hkx⟩;have HM:=ae (Js (by omega) hm1 hm2 U3 hm4 hm5);have QH:Hid (∀d:List UInt8,d.length=32→sN um r.key (mQ y.t)=d→QD r (ts++ [⟨{y.t with bn:=d},y.A,y.c,y.zs⟩])):=ae (fun d hd hq=>Ej.out.snoc wP.out HM.out hy7 hm1 hm2 hkx hd hq);clear hkx;have HYT7:=ae hy7;have nI:=ae (show vC V0.heap.size y from hl7.mono G8.out.size);have HYV7:Hid (iQ V0.heap.size (.slice (some ⟨vb6,0,none⟩) 1 1) W7 y):=ae (iQ.of hy7 (Nat.le_refl _) hl7 G8.out.size (WV UX.out.lt));clear hm1 hm2 U3 hm4 hm5 hy7 hl7;have qC:Hid (Below V0.heap.size V0 W7):=ae (ah G8.out hb7);have jh:=ae (sJ.out.grow qC.out);have hS7:yg w r ib io n k x W7:=yg.of oJ.out Bf.out Kq.out jh.out.it jh.out.lo HR.out hib;have HV7:=ae (UX.out.below hb7);clear hb7;refine hK.out _ _ hS7 (fun _=>?_);clear hK K;refine ax ?_;refine aW 11 (fun K hK=>?_);go_simp;refine (CG r.key oJ.out y W7 HYT7.out HM.out).mono ?_;rintro e W8 ⟨d,hd,Wp,rfl,hb8⟩;have qE:=ae (QH.out d hd Wp);clear Wp;have HD:=ae hd;have ZQ:=ae (HYT7.out.grow hb8);have HYV8:=ae (HYV7.out.grow hb8);clear hd;have O1:Hid (Below V0.heap.size V0 W8):=ae (ah qC.out hb8);have KF:=ae (sJ.out.grow O1.out);have hS8:yg w r ib io n k x W8:=yg.of oJ.out Bf.out Kq.out KF.out.it KF.out.lo HR.out hib;have ZC:=ae (HV7.out.below hb8);clear hb8;refine hK.out _ _ hS8 (fun _=>?_);clear hK K;refine ax ?_;refine aJ 12 (.tuple #[.agg (ai {y.t with bn:=d} (.slice y.A y.zs.length y.c)), .int .i64 0]) 18 hS8 (fun w' hSw=>?_) ?_
      ·obtain ⟨s0,s1,_⟩:=hSw;go_simp
      refine ax ?_;refine aJ 13 (.agg (ai {y.t with bn:=d} (.slice y.A y.zs.length y.c))) 31 hS8 (fun w' hSw=>?_) ?_
      ·obtain ⟨s0,s1,_⟩:=hSw;go_simp
      refine ax ?_;refine aJ 14 (.int .i64 0) 32 hS8 (fun w' hSw=>?_) ?_
      ·obtain ⟨s0,s1,_⟩:=hSw;go_simp
      refine ax ?_;have Q5:Hid ((Tryz.prog.info? 37).map (·.size)=some (ai {y.t with bn:=d} (.slice y.A y.zs.length y.c)).size):=ae (bU {y.t with bn:=d} _ ZQ.out.prev HD.out);have Q4:Hid ((ai bQ (.slice none 0 0)).size=(ai {y.t with bn:=d} (.slice y.A y.zs.length y.c)).size):=ae ((bF bQ _ rfl rfl).trans (bF {y.t with bn:=d} _ ZQ.out.prev HD.out).symm);refine aW 16 (fun K hK=>?_);refine je (o:=⟨none, .store 37 (.tmp 5) (.tmp 31),_,_,_,none⟩) rfl 37 _ _ rfl vb6 (ai {y.t with bn:=d} (.slice y.A y.zs.length y.c)) rfl rfl 37 (ai bQ (.slice none 0 0)) ZC.out.var Q5.out Q4.out (bz _ _ _ _) ?_;have QF:Hid (Below V0.heap.size V0 (W8.setRow vb6 (ai {y.t with bn:=d} (.slice y.A y.zs.length y.c)))):=ae (aB O1.out hvb6 _);have JV:=ae (sJ.out.grow QF.out);have QS:yg w r ib io n k x (W8.setRow vb6 (ai {y.t with bn:=d} (.slice y.A y.zs.length y.c))):=yg.of oJ.out Bf.out Kq.out JV.out.it JV.out.lo HR.out hib;refine hK.out _ _ QS (fun _=>?_);clear hK K;try simp only [Act.put]
      refine aJ 17 (.int .i64 0) 6 QS (fun w' hSw=>?_) ?_
      ·obtain ⟨s0,s1,_⟩:=hSw;go_simp
      try simp only [Act.put]
      refine wpAnyH_done (by kernel_rfl) ?_ _;have QZ:Hid (VF w r V0 k c A ts vb6 ⟨{y.t with bn:=d},y.A,y.c,y.zs⟩ (W8.setRow vb6 (ai {y.t with bn:=d} (.slice y.A y.zs.length y.c)))):=ae (VF.of sJ.out QF.out (ZC.out.oZ _) HYV8.out ZQ.out HM.out HD.out);go_wp2_with fail;go_meet;exact ⟨_,_,rfl,qE.out,QZ.out⟩
    case rest=>
     obtain ⟨vb,y,rfl,hcy,ht⟩:=hcut;have qE:=ae hcy;clear hcy;have HT:=ae ht;have dR:Hid ((Tryz.prog.info? 37).map (·.size)=some (ai y.t (.slice y.A y.zs.length y.c)).size):=ae (bU y.t _ ht.each.prev ht.each.bn);have H68:Hid ((ai y.t (.slice y.A y.zs.length y.c)).size=68):=ae (bF y.t _ ht.each.prev ht.each.bn);have hlt:=ht.md.lt;obtain ⟨i0,hi,hq0,hq1,hq2⟩:=info_parts oQ;have HI:=ae hi;have wM:=ae hq0;have nY:=ae hq1;have lC:=ae hq2;have HY68:=ae ht.each.size;clear ht hi hq0 hq1 hq2 HX0 c33 hV0;go_wp2_with (first
      |((with_reducible refine fU 37 ?_);go_must (refine aT rfl _ _ rfl vb rfl (ai y.t (.slice y.A y.zs.length y.c)) HT.out.var.iY _ Tryz.underlying37 rfl dR.out ?_))
      |((with_reducible refine rJ 28 ?_);go_must (refine wH rfl _ rfl (ai y.t (.slice y.A y.zs.length y.c)) H68.out rfl ?_))
      |(at_builtin;go_must (refine wpList_append_lies _ rfl _ _ 28 rfl (w.heap.size+1) 37 i0 (.agg (ai bQ (.slice none 0 0))) 68 112 Tryz.underlying28 HI.out wM.out nY.out lC.out rfl (by decide) (.slice A k c) k (ts.flatMap bI.cells) rfl (own_below HT.out.md.own (ag wc _)) ⟨wc.heap.size,0,none⟩ 1 1 y.cells rfl HY68.out (dA _ _ _ _ rfl) (Ar y) (by omega) (by unfold maxLen;omega) (by omega) (by simp;omega) _ rfl ?_;intro gg cap w6 hown6 hgrow6 fQ _;have HN:Hid (vT w r.cells.toArray (k+1) cap (some ⟨gg,0,none⟩) (ts++ [y]) w6):=ae (HT.out.md.add HT.out.mem HT.out.each rfl hown6 hgrow6 fQ);clear hown6 hgrow6 fQ)))
     go_meet;exact ⟨rfl,some ⟨gg,0,none⟩,cap,y,rfl,qE.out,HN.out⟩
   case rest=>
    obtain ⟨rfl,A2,c2,y,rfl,hcy,hw2⟩:=hcut;have qE:=ae hcy;clear hcy;have HW2:=ae hw2;clear hw2 HX0;go_wp2_with fail;go_roundw
    case rel=>exact ⟨k+1,c2,A2,_,by omega,by omega,rfl,by go_num,by rw [aZ,wP.out];rfl,qE.out,HW2.out⟩
    case measure=>simp [intOf];omega
  ·have hex:¬(k:Int)<(n:Int)∨((k:Int)<(n:Int)∧¬(k:Int)<5):=by omega
   rcases hex with h1|⟨h1,h2⟩
   all_goals
    go_wp2_with fail;go_ret;exact ⟨A,k,c,ts,rfl,wP.out,hk5,HX0.out.cap,HX0.out.chain,Ej.out,⟨HX0.out.fin,HX0.out.form⟩,HX0.out.lo⟩
end Go.Proofs.YtdibbemgpikgjaaGreatDoor
