/- The texts Lg, Lh, in this order. -/
import Derived.Test.YtdibbemgpikgjaaGreatW00
import Derived.Test.YtdibbemgpikgjaaGreatW06
import Derived.Test.YtdibbemgpikgjaaGreatW08
import Derived.Test.YtdibbemgpikgjaaGreatW09
import Derived.Test.YtdibbemgpikgjaaGreatW24
import Derived.Test.YtdibbemgpikgjaaGreatW25
set_option maxRecDepth 10000
set_option maxHeartbeats 8000000
namespace Go.Proofs.YtdibbemgpikgjaaGreat
open Go Go.RowKit
def YA (lo:Nat) (A:Option Addr) (ts:List fH):Prop:=sW lo A (ts.flatMap fH.cells)∧∀y∈ts,vN lo y
def SE (w:World) (e:Ending) (w':World):Prop:=
 ∃A n c ts,e= .returned (.slice A n c)∧ts.length=n∧n≤5∧kU w' w'.heap.size A ts∧(∀y∈ts,IB y.t)∧YA w.heap.size A ts∧Below w.heap.size w w'
theorem yM.fin {w W:World} {rc:Array Value} {k c:Nat} {A:Option Addr} {ts:List fH} (h:yM w rc k c A ts W):YA w.heap.size A ts:=by
 refine ⟨?_,fun y hy=>(h.mem y hy).low (Nat.le_succ _)⟩;rcases h.own.2 with ⟨hv,hn⟩|⟨g,cap,cur,hv,hg,_⟩
 ·refine .inl ?_;rw [h.own.1,hn,Nat.zero_mul]
 ·injection hv with h1 _ _;exact .inr ⟨g,0,h1,by omega⟩
theorem vN.mono {lo lo':Nat} {y:fH} (h:vN lo y) (hl:lo'≤lo):vN lo' y:=
 have f:∀ {A cs},sW lo A cs→sW lo' A cs:=fun h=>h.imp id fun ⟨b,off,e,h1⟩=>⟨b,off,e,Nat.le_trans hl h1⟩
 ⟨f h.1,fun z hz=>⟨f (h.2 z hz).1,f (h.2 z hz).2.1,f (h.2 z hz).2.2.1,f (h.2 z hz).2.2.2⟩⟩
theorem jd.grow {lo:Nat} {v:Value} {W W':World} {y:fH} (h:jd lo v W y) (hb:Below W.heap.size W W'):jd lo v W' y:=h.keep hb.size fun b _ h2 h3=>⟨hb.block b h2,h3⟩
theorem Xy {vb B B':Nat} (h:vb<B):∀b,B≤b→b<B'→some b≠(Value.slice (some ⟨vb,0,none⟩) 1 1).ownBlock:=fun b h1 _ e=>by
 have e2:b=vb:=by simpa [Value.ownBlock] using e
 omega
theorem OO {lo:Nat} (B:Nat):∀b,lo≤b→b<B→some b≠(Value.slice (some ⟨B,0,none⟩) 1 1).ownBlock:=fun b _ h1 e=>by
 have e2:b=B:=by simpa [Value.ownBlock] using e
 omega
structure Wp (w:World) (r:oQ) (V:World) (k c:Nat) (A:Option Addr) (ts:List fH) (vb:Nat) (y:fH) (W:World):Prop where
 md:yM w r.cells.toArray k c A ts W
 var:AV vb 32 (ai y.t (.slice y.A y.zs.length y.c)) W
 mem:jd (w.heap.size+1) (.slice A k c) W y
 each:TbF y
theorem Wp.of {w V W:World} {r:oQ} {k c vb:Nat} {A:Option Addr} {ts:List fH} {y:fH} {d:List UInt8} (h:yM w r.cells.toArray k c A ts V) {cs:Array Value} (hb:Below V.heap.size V (W.setRow vb cs)) (hv:AV vb 32 (ai {y.t with bJ:=d} (.slice y.A y.zs.length y.c)) (W.setRow vb cs))
  (hm:jd V.heap.size (.slice (some ⟨vb,0,none⟩) 1 1) W y) (ht:lS W W.heap.size y) (hM:IB y.t) (hd:d.length=32):Wp w r V k c A ts vb ⟨{y.t with bJ:=d},y.A,y.c,y.zs⟩ (W.setRow vb cs):=by
 have hs:(W.setRow vb cs).heap.size=W.heap.size:=by simp [World.setRow]
 have hlt:=h.lt;have hm2:jd V.heap.size (.slice (some ⟨vb,0,none⟩) 1 1) (W.setRow vb cs) y:=hm.keep (by omega) fun b _ _ h3=>⟨setRow_other _ _ b _ (fun e=>h3 (by rw [e];rfl)),h3⟩;have Xd:jd (w.heap.size+1) (.slice A k c) (W.setRow vb cs) y:=hm2.vary (by omega) fun b h1 _=>h.qQ b h1;exact ⟨h.grow hb,hv,Xd,⟨hM.sealed d,ht.names,ht.prev,hd⟩⟩
theorem Us (r:oQ) (w:World) (hr:vM w w.heap.size r):
  Calls Tryz.prog 9 #[.agg r.cells.toArray] w (SE w):=by
 have rD:=ae hr.key;have hnl:=hr.len;obtain ⟨n,hn⟩:∃n,r.its.length=n:=⟨_,rfl⟩;rw [hn] at hnl;have BI:=ae hn;have HRR:=ae hr;have H0:Hid (yM w r.cells.toArray 0 0 none [] (w.alloc (.cells r.cells.toArray 27))):=ae ⟨AV.new w _ _,ag w _,World.ownsRow_nil _ _ _ _,(fun _ h=>nomatch h),(fun _ h=>nomatch h)⟩;clear hr hn;go_enter Tryz.func9,Tryz.ntmps9;go_wp2_with fail;generalize w.alloc (.cells r.cells.toArray 27)=W0 at H0 ⊢
 go_loopw [3,4] (fun o i wr=>∃(k c:Nat) (A:Option Addr) (ts:List fH),k≤5∧k≤n∧o= .slice A k c∧i=I (k:Nat)∧ts.length=k∧yM w r.cells.toArray k c A ts wr) (fun _ i _=>5 - (intOf i).toNat)
 case atStart=>exact ⟨0,0,none,[],by omega,by omega,rfl,rfl,rfl,H0.out⟩
 case round=>
  clear H0;obtain ⟨k,c,A,ts,hk5,hkn,rfl,rfl,htl,hw⟩:=hrel;have HX0:=ae hw;have BJ:=ae htl;clear hw htl;have c33:wr.cell? ⟨w.heap.size,33,none⟩=some (.slice r.A n r.c):=(HX0.out.it.cell 33).trans (by rw [O1 r rD.out,BI.out]);by_cases hlt:k<n∧k<5
  ·obtain ⟨hln,hl5⟩:=hlt;have i1:(k:Int)<(n:Int):=by omega
   have i2:(k:Int)<5:=by omega
   obtain ⟨x,hx⟩:∃x,r.its[k]? =some x:=⟨_,dK (by rw [BI.out];exact hln)⟩;obtain ⟨ib,io,hA,hib,hcl⟩:=HRR.out.row.there (by rw [dP (fun x:IZ=>x.cells.toList) r.its (show∀x∈r.its,x.cells.toList.length=2 from fun _ _=>rfl),BI.out];omega);have QW:=ae hA;have HR:Hid (w.rangeAt ib (io+k*2) x.cells.toList):=ae (aB.elem (s:=2) (f:=fun x:IZ=>x.cells.toList) (fun _ _=>rfl) hcl k x hx);have HIT:=ae (HRR.out.each x (gz hx));rw [hA] at c33;have ET:Hid (∀W,yM w r.cells.toArray k c A ts W→Calls Tryz.prog 25 #[.slice A k c, .int .u8 (r.JD.toNat:Int), .agg x.cells] W (Y3 W k r.JD x)):=ae (fun W h=>next_r x r.JD A c k ts W ((HIT.out.keep h.lo).more h.lo.size) BJ.out (by omega) h.chain (fun y hy=>(h.each y hy).made));clear hx hcl hA;go_upto_block 1 with fail
   go_cut [3,4] (fun o p wx=>p=I (k:Nat)∧∃A2 c2 y,o= .slice A2 (k+1) c2∧yM w r.cells.toArray (k+1) c2 A2 (ts++ [y]) wx)
   case first=>
    go_upto_region 5 with fail;obtain ⟨V0,hV0⟩:∃V,wr.drew=V:=⟨_,rfl⟩
    go_cut [5] (fun p wx=>∃vb y,p= .pointer (some ⟨vb,0,none⟩)∧Wp w r V0 k c A ts vb y wx)
    case first=>
     clear c33;have hS0:yL w r ib io n k x wr.drew:=yL.of rD.out BI.out QW.out HX0.out.drew.it HX0.out.drew.lo HR.out hib;refine wp_region_held_drew (S:=yL w r ib io n k x) (by kernel_rfl) hS0 (fun _=>?_);have sV:=ae HX0.out.drew;have HB0:Hid (Below wr.drew.heap.size wr.drew wr.drew):=ae (Below.refl _ _);rw [hV0] at sV hS0 HB0 ⊢;refine aO 0 (.pointer (some ⟨w.heap.size,1,none⟩)) 19 hS0 (fun w' hSw=>?_) ?_
     ·obtain ⟨s0,s1,_⟩:=hSw;go_simp
     refine ay ?_;refine aO 2 (.slice A k c) 21 hS0 (fun w' hSw=>?_) ?_
     ·obtain ⟨s0,s1,_⟩:=hSw;go_simp
     refine ay ?_;refine aO 3 (.pointer (some ⟨w.heap.size,0,none⟩)) 22 hS0 (fun w' hSw=>?_) ?_
     ·obtain ⟨s0,s1,_⟩:=hSw;go_simp
     refine ay ?_;refine aO 5 (.pointer (some ⟨w.heap.size,33,none⟩)) 24 hS0 (fun w' hSw=>?_) ?_
     ·obtain ⟨s0,s1,_⟩:=hSw;go_simp
     refine ay ?_;refine aO 7 (I (k:Int)) 26 hS0 (fun w' hSw=>?_) ?_
     ·obtain ⟨s0,s1,_⟩:=hSw;go_simp
     refine ay ?_;refine mQ 1 ( .agg (cD r.key)) 20 rfl rfl hS0 (yieldsIf_load_mid rfl 24 _ rfl w.heap.size (1) rfl (au r.key) _ (fun _ h=>h.2.2.1) Tryz.underlying24 rfl (by simp only [au,List.length_map,rD.out];kernel_rfl)) ?_;refine ay ?_;refine aO 4 (.int .u8 (r.JD.toNat:Int)) 23 hS0 (fun w' hSw=>?_) ?_
     ·obtain ⟨s0,s1,_⟩:=hSw;go_simp
     refine ay ?_;refine aO 6 (.slice (some ⟨ib,io,none⟩) n r.c) 25 hS0 (fun w' hSw=>?_) ?_
     ·obtain ⟨s0,s1,_⟩:=hSw;go_simp
     refine ay ?_;refine aO 8 (.pointer (some ⟨ib,io+k*2,none⟩)) 27 hS0 (fun w' hSw=>?_) ?_
     ·obtain ⟨s0,s1,_⟩:=hSw;go_simp
     refine ay ?_;refine mQ 9 ( .agg x.cells) 28 rfl rfl hS0 (yieldsIf_load_mid rfl 80 _ rfl ib (io+k*2) rfl x.cells.toList _ (fun _ h=>h.2.2.2) Tryz.underlying80 rfl (by kernel_rfl)) ?_;refine ay ?_;refine mP 10 15 (fun K hK=>?_) (fun K hK=>?_)
     ·go_simp;refine (ET.out V0 sV.out).mono ?_;rintro e W1 ⟨y,rfl,hy1,hm1,hm2,Xd,hm4,hm5,hl1,hb1⟩;have HM:=ae (JZ (by omega) hm1 hm2 Xd hm4 hm5);have Wj:=ae hy1;have lW:=ae (show vN V0.heap.size y from hl1.mono HB0.out.size);clear hm1 hm2 Xd hm4 hm5 hy1 hl1;have HB1:Hid (Below V0.heap.size V0 W1):=ae (ah HB0.out hb1);have yx:=ae (sV.out.grow HB1.out);have hS1:yL w r ib io n k x W1:=yL.of rD.out BI.out QW.out yx.out.it yx.out.lo HR.out hib;clear hb1;refine hK.out _ _ hS1 (fun _=>?_);clear hK K;refine ay ?_;refine mP 11 15 (fun K hK=>?_) (fun K hK=>?_)
      ·go_simp;refine (Dx r.key rD.out y W1 Wj.out HM.out).mono ?_;rintro e W2 ⟨d,hd,rfl,hb2⟩;have HD:=ae hd;have HYT2:=ae (Wj.out.grow hb2);clear hd;have HB2:Hid (Below V0.heap.size V0 W2):=ae (ah HB1.out hb2);have yI:=ae (sV.out.grow HB2.out);have hS2:yL w r ib io n k x W2:=yL.of rD.out BI.out QW.out yI.out.it yI.out.lo HR.out hib;clear hb2;refine hK.out _ _ hS2 (fun _=>?_);clear hK K;refine ay ?_;refine aO 12 (.tuple #[.agg (ai {y.t with bJ:=d} (.slice y.A y.zs.length y.c)), .int .i64 0]) 18 hS2 (fun w' hSw=>?_) ?_
       ·obtain ⟨s0,s1,_⟩:=hSw;go_simp
       refine ay ?_;refine aO 13 (.agg (ai {y.t with bJ:=d} (.slice y.A y.zs.length y.c))) 31 hS2 (fun w' hSw=>?_) ?_
       ·obtain ⟨s0,s1,_⟩:=hSw;go_simp
       refine ay ?_;refine aO 14 (.int .i64 0) 32 hS2 (fun w' hSw=>?_) ?_
       ·obtain ⟨s0,s1,_⟩:=hSw;go_simp
       refine ay ?_;refine bT 15 (fun K hK=>?_);refine jD (o:=⟨some 5, .alloc 32,_,_,_,none⟩) rfl 32 rfl (ai bn (.slice none 0 0)) eP ?_;have HB3:Hid (Below V0.heap.size V0 (W2.alloc (.cells (ai bn (.slice none 0 0)) 32))):=ae (ah HB2.out (ag W2 _));have Iw:=ae (sV.out.grow HB3.out);have hS3:yL w r ib io n k x (W2.alloc (.cells (ai bn (.slice none 0 0)) 32)):=yL.of rD.out BI.out QW.out Iw.out.it Iw.out.lo HR.out hib;have tN:Hid (AV W2.heap.size 32 (ai bn (.slice none 0 0)) (W2.alloc (.cells (ai bn (.slice none 0 0)) 32))):=ae (AV.new W2 _ _);obtain ⟨vb3,hve3,hvb3⟩:∃b,W2.heap.size=b∧V0.heap.size≤b:=⟨_,rfl,HB2.out.size⟩;have HYV3:Hid (jd V0.heap.size (.slice (some ⟨W2.heap.size,0,none⟩) 1 1) (W2.alloc (.cells (ai bn (.slice none 0 0)) 32)) y):=ae (jd.of (HYT2.out.keep (ag W2 _)) (ag W2 (.cells (ai bn (.slice none 0 0)) 32)).size lW.out (Nat.le_refl _) (OO W2.heap.size));have Wl:=ae (HYT2.out.grow (ag W2 (.cells (ai bn (.slice none 0 0)) 32)));refine hK.out _ _ hS3 (fun _=>?_);clear hK K;refine ay ?_;generalize (W2.alloc (.cells (ai bn (.slice none 0 0)) 32))=W3 at HB3 Iw hS3 tN HYV3 Wl ⊢;rw [hve3] at tN HYV3 ⊢;clear hve3;have Io:Hid ((Tryz.prog.info? 32).map (·.size)=some (ai {y.t with bJ:=d} (.slice y.A y.zs.length y.c)).size):=ae (bP {y.t with bJ:=d} _ Wl.out.prev HD.out);have ZY:Hid ((ai bn (.slice none 0 0)).size=(ai {y.t with bJ:=d} (.slice y.A y.zs.length y.c)).size):=ae ((aZ bn _ rfl rfl).trans (aZ {y.t with bJ:=d} _ Wl.out.prev HD.out).symm);refine bT 16 (fun K hK=>?_);refine jE (o:=⟨none, .store 32 (.tmp 5) (.tmp 31),_,_,_,none⟩) rfl 32 _ _ rfl vb3 (ai {y.t with bJ:=d} (.slice y.A y.zs.length y.c)) rfl rfl 32 (ai bn (.slice none 0 0)) tN.out.var Io.out ZY.out (aT _ _ _ _) ?_;have YJ:Hid (Below V0.heap.size V0 (W3.setRow vb3 (ai {y.t with bJ:=d} (.slice y.A y.zs.length y.c)))):=ae (aC HB3.out hvb3 _);have KO:=ae (sV.out.grow YJ.out);have Rh:yL w r ib io n k x (W3.setRow vb3 (ai {y.t with bJ:=d} (.slice y.A y.zs.length y.c))):=yL.of rD.out BI.out QW.out KO.out.it KO.out.lo HR.out hib;refine hK.out _ _ Rh (fun _=>?_);clear hK K;try simp only [Act.put]
       refine aO 17 (.int .i64 0) 6 Rh (fun w' hSw=>?_) ?_
       ·obtain ⟨s0,s1,_⟩:=hSw;go_simp
       try simp only [Act.put]
       refine wpAnyH_done (by kernel_rfl) ?_ _;have Rw:Hid (Wp w r V0 k c A ts vb3 ⟨{y.t with bJ:=d},y.A,y.c,y.zs⟩ (W3.setRow vb3 (ai {y.t with bJ:=d} (.slice y.A y.zs.length y.c)))):=ae (Wp.of sV.out YJ.out (tN.out.oH _) HYV3.out Wl.out HM.out HD.out);go_wp2_with fail;go_meet;exact ⟨_,_,rfl,Rw.out⟩
      ·refine jD (o:=⟨some 5, .alloc 32,_,_,_,none⟩) rfl 32 rfl (ai bn (.slice none 0 0)) eP ?_;have HB4:Hid (Below V0.heap.size V0 (W1.alloc (.cells (ai bn (.slice none 0 0)) 32))):=ae (ah HB1.out (ag W1 _));have VI:=ae (sV.out.grow HB4.out);have hS4:yL w r ib io n k x (W1.alloc (.cells (ai bn (.slice none 0 0)) 32)):=yL.of rD.out BI.out QW.out VI.out.it VI.out.lo HR.out hib;have Iu:Hid (AV W1.heap.size 32 (ai bn (.slice none 0 0)) (W1.alloc (.cells (ai bn (.slice none 0 0)) 32))):=ae (AV.new W1 _ _);obtain ⟨vb4,hve4,hvb4⟩:∃b,W1.heap.size=b∧V0.heap.size≤b:=⟨_,rfl,HB1.out.size⟩;have HYV4:Hid (jd V0.heap.size (.slice (some ⟨W1.heap.size,0,none⟩) 1 1) (W1.alloc (.cells (ai bn (.slice none 0 0)) 32)) y):=ae (jd.of (Wj.out.keep (ag W1 _)) (ag W1 (.cells (ai bn (.slice none 0 0)) 32)).size lW.out (Nat.le_refl _) (OO W1.heap.size));have HYT4:=ae (Wj.out.grow (ag W1 (.cells (ai bn (.slice none 0 0)) 32)));refine hK.out _ _ hS4 (fun _=>?_);clear hK K;refine ay ?_;generalize (W1.alloc (.cells (ai bn (.slice none 0 0)) 32))=W4 at HB4 VI hS4 Iu HYV4 HYT4 ⊢;rw [hve4] at Iu HYV4 ⊢;clear hve4;refine bT 11 (fun K hK=>?_);go_simp;refine (Dx r.key rD.out y W4 HYT4.out HM.out).mono ?_;rintro e W5 ⟨d,hd,rfl,hb5⟩;have HD:=ae hd;have HYT5:=ae (HYT4.out.grow hb5);have HYV5:=ae (HYV4.out.grow hb5);clear hd;have oN:Hid (Below V0.heap.size V0 W5):=ae (ah HB4.out hb5);have yJ:=ae (sV.out.grow oN.out);have hS5:yL w r ib io n k x W5:=yL.of rD.out BI.out QW.out yJ.out.it yJ.out.lo HR.out hib;have HV5:=ae (Iu.out.below hb5);clear hb5;refine hK.out _ _ hS5 (fun _=>?_);clear hK K;refine ay ?_;refine aO 12 (.tuple #[.agg (ai {y.t with bJ:=d} (.slice y.A y.zs.length y.c)), .int .i64 0]) 18 hS5 (fun w' hSw=>?_) ?_
       ·obtain ⟨s0,s1,_⟩:=hSw;go_simp
       refine ay ?_;refine aO 13 (.agg (ai {y.t with bJ:=d} (.slice y.A y.zs.length y.c))) 31 hS5 (fun w' hSw=>?_) ?_
       ·obtain ⟨s0,s1,_⟩:=hSw;go_simp
       refine ay ?_;refine aO 14 (.int .i64 0) 32 hS5 (fun w' hSw=>?_) ?_
       ·obtain ⟨s0,s1,_⟩:=hSw;go_simp
       refine ay ?_;have Io:Hid ((Tryz.prog.info? 32).map (·.size)=some (ai {y.t with bJ:=d} (.slice y.A y.zs.length y.c)).size):=ae (bP {y.t with bJ:=d} _ HYT5.out.prev HD.out);have ZY:Hid ((ai bn (.slice none 0 0)).size=(ai {y.t with bJ:=d} (.slice y.A y.zs.length y.c)).size):=ae ((aZ bn _ rfl rfl).trans (aZ {y.t with bJ:=d} _ HYT5.out.prev HD.out).symm);refine bT 16 (fun K hK=>?_);refine jE (o:=⟨none, .store 32 (.tmp 5) (.tmp 31),_,_,_,none⟩) rfl 32 _ _ rfl vb4 (ai {y.t with bJ:=d} (.slice y.A y.zs.length y.c)) rfl rfl 32 (ai bn (.slice none 0 0)) HV5.out.var Io.out ZY.out (aT _ _ _ _) ?_;have YJ:Hid (Below V0.heap.size V0 (W5.setRow vb4 (ai {y.t with bJ:=d} (.slice y.A y.zs.length y.c)))):=ae (aC oN.out hvb4 _);have KO:=ae (sV.out.grow YJ.out);have Rh:yL w r ib io n k x (W5.setRow vb4 (ai {y.t with bJ:=d} (.slice y.A y.zs.length y.c))):=yL.of rD.out BI.out QW.out KO.out.it KO.out.lo HR.out hib;refine hK.out _ _ Rh (fun _=>?_);clear hK K;try simp only [Act.put]
       refine aO 17 (.int .i64 0) 6 Rh (fun w' hSw=>?_) ?_
       ·obtain ⟨s0,s1,_⟩:=hSw;go_simp
       try simp only [Act.put]
       refine wpAnyH_done (by kernel_rfl) ?_ _;have Rw:Hid (Wp w r V0 k c A ts vb4 ⟨{y.t with bJ:=d},y.A,y.c,y.zs⟩ (W5.setRow vb4 (ai {y.t with bJ:=d} (.slice y.A y.zs.length y.c)))):=ae (Wp.of sV.out YJ.out (HV5.out.oH _) HYV5.out HYT5.out HM.out HD.out);go_wp2_with fail;go_meet;exact ⟨_,_,rfl,Rw.out⟩
     ·refine jD (o:=⟨some 5, .alloc 32,_,_,_,none⟩) rfl 32 rfl (ai bn (.slice none 0 0)) eP ?_;have Ed:Hid (Below V0.heap.size V0 (V0.alloc (.cells (ai bn (.slice none 0 0)) 32))):=ae (ah HB0.out (ag V0 _));have qA:=ae (sV.out.grow Ed.out);have hS6:yL w r ib io n k x (V0.alloc (.cells (ai bn (.slice none 0 0)) 32)):=yL.of rD.out BI.out QW.out qA.out.it qA.out.lo HR.out hib;have VH:Hid (AV V0.heap.size 32 (ai bn (.slice none 0 0)) (V0.alloc (.cells (ai bn (.slice none 0 0)) 32))):=ae (AV.new V0 _ _);obtain ⟨vb6,hve6,hvb6⟩:∃b,V0.heap.size=b∧V0.heap.size≤b:=⟨_,rfl,HB0.out.size⟩;refine hK.out _ _ hS6 (fun _=>?_);clear hK K;refine ay ?_;generalize (V0.alloc (.cells (ai bn (.slice none 0 0)) 32))=W6 at Ed qA hS6 VH ⊢;rw [hve6] at VH ⊢;clear hve6;refine bT 10 (fun K hK=>?_);go_simp;refine (ET.out W6 qA.out).mono ?_;rintro e W7 ⟨y,rfl,hy7,hm1,hm2,Xd,hm4,hm5,hl7,hb7⟩;have HM:=ae (JZ (by omega) hm1 hm2 Xd hm4 hm5);have HYT7:=ae hy7;have lW:=ae (show vN V0.heap.size y from hl7.mono Ed.out.size);have HYV7:Hid (jd V0.heap.size (.slice (some ⟨vb6,0,none⟩) 1 1) W7 y):=ae (jd.of hy7 (Nat.le_refl _) hl7 Ed.out.size (Xy VH.out.lt));clear hm1 hm2 Xd hm4 hm5 hy7 hl7;have oO:Hid (Below V0.heap.size V0 W7):=ae (ah Ed.out hb7);have jG:=ae (sV.out.grow oO.out);have hS7:yL w r ib io n k x W7:=yL.of rD.out BI.out QW.out jG.out.it jG.out.lo HR.out hib;have HV7:=ae (VH.out.below hb7);clear hb7;refine hK.out _ _ hS7 (fun _=>?_);clear hK K;refine ay ?_;refine bT 11 (fun K hK=>?_);go_simp;refine (Dx r.key rD.out y W7 HYT7.out HM.out).mono ?_;rintro e W8 ⟨d,hd,rfl,hb8⟩;have HD:=ae hd;have HYT8:=ae (HYT7.out.grow hb8);have HYV8:=ae (HYV7.out.grow hb8);clear hd;have Il:Hid (Below V0.heap.size V0 W8):=ae (ah oO.out hb8);have Lp:=ae (sV.out.grow Il.out);have hS8:yL w r ib io n k x W8:=yL.of rD.out BI.out QW.out Lp.out.it Lp.out.lo HR.out hib;have HV8:=ae (HV7.out.below hb8);clear hb8;refine hK.out _ _ hS8 (fun _=>?_);clear hK K;refine ay ?_;refine aO 12 (.tuple #[.agg (ai {y.t with bJ:=d} (.slice y.A y.zs.length y.c)), .int .i64 0]) 18 hS8 (fun w' hSw=>?_) ?_
      ·obtain ⟨s0,s1,_⟩:=hSw;go_simp
      refine ay ?_;refine aO 13 (.agg (ai {y.t with bJ:=d} (.slice y.A y.zs.length y.c))) 31 hS8 (fun w' hSw=>?_) ?_
      ·obtain ⟨s0,s1,_⟩:=hSw;go_simp
      refine ay ?_;refine aO 14 (.int .i64 0) 32 hS8 (fun w' hSw=>?_) ?_
      ·obtain ⟨s0,s1,_⟩:=hSw;go_simp
      refine ay ?_;have Io:Hid ((Tryz.prog.info? 32).map (·.size)=some (ai {y.t with bJ:=d} (.slice y.A y.zs.length y.c)).size):=ae (bP {y.t with bJ:=d} _ HYT8.out.prev HD.out);have ZY:Hid ((ai bn (.slice none 0 0)).size=(ai {y.t with bJ:=d} (.slice y.A y.zs.length y.c)).size):=ae ((aZ bn _ rfl rfl).trans (aZ {y.t with bJ:=d} _ HYT8.out.prev HD.out).symm);refine bT 16 (fun K hK=>?_);refine jE (o:=⟨none, .store 32 (.tmp 5) (.tmp 31),_,_,_,none⟩) rfl 32 _ _ rfl vb6 (ai {y.t with bJ:=d} (.slice y.A y.zs.length y.c)) rfl rfl 32 (ai bn (.slice none 0 0)) HV8.out.var Io.out ZY.out (aT _ _ _ _) ?_;have YJ:Hid (Below V0.heap.size V0 (W8.setRow vb6 (ai {y.t with bJ:=d} (.slice y.A y.zs.length y.c)))):=ae (aC Il.out hvb6 _);have KO:=ae (sV.out.grow YJ.out);have Rh:yL w r ib io n k x (W8.setRow vb6 (ai {y.t with bJ:=d} (.slice y.A y.zs.length y.c))):=yL.of rD.out BI.out QW.out KO.out.it KO.out.lo HR.out hib;refine hK.out _ _ Rh (fun _=>?_);clear hK K;try simp only [Act.put]
      refine aO 17 (.int .i64 0) 6 Rh (fun w' hSw=>?_) ?_
      ·obtain ⟨s0,s1,_⟩:=hSw;go_simp
      try simp only [Act.put]
      refine wpAnyH_done (by kernel_rfl) ?_ _;have Rw:Hid (Wp w r V0 k c A ts vb6 ⟨{y.t with bJ:=d},y.A,y.c,y.zs⟩ (W8.setRow vb6 (ai {y.t with bJ:=d} (.slice y.A y.zs.length y.c)))):=ae (Wp.of sV.out YJ.out (HV8.out.oH _) HYV8.out HYT8.out HM.out HD.out);go_wp2_with fail;go_meet;exact ⟨_,_,rfl,Rw.out⟩
    case rest=>
     obtain ⟨vb,y,rfl,ht⟩:=hcut;have HT:=ae ht;have dR:Hid ((Tryz.prog.info? 32).map (·.size)=some (ai y.t (.slice y.A y.zs.length y.c)).size):=ae (bP y.t _ ht.each.prev ht.each.bJ);have H68:Hid ((ai y.t (.slice y.A y.zs.length y.c)).size=68):=ae (aZ y.t _ ht.each.prev ht.each.bJ);have hlt:=ht.md.lt;obtain ⟨i0,hi,hq0,hq1,hq2⟩:=info_parts rP;have HI:=ae hi;have sU:=ae hq0;have jS:=ae hq1;have jr:=ae hq2;have HY68:=ae ht.each.size;clear ht hi hq0 hq1 hq2 HX0 c33 hV0;go_wp2_with (first
      |((with_reducible refine jy 32 ?_);go_must (refine bG rfl _ _ rfl vb rfl (ai y.t (.slice y.A y.zs.length y.c)) HT.out.var.lu _ Tryz.underlying32 rfl dR.out ?_))
      |((with_reducible refine rJ 39 ?_);go_must (refine wS rfl _ rfl (ai y.t (.slice y.A y.zs.length y.c)) H68.out rfl ?_))
      |(at_builtin;go_must (refine wpList_append_lies _ rfl _ _ 39 rfl (w.heap.size+1) 32 i0 (.agg (ai bn (.slice none 0 0))) 68 112 Tryz.underlying39 HI.out sU.out jS.out jr.out rfl (by decide) (.slice A k c) k (ts.flatMap fH.cells) rfl (own_below HT.out.md.own (ag wc _)) ⟨wc.heap.size,0,none⟩ 1 1 y.cells rfl HY68.out (dL _ _ _ _ rfl) (X5 y) (by omega) (by unfold maxLen;omega) (by omega) (by simp;omega) _ rfl ?_;intro gg cap w6 hown6 hgrow6 fV _;have HN:Hid (yM w r.cells.toArray (k+1) cap (some ⟨gg,0,none⟩) (ts++ [y]) w6):=ae (HT.out.md.add HT.out.mem HT.out.each rfl hown6 hgrow6 fV);clear hown6 hgrow6 fV)))
     go_meet;exact ⟨rfl,some ⟨gg,0,none⟩,cap,y,rfl,HN.out⟩
   case rest=>
    obtain ⟨rfl,A2,c2,y,rfl,hw2⟩:=hcut;have HW2:=ae hw2;clear hw2 HX0;go_wp2_with fail;go_roundw
    case rel=>exact ⟨k+1,c2,A2,_,by omega,by omega,rfl,by go_num,by rw [bF,BJ.out];rfl,HW2.out⟩
    case measure=>simp [intOf];omega
  ·have hex:¬(k:Int)<(n:Int)∨((k:Int)<(n:Int)∧¬(k:Int)<5):=by omega
   rcases hex with h1|⟨h1,h2⟩
   all_goals
    go_wp2_with fail;go_ret;exact ⟨A,k,c,ts,rfl,BJ.out,hk5,HX0.out.chain,fun y hy=>(HX0.out.each y hy).made,HX0.out.fin,HX0.out.lo⟩
attribute [local go_sem] dD dH dE dI ed eu dB dF dC dG
def kR:List PanicEntry:= [{v:= .iface 107 (.agg #[]),recovered:=false}]
def Rk (w:World) (e:Ending) (w':World):Prop:=e= .panicked kR∧Below w.heap.size w w'
def DiesT (w:World) (rb pb:Nat) (t:TypeId) (cs:Array Value) (e:Ending) (w':World):Prop:=e= .panicked kR∧∃C:Array Value,C.size=cs.size∧bD w rb pb t C w'
def qw (x:Ze):List UInt8:=(le x.name.size 1++x.name.data.toList)++(jw x.z.cal++(le x.z.start 2++(le 0 2++le x.z.hor 8)))
theorem xX (M:Nat) (w:World) (rb n:Nat) (rest:List UInt8) (hr:fQ M w rb rest) (hn:rest.length<n):
  Calls Tryz.prog 169 #[.pointer (some ⟨rb,0,none⟩),I n] w fun e w'=>e= .panicked kR∧w'=w:=by
 obtain ⟨⟨bb,off,c,h1,_⟩,_⟩:=hr;have hc0:w.cell? ⟨rb,0,none⟩=some (.slice (some ⟨bb,off,none⟩) rest.length c):=cell_of_row w rb 0 _ _ _ h1;obtain ⟨m,hm⟩:∃m,rest.length=m:=⟨_,rfl⟩;rw [hm] at hc0 hn;have n0:(m:Int)<(n:Int):=by omega
 clear h1 hm;go_enter Tryz.func169,Tryz.ntmps169
 go_wp2
 exact ⟨rfl,rfl,rfl⟩
theorem J9 (M:Nat) (w:World) (rb pb po size:Nat) (t:TypeId) (cs:Array Value) (rest:List UInt8) (hr:fQ M w rb rest) (hn:rest.length<size) (hp:w.heap[pb]? =some (.cells cs t (0,0))) (hpo:po<cs.size) (mG:M≤pb) (hne:pb≠rb):
  Calls Tryz.prog 166 #[pt rb, .pointer (some ⟨pb,po,none⟩),I size] w fun e w'=>e= .panicked kR∧iT pb w w':=by
 refine (callsIn_wide (n:=3)).1 ?_;have hro:Fence.wide.round=none:=rfl;have h1:1≤3:=by omega
 have hlt:=hr.lt;have hpl:pb<w.heap.size:=(bY.1 hp).1;have hMl:=hr.lo;have hc0:w.cell? ⟨pb,po,none⟩=some cs[po]:=by rw [cell_of_row w pb po _ _ _ hp];exact Array.getElem?_eq_getElem hpo
 have hf0:w.frozen? ⟨pb,po,none⟩=false:=frozen_of_row w pb po _ _ hp;obtain ⟨WS,hWS⟩:∃W,w.setCell ⟨pb,po,none⟩ (I 0)=W:=⟨_,rfl⟩;have Aq:iT pb w WS:=by rw [←hWS];exact ⟨rfl,rfl,rfl,by simp [World.setCell],fun k _ hk2=>heap_setCell_other _ _ k _ hk2⟩
 obtain ⟨W1,hW1⟩:∃W,WS.alloc (.cells #[.pointer (some ⟨pb,po,none⟩)] 115)=W:=⟨_,rfl⟩;have hk1:iT pb w W1:=by
  rw [←hW1];exact ⟨Aq.os,Aq.tape,Aq.output,Nat.le_trans Aq.size (by simp),fun k hk hk2=>(Below.heap_alloc WS _ k (dS hk Aq.size)).trans (Aq.block k hk hk2)⟩
 rw [←hWS] at hW1;have hr1:fQ M W1 rb rest:=hr.of (hk1.block rb hlt (fun e=>hne e.symm)) fun k hk=>hk1.block k (by omega) (by omega);have HT:=ae (xX M W1 rb size rest hr1 hn);have gK:=ae hk1;have HW1:=ae hW1;clear hr hr1 hk1 Aq hW1 hWS hp;refine callsIn_of_wp_marks Tryz.func166 rfl trivial ?_ hro;simp only [Tryz.ntmps166,List.size_toArray,List.length_cons,List.length_nil,Nat.reduceAdd,Nat.reduceSub,Array.replicate_succ,Array.replicate_zero,List.push_toArray,List.append_toArray,List.nil_append,List.cons_append]
 gi_wp2_with first
  |(refine ⟨trivial,?_⟩;gi_at_call 169;rw [HW1.out];refine (callsIn_wide.2 HT.out).mono ?_;rintro e w2 ⟨rfl,rfl⟩)
 exact ⟨rfl,gK.out⟩
theorem zQ (M:Nat) (w:World) (rb size:Nat) (m:Int) (rest:List UInt8) (hr:fQ M w rb rest) (hn:rest.length<size):
  Calls Tryz.prog 165 #[pt rb,I m,I size] w (Rk w):=by
 have hl:=hr.lt;have hlo:=hr.lo;have hb:=ag w (.cells #[I 0] 3);have hpl:=heap_alloc_last w (.cells #[I 0] 3);have HC:=ae (J9 M (w.alloc (.cells #[I 0] 3)) rb w.heap.size 0 size 3 #[I 0] rest (hr.below hb hl) hn hpl (by decide) (by omega) (by omega));have HB:=ae hb;clear hr hb hpl;go_enter Tryz.func165,Tryz.ntmps165;go_wp2_with fail;refine HC.out.mono ?_;rintro e w1 ⟨rfl,hk⟩;exact ⟨rfl,rfl,hk.os,hk.tape,hk.output,by have:=hk.size;simp at this;omega,fun k hk2=>(hk.block k (by simp;omega) (by omega)).trans (HB.out.block k hk2)⟩
theorem EK (M:Nat) (w:World) (rb lb lo:Nat) (A:Option Addr) (c:Nat) (hp:w.cell? ⟨lb,lo,none⟩=some (.slice A 0 c)) (hr:fQ M w rb []):
  Calls Tryz.prog 64 #[.iface 109 (pt rb), .pointer (some ⟨lb,lo,none⟩),I 1, .func (.func 65) #[] #[]] w (Rk w):=by
 have HC:=ae (zQ M w.drew rb 1 0 [] hr.drew (by decide));clear hr;go_enter Tryz.func64,Tryz.ntmps64;go_wp2_with fail;go_still_tail 9,(by kernel_rfl);go_wp2_with fail;refine HC.out.mono ?_;rintro e w1 ⟨rfl,hb1⟩;exact ⟨rfl,rfl,hb1.os,hb1.tape,hb1.output,hb1.size,hb1.block⟩
theorem Ns (M:Nat) (w:World) (rb eb eo:Nat) (t:TypeId) (cs:Array Value) (x:Ze) (hf:ig x.z) (hs:x.name.size≤32) (hr:fQ M w rb (qw x)) (hp:w.heap[eb]? =some (.cells cs t (0,0))) (hz:∀j,j<9→cs[eo+j]? =fZ[j]?) (hM:M≤eb) (hne:eb≠rb):
  Calls Tryz.prog 43 #[.iface 109 (pt rb), .pointer (some ⟨eb,eo,none⟩)] w (DiesT w rb eb t cs):=by
 have hel:eb<w.heap.size:=(bY.1 hp).1;have hrw:=hr.lt;have hz0:cs[eo]? =some (.string ⟨#[]⟩):=hz 0 (by decide);have hz8:eo+8<cs.size:=(bY.1 ((hz 8 (by decide)).trans (rfl:fZ[8]? =some (.slice none 0 0)))).1;have hr':fQ M w.drew rb ((le x.name.size 1++x.name.data.toList)++(jw x.z.cal++(le x.z.start 2++(le 0 2++le x.z.hor 8)))):=by
  have h:=hr.drew;unfold qw at h;simpa only [List.append_assoc] using h
 have jO:=ae (F6 M w.drew rb eb eo t cs ⟨#[]⟩ x.name _ hr' (by omega) hp hz0 hM hne);have HZ:Hid (∀j,1≤j→j<9→cs[eo+j]? =fZ[j]?):=ae fun j _ hj=>hz j hj;have HF:=ae hf;have Uj:=hf.start;have hho0:=hf.hor;clear hf hs hr hr' hp hz hz0;go_enter Tryz.func43,Tryz.ntmps43;go_wp2_with fail;go_still_tail 7,(by kernel_rfl);go_wp2_with fail;refine jO.out.mono ?_;rintro e w1 ⟨rfl,hr1,hp1⟩;obtain ⟨C1,IC⟩:∃C,cs.setIfInBounds eo (.string x.name)=C:=⟨_,rfl⟩;rw [IC] at hp1;have k1:∀j,1≤j→j<9→C1[eo+j]? =fZ[j]? :=fun j h1 h2=>by rw [←IC,Array.getElem?_setIfInBounds_ne (by omega)];exact HZ.out j h1 h2
 have l1:C1.size=cs.size:=by rw [←IC,Array.size_setIfInBounds]
 have lU:=ae hp1.bz;have jS:=ae IC;have HC2:=ae (sO M w1 rb eb (eo+1) t C1 x.z.cal _ HF.out.cal hr1 hp1.tgt (by omega) (k1 2 (by decide) (by decide)) (k1 3 (by decide) (by decide)) (k1 4 (by decide) (by decide)) hM hne);have gK:=ae k1;clear hr1 hp1 jO IC k1;go_wp2_with fail;refine HC2.out.mono ?_;rintro e w2 ⟨rfl,A,a,hr2,hp2,ho2⟩;obtain ⟨C2,hC2⟩:∃C,((C1.setIfInBounds (eo+1) (I x.z.cal.aI)).setIfInBounds (eo+1+1) (.slice A x.z.cal.aj.length a)).setIfInBounds (eo+1+2) (I (-1))=C:=⟨_,rfl⟩;rw [hC2] at hp2;have k2:∀j,4≤j→j<9→C2[eo+j]? =fZ[j]? :=fun j h1 h2=>by rw [←hC2,Array.getElem?_setIfInBounds_ne (by omega),Array.getElem?_setIfInBounds_ne (by omega),Array.getElem?_setIfInBounds_ne (by omega)];exact gK.out j (by omega) h2
 have l2:C2.size=cs.size:=by rw [←hC2,Array.size_setIfInBounds,Array.size_setIfInBounds,Array.size_setIfInBounds];exact l1
 have HP2:=ae (lU.out.trans hp2);have mJ:=ae (aX ho2 lU.out.size);have jr:=ae hC2;have qy:=ae (zS M w2.drew rb eb (eo+1+4) t C2 x.z.start _ hr2.drew (by omega) (by omega) hp2.tgt (by omega) hM hne);have ja:=ae k2;clear hr2 hp2 ho2 HC2 hC2 k2;go_wp2_with fail;go_still_tail 7,(by kernel_rfl);go_wp2_with fail;refine qy.out.mono ?_;rintro e w3 ⟨rfl,hr3,hp3⟩;obtain ⟨C3,IE⟩:∃C,C2.setIfInBounds (eo+1+4) (I x.z.start)=C:=⟨_,rfl⟩;rw [IE] at hp3;have k3:∀j,6≤j→j<9→C3[eo+j]? =fZ[j]? :=fun j h1 h2=>by rw [←IE,Array.getElem?_setIfInBounds_ne (by omega)];exact ja.out j (by omega) h2
 have l3:C3.size=cs.size:=by rw [←IE,Array.size_setIfInBounds];exact l2
 have hk3:∀b,w.heap.size≤b→b<w2.heap.size→w3.heap[b]? =w2.heap[b]? :=fun b h1 h2=>hp3.block b h2 (by omega) (by omega);have mV:=ae (bf mJ.out hk3);have dV:=ae (HP2.out.trans hp3.bz);have xg:=ae IE;have qH:=ae (qX M w3 rb eb (eo+1+5) none 0 _ ((hp3.cell _).trans (k3 6 (by decide) (by decide))) hr3);have kX:=ae k3;clear hr3 hp3 qy IE k3 hk3;go_wp2_with fail;refine qH.out.mono ?_;rintro e w4 ⟨rfl,hr4,hk4⟩;have pV:=ae (dV.out.jZ hk4 (dS hel dV.out.size) hne);have uZ:=ae (jI mV.out hk4 hrw);have yt:=ae (iY M w4.drew rb eb (eo+1+6) 8 t C3 x.z.hor x.z.hor [] (by rw [List.append_nil];exact hr4.drew) (by omega) (O6 _ (by unfold fits;omega) _) pV.out.tgt (by omega) hM hne);clear hr4 hk4 qH;go_wp2_with fail;go_still_tail 7,(by kernel_rfl);go_wp2_with fail;refine yt.out.mono ?_;rintro e w5 ⟨rfl,tq,xA⟩;have hk5:∀b,w.heap.size≤b→b<w4.heap.size→w5.heap[b]? =w4.heap[b]? :=fun b h1 h2=>xA.block b h2 (by omega) (by omega);have sH:=ae (bf uZ.out hk5);have EU:=ae (pV.out.trans xA.bz);have rq:=ae (EK M w5 rb eb (eo+1+7) none 0 ((xA.cell _).trans (by rw [Array.getElem?_setIfInBounds_ne (by omega)];exact kX.out 8 (by decide) (by decide))) tq);clear tq xA yt hk5;go_wp2_with fail;refine rq.out.mono ?_;rintro e w6 ⟨rfl,hb6⟩;exact ⟨rfl,rfl,_,by rw [Array.size_setIfInBounds,l3],EU.out.grow hb6 (dS hel EU.out.size) hne⟩
end Go.Proofs.YtdibbemgpikgjaaGreat
