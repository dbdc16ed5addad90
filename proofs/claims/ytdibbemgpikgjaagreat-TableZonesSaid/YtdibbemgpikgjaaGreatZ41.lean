/- The texts Lg, Lh, Li, in this order. -/
import Derived.Test.YtdibbemgpikgjaaGreatZ00
import Derived.Test.YtdibbemgpikgjaaGreatZ07
import Derived.Test.YtdibbemgpikgjaaGreatZ18
import Derived.Test.YtdibbemgpikgjaaGreatZ28
import Derived.Test.YtdibbemgpikgjaaGreatZ33
import Derived.Test.YtdibbemgpikgjaaGreatZ39
import Derived.Test.YtdibbemgpikgjaaGreatZ40
set_option maxRecDepth 10000
set_option maxHeartbeats 8000000
namespace Go.Proofs.YtdibbemgpikgjaaGreat
open Go Go.RowKit
def VQ (lo:Nat) (A:Option Addr) (ts:List eF):Prop:=rq lo A (ts.flatMap eF.cells)∧∀y∈ts,uq lo y
def PY (w:World) (e:Ending) (w':World):Prop:=
 ∃A n c ts,e= .returned (.slice A n c)∧ts.length=n∧n≤5∧jR w' w'.heap.size A ts∧(∀y∈ts,Ey y.t)∧VQ w.heap.size A ts∧Below w.heap.size w w'
theorem xx.fin {w W:World} {rc:Array Value} {k c:Nat} {A:Option Addr} {ts:List eF} (h:xx w rc k c A ts W):VQ w.heap.size A ts:=by
 refine ⟨?_,fun y hy=>(h.mem y hy).low (Nat.le_succ _)⟩;rcases h.own.2 with ⟨hv,hn⟩|⟨g,cap,cur,hv,hg,_⟩
 ·refine .inl ?_;rw [h.own.1,hn,Nat.zero_mul]
 ·injection hv with h1 _ _;exact .inr ⟨g,0,h1,by omega⟩
theorem uq.mono {lo lo':Nat} {y:eF} (h:uq lo y) (hl:lo'≤lo):uq lo' y:=
 have f:∀ {A cs},rq lo A cs→rq lo' A cs:=fun h=>h.imp id fun ⟨b,off,e,h1⟩=>⟨b,off,e,Nat.le_trans hl h1⟩
 ⟨f h.1,fun z hz=>⟨f (h.2 z hz).1,f (h.2 z hz).2.1,f (h.2 z hz).2.2.1,f (h.2 z hz).2.2.2⟩⟩
theorem jh.grow {lo:Nat} {v:Value} {W W':World} {y:eF} (h:jh lo v W y) (hb:Below W.heap.size W W'):jh lo v W' y:=h.keep hb.size fun b _ h2 h3=>⟨hb.block b h2,h3⟩
theorem U7 {vb B B':Nat} (h:vb<B):∀b,B≤b→b<B'→some b≠(Value.slice (some ⟨vb,0,none⟩) 1 1).ownBlock:=fun b h1 _ e=>by
 have e2:b=vb:=by simpa [Value.ownBlock] using e
 omega
theorem MC {lo:Nat} (B:Nat):∀b,lo≤b→b<B→some b≠(Value.slice (some ⟨B,0,none⟩) 1 1).ownBlock:=fun b _ h1 e=>by
 have e2:b=B:=by simpa [Value.ownBlock] using e
 omega
structure Ui (w:World) (r:nV) (V:World) (k c:Nat) (A:Option Addr) (ts:List eF) (vb:Nat) (y:eF) (W:World):Prop where
 md:xx w r.cells.toArray k c A ts W
 var:AV vb 32 (ai y.t (.slice y.A y.zs.length y.c)) W
 mem:jh (w.heap.size+1) (.slice A k c) W y
 each:Yq y
theorem Ui.of {w V W:World} {r:nV} {k c vb:Nat} {A:Option Addr} {ts:List eF} {y:eF} {d:List UInt8} (h:xx w r.cells.toArray k c A ts V) {cs:Array Value} (hb:Below V.heap.size V (W.setRow vb cs)) (hv:AV vb 32 (ai {y.t with bK:=d} (.slice y.A y.zs.length y.c)) (W.setRow vb cs))
  (hm:jh V.heap.size (.slice (some ⟨vb,0,none⟩) 1 1) W y) (ht:kF W W.heap.size y) (hM:Ey y.t) (hd:d.length=32):Ui w r V k c A ts vb ⟨{y.t with bK:=d},y.A,y.c,y.zs⟩ (W.setRow vb cs):=by
 have hs:(W.setRow vb cs).heap.size=W.heap.size:=by simp [World.setRow]
 have hlt:=h.lt;have hm2:jh V.heap.size (.slice (some ⟨vb,0,none⟩) 1 1) (W.setRow vb cs) y:=hm.keep (by omega) fun b _ _ h3=>⟨setRow_other _ _ b _ (fun e=>h3 (by rw [e];rfl)),h3⟩;have JH:jh (w.heap.size+1) (.slice A k c) (W.setRow vb cs) y:=hm2.vary (by omega) fun b h1 _=>h.qg b h1;exact ⟨h.grow hb,hv,JH,⟨hM.ZH d,ht.names,ht.prev,hd⟩⟩
theorem Q5 (r:nV) (w:World) (hr:uo w w.heap.size r):
  Calls Tryz.prog 9 #[.agg r.cells.toArray] w (PY w):=by
 have qw:=ae hr.key;have hnl:=hr.len;obtain ⟨n,hn⟩:∃n,r.its.length=n:=⟨_,rfl⟩;rw [hn] at hnl;have Ad:=ae hn;have HRR:=ae hr;have H0:Hid (xx w r.cells.toArray 0 0 none [] (w.alloc (.cells r.cells.toArray 27))):=ae ⟨AV.new w _ _,ag w _,World.ownsRow_nil _ _ _ _,(fun _ h=>nomatch h),(fun _ h=>nomatch h)⟩;clear hr hn;go_enter Tryz.func9,Tryz.ntmps9;go_wp2_with fail;generalize w.alloc (.cells r.cells.toArray 27)=W0 at H0 ⊢
 go_loopw [3,4] (fun o i wr=>∃(k c:Nat) (A:Option Addr) (ts:List eF),k≤5∧k≤n∧o= .slice A k c∧i=I (k:Nat)∧ts.length=k∧xx w r.cells.toArray k c A ts wr) (fun _ i _=>5 - (intOf i).toNat)
 case atStart=>exact ⟨0,0,none,[],by omega,by omega,rfl,rfl,rfl,H0.out⟩
 case round=>
  clear H0;obtain ⟨k,c,A,ts,hk5,hkn,rfl,rfl,htl,hw⟩:=hrel;have HX0:=ae hw;have Ae:=ae htl;clear hw htl;have c33:wr.cell? ⟨w.heap.size,33,none⟩=some (.slice r.A n r.c):=(HX0.out.it.cell 33).trans (by rw [MJ r qw.out,Ad.out]);by_cases hlt:k<n∧k<5
  ·obtain ⟨hln,hl5⟩:=hlt;have i1:(k:Int)<(n:Int):=by omega
   have i2:(k:Int)<5:=by omega
   obtain ⟨x,hx⟩:∃x,r.its[k]? =some x:=⟨_,dE (by rw [Ad.out];exact hln)⟩;obtain ⟨ib,io,hA,hib,hcl⟩:=HRR.out.row.there (by rw [dJ (fun x:Gq=>x.cells.toList) r.its (show∀x∈r.its,x.cells.toList.length=2 from fun _ _=>rfl),Ad.out];omega);have O3:=ae hA;have HR:Hid (w.rangeAt ib (io+k*2) x.cells.toList):=ae (aB.elem (s:=2) (f:=fun x:Gq=>x.cells.toList) (fun _ _=>rfl) hcl k x hx);have HIT:=ae (HRR.out.each x (fK hx));rw [hA] at c33;have Ll:Hid (∀W,xx w r.cells.toArray k c A ts W→Calls Tryz.prog 25 #[.slice A k c, .int .u8 (r.Hg.toNat:Int), .agg x.cells] W (WE W k r.Hg x)):=ae (fun W h=>Zw x r.Hg A c k ts W ((HIT.out.keep h.lo).more h.lo.size) Ae.out (by omega) h.chain (fun y hy=>(h.each y hy).made));clear hx hcl hA;go_upto_block 1 with fail
   go_cut [3,4] (fun o p wx=>p=I (k:Nat)∧∃A2 c2 y,o= .slice A2 (k+1) c2∧xx w r.cells.toArray (k+1) c2 A2 (ts++ [y]) wx)
   case first=>
    go_upto_region 5 with fail;obtain ⟨V0,hV0⟩:∃V,wr.drew=V:=⟨_,rfl⟩
    go_cut [5] (fun p wx=>∃vb y,p= .pointer (some ⟨vb,0,none⟩)∧Ui w r V0 k c A ts vb y wx)
    case first=>
     clear c33;have hS0:xw w r ib io n k x wr.drew:=xw.of qw.out Ad.out O3.out HX0.out.drew.it HX0.out.drew.lo HR.out hib;refine wp_region_held_drew (S:=xw w r ib io n k x) (by kernel_rfl) hS0 (fun _=>?_);have rf:=ae HX0.out.drew;have HB0:Hid (Below wr.drew.heap.size wr.drew wr.drew):=ae (Below.refl _ _);rw [hV0] at rf hS0 HB0 ⊢;refine aK 0 (.pointer (some ⟨w.heap.size,1,none⟩)) 19 hS0 (fun w' hSw=>?_) ?_
     ·obtain ⟨s0,s1,_⟩:=hSw;go_simp
     refine ax ?_;refine aK 2 (.slice A k c) 21 hS0 (fun w' hSw=>?_) ?_
     ·obtain ⟨s0,s1,_⟩:=hSw;go_simp
     refine ax ?_;refine aK 3 (.pointer (some ⟨w.heap.size,0,none⟩)) 22 hS0 (fun w' hSw=>?_) ?_
     ·obtain ⟨s0,s1,_⟩:=hSw;go_simp
     refine ax ?_;refine aK 5 (.pointer (some ⟨w.heap.size,33,none⟩)) 24 hS0 (fun w' hSw=>?_) ?_
     ·obtain ⟨s0,s1,_⟩:=hSw;go_simp
     refine ax ?_;refine aK 7 (I (k:Int)) 26 hS0 (fun w' hSw=>?_) ?_
     ·obtain ⟨s0,s1,_⟩:=hSw;go_simp
     refine ax ?_;refine mW 1 ( .agg (cD r.key)) 20 rfl rfl hS0 (yieldsIf_load_mid rfl 24 _ rfl w.heap.size (1) rfl (az r.key) _ (fun _ h=>h.2.2.1) Tryz.underlying24 rfl (by simp only [az,List.length_map,qw.out];kernel_rfl)) ?_;refine ax ?_;refine aK 4 (.int .u8 (r.Hg.toNat:Int)) 23 hS0 (fun w' hSw=>?_) ?_
     ·obtain ⟨s0,s1,_⟩:=hSw;go_simp
     refine ax ?_;refine aK 6 (.slice (some ⟨ib,io,none⟩) n r.c) 25 hS0 (fun w' hSw=>?_) ?_
     ·obtain ⟨s0,s1,_⟩:=hSw;go_simp
     refine ax ?_;refine aK 8 (.pointer (some ⟨ib,io+k*2,none⟩)) 27 hS0 (fun w' hSw=>?_) ?_
     ·obtain ⟨s0,s1,_⟩:=hSw;go_simp
     refine ax ?_;refine mW 9 ( .agg x.cells) 28 rfl rfl hS0 (yieldsIf_load_mid rfl 80 _ rfl ib (io+k*2) rfl x.cells.toList _ (fun _ h=>h.2.2.2) Tryz.underlying80 rfl (by kernel_rfl)) ?_;refine ax ?_;refine lJ 10 15 (fun K hK=>?_) (fun K hK=>?_)
     ·go_simp;refine (Ll.out V0 rf.out).mono ?_;rintro e W1 ⟨y,rfl,hy1,hm1,hm2,JH,hm4,hm5,hl1,hb1⟩;have HM:=ae (Ik (by omega) hm1 hm2 JH hm4 hm5);have Ua:=ae hy1;have kX:=ae (show uq V0.heap.size y from hl1.mono HB0.out.size);clear hm1 hm2 JH hm4 hm5 hy1 hl1;have HB1:Hid (Below V0.heap.size V0 W1):=ae (ah HB0.out hb1);have uI:=ae (rf.out.grow HB1.out);have hS1:xw w r ib io n k x W1:=xw.of qw.out Ad.out O3.out uI.out.it uI.out.lo HR.out hib;clear hb1;refine hK.out _ _ hS1 (fun _=>?_);clear hK K;refine ax ?_;refine lJ 11 15 (fun K hK=>?_) (fun K hK=>?_)
      ·go_simp;refine (Bh r.key qw.out y W1 Ua.out HM.out).mono ?_;rintro e W2 ⟨d,hd,rfl,hb2⟩;have HD:=ae hd;have HYT2:=ae (Ua.out.grow hb2);clear hd;have HB2:Hid (Below V0.heap.size V0 W2):=ae (ah HB1.out hb2);have uJ:=ae (rf.out.grow HB2.out);have hS2:xw w r ib io n k x W2:=xw.of qw.out Ad.out O3.out uJ.out.it uJ.out.lo HR.out hib;clear hb2;refine hK.out _ _ hS2 (fun _=>?_);clear hK K;refine ax ?_;refine aK 12 (.tuple #[.agg (ai {y.t with bK:=d} (.slice y.A y.zs.length y.c)), .int .i64 0]) 18 hS2 (fun w' hSw=>?_) ?_
       ·obtain ⟨s0,s1,_⟩:=hSw;go_simp
       refine ax ?_;refine aK 13 (.agg (ai {y.t with bK:=d} (.slice y.A y.zs.length y.c))) 31 hS2 (fun w' hSw=>?_) ?_
       ·obtain ⟨s0,s1,_⟩:=hSw;go_simp
       refine ax ?_;refine aK 14 (.int .i64 0) 32 hS2 (fun w' hSw=>?_) ?_
       ·obtain ⟨s0,s1,_⟩:=hSw;go_simp
       refine ax ?_;refine bI 15 (fun K hK=>?_);refine fQ (o:=⟨some 5, .alloc 32,_,_,_,none⟩) rfl 32 rfl (ai bQ (.slice none 0 0)) fF ?_;have HB3:Hid (Below V0.heap.size V0 (W2.alloc (.cells (ai bQ (.slice none 0 0)) 32))):=ae (ah HB2.out (ag W2 _));have BR:=ae (rf.out.grow HB3.out);have hS3:xw w r ib io n k x (W2.alloc (.cells (ai bQ (.slice none 0 0)) 32)):=xw.of qw.out Ad.out O3.out BR.out.it BR.out.lo HR.out hib;have vH:Hid (AV W2.heap.size 32 (ai bQ (.slice none 0 0)) (W2.alloc (.cells (ai bQ (.slice none 0 0)) 32))):=ae (AV.new W2 _ _);obtain ⟨vb3,hve3,hvb3⟩:∃b,W2.heap.size=b∧V0.heap.size≤b:=⟨_,rfl,HB2.out.size⟩;have Yg:Hid (jh V0.heap.size (.slice (some ⟨W2.heap.size,0,none⟩) 1 1) (W2.alloc (.cells (ai bQ (.slice none 0 0)) 32)) y):=ae (jh.of (HYT2.out.keep (ag W2 _)) (ag W2 (.cells (ai bQ (.slice none 0 0)) 32)).size kX.out (Nat.le_refl _) (MC W2.heap.size));have Ub:=ae (HYT2.out.grow (ag W2 (.cells (ai bQ (.slice none 0 0)) 32)));refine hK.out _ _ hS3 (fun _=>?_);clear hK K;refine ax ?_;generalize (W2.alloc (.cells (ai bQ (.slice none 0 0)) 32))=W3 at HB3 BR hS3 vH Yg Ub ⊢;rw [hve3] at vH Yg ⊢;clear hve3;have TI:Hid ((Tryz.prog.info? 32).map (·.size)=some (ai {y.t with bK:=d} (.slice y.A y.zs.length y.c)).size):=ae (cu {y.t with bK:=d} _ Ub.out.prev HD.out);have XB:Hid ((ai bQ (.slice none 0 0)).size=(ai {y.t with bK:=d} (.slice y.A y.zs.length y.c)).size):=ae ((bG bQ _ rfl rfl).trans (bG {y.t with bK:=d} _ Ub.out.prev HD.out).symm);refine bI 16 (fun K hK=>?_);refine jB (o:=⟨none, .store 32 (.tmp 5) (.tmp 31),_,_,_,none⟩) rfl 32 _ _ rfl vb3 (ai {y.t with bK:=d} (.slice y.A y.zs.length y.c)) rfl rfl 32 (ai bQ (.slice none 0 0)) vH.out.var TI.out XB.out (bf _ _ _ _) ?_;have VX:Hid (Below V0.heap.size V0 (W3.setRow vb3 (ai {y.t with bK:=d} (.slice y.A y.zs.length y.c)))):=ae (aC HB3.out hvb3 _);have yU:=ae (rf.out.grow VX.out);have Ph:xw w r ib io n k x (W3.setRow vb3 (ai {y.t with bK:=d} (.slice y.A y.zs.length y.c))):=xw.of qw.out Ad.out O3.out yU.out.it yU.out.lo HR.out hib;refine hK.out _ _ Ph (fun _=>?_);clear hK K;try simp only [Act.put]
       refine aK 17 (.int .i64 0) 6 Ph (fun w' hSw=>?_) ?_
       ·obtain ⟨s0,s1,_⟩:=hSw;go_simp
       try simp only [Act.put]
       refine wpAnyH_done (by kernel_rfl) ?_ _;have Pv:Hid (Ui w r V0 k c A ts vb3 ⟨{y.t with bK:=d},y.A,y.c,y.zs⟩ (W3.setRow vb3 (ai {y.t with bK:=d} (.slice y.A y.zs.length y.c)))):=ae (Ui.of rf.out VX.out (vH.out.lq _) Yg.out Ub.out HM.out HD.out);go_wp2_with fail;go_meet;exact ⟨_,_,rfl,Pv.out⟩
      ·refine fQ (o:=⟨some 5, .alloc 32,_,_,_,none⟩) rfl 32 rfl (ai bQ (.slice none 0 0)) fF ?_;have HB4:Hid (Below V0.heap.size V0 (W1.alloc (.cells (ai bQ (.slice none 0 0)) 32))):=ae (ah HB1.out (ag W1 _));have Tn:=ae (rf.out.grow HB4.out);have hS4:xw w r ib io n k x (W1.alloc (.cells (ai bQ (.slice none 0 0)) 32)):=xw.of qw.out Ad.out O3.out Tn.out.it Tn.out.lo HR.out hib;have Tj:Hid (AV W1.heap.size 32 (ai bQ (.slice none 0 0)) (W1.alloc (.cells (ai bQ (.slice none 0 0)) 32))):=ae (AV.new W1 _ _);obtain ⟨vb4,hve4,hvb4⟩:∃b,W1.heap.size=b∧V0.heap.size≤b:=⟨_,rfl,HB1.out.size⟩;have Yh:Hid (jh V0.heap.size (.slice (some ⟨W1.heap.size,0,none⟩) 1 1) (W1.alloc (.cells (ai bQ (.slice none 0 0)) 32)) y):=ae (jh.of (Ua.out.keep (ag W1 _)) (ag W1 (.cells (ai bQ (.slice none 0 0)) 32)).size kX.out (Nat.le_refl _) (MC W1.heap.size));have Yc:=ae (Ua.out.grow (ag W1 (.cells (ai bQ (.slice none 0 0)) 32)));refine hK.out _ _ hS4 (fun _=>?_);clear hK K;refine ax ?_;generalize (W1.alloc (.cells (ai bQ (.slice none 0 0)) 32))=W4 at HB4 Tn hS4 Tj Yh Yc ⊢;rw [hve4] at Tj Yh ⊢;clear hve4;refine bI 11 (fun K hK=>?_);go_simp;refine (Bh r.key qw.out y W4 Yc.out HM.out).mono ?_;rintro e W5 ⟨d,hd,rfl,hb5⟩;have HD:=ae hd;have Yd:=ae (Yc.out.grow hb5);have HYV5:=ae (Yh.out.grow hb5);clear hd;have kT:Hid (Below V0.heap.size V0 W5):=ae (ah HB4.out hb5);have xq:=ae (rf.out.grow kT.out);have hS5:xw w r ib io n k x W5:=xw.of qw.out Ad.out O3.out xq.out.it xq.out.lo HR.out hib;have HV5:=ae (Tj.out.below hb5);clear hb5;refine hK.out _ _ hS5 (fun _=>?_);clear hK K;refine ax ?_;refine aK 12 (.tuple #[.agg (ai {y.t with bK:=d} (.slice y.A y.zs.length y.c)), .int .i64 0]) 18 hS5 (fun w' hSw=>?_) ?_
       ·obtain ⟨s0,s1,_⟩:=hSw;go_simp
       refine ax ?_;refine aK 13 (.agg (ai {y.t with bK:=d} (.slice y.A y.zs.length y.c))) 31 hS5 (fun w' hSw=>?_) ?_
       ·obtain ⟨s0,s1,_⟩:=hSw;go_simp
       refine ax ?_;refine aK 14 (.int .i64 0) 32 hS5 (fun w' hSw=>?_) ?_
       ·obtain ⟨s0,s1,_⟩:=hSw;go_simp
       refine ax ?_;have TI:Hid ((Tryz.prog.info? 32).map (·.size)=some (ai {y.t with bK:=d} (.slice y.A y.zs.length y.c)).size):=ae (cu {y.t with bK:=d} _ Yd.out.prev HD.out);have XB:Hid ((ai bQ (.slice none 0 0)).size=(ai {y.t with bK:=d} (.slice y.A y.zs.length y.c)).size):=ae ((bG bQ _ rfl rfl).trans (bG {y.t with bK:=d} _ Yd.out.prev HD.out).symm);refine bI 16 (fun K hK=>?_);refine jB (o:=⟨none, .store 32 (.tmp 5) (.tmp 31),_,_,_,none⟩) rfl 32 _ _ rfl vb4 (ai {y.t with bK:=d} (.slice y.A y.zs.length y.c)) rfl rfl 32 (ai bQ (.slice none 0 0)) HV5.out.var TI.out XB.out (bf _ _ _ _) ?_;have VX:Hid (Below V0.heap.size V0 (W5.setRow vb4 (ai {y.t with bK:=d} (.slice y.A y.zs.length y.c)))):=ae (aC kT.out hvb4 _);have yU:=ae (rf.out.grow VX.out);have Ph:xw w r ib io n k x (W5.setRow vb4 (ai {y.t with bK:=d} (.slice y.A y.zs.length y.c))):=xw.of qw.out Ad.out O3.out yU.out.it yU.out.lo HR.out hib;refine hK.out _ _ Ph (fun _=>?_);clear hK K;try simp only [Act.put]
       refine aK 17 (.int .i64 0) 6 Ph (fun w' hSw=>?_) ?_
       ·obtain ⟨s0,s1,_⟩:=hSw;go_simp
       try simp only [Act.put]
       refine wpAnyH_done (by kernel_rfl) ?_ _;have Pv:Hid (Ui w r V0 k c A ts vb4 ⟨{y.t with bK:=d},y.A,y.c,y.zs⟩ (W5.setRow vb4 (ai {y.t with bK:=d} (.slice y.A y.zs.length y.c)))):=ae (Ui.of rf.out VX.out (HV5.out.lq _) HYV5.out Yd.out HM.out HD.out);go_wp2_with fail;go_meet;exact ⟨_,_,rfl,Pv.out⟩
     ·refine fQ (o:=⟨some 5, .alloc 32,_,_,_,none⟩) rfl 32 rfl (ai bQ (.slice none 0 0)) fF ?_;have Cc:Hid (Below V0.heap.size V0 (V0.alloc (.cells (ai bQ (.slice none 0 0)) 32))):=ae (ah HB0.out (ag V0 _));have nU:=ae (rf.out.grow Cc.out);have hS6:xw w r ib io n k x (V0.alloc (.cells (ai bQ (.slice none 0 0)) 32)):=xw.of qw.out Ad.out O3.out nU.out.it nU.out.lo HR.out hib;have Tm:Hid (AV V0.heap.size 32 (ai bQ (.slice none 0 0)) (V0.alloc (.cells (ai bQ (.slice none 0 0)) 32))):=ae (AV.new V0 _ _);obtain ⟨vb6,hve6,hvb6⟩:∃b,V0.heap.size=b∧V0.heap.size≤b:=⟨_,rfl,HB0.out.size⟩;refine hK.out _ _ hS6 (fun _=>?_);clear hK K;refine ax ?_;generalize (V0.alloc (.cells (ai bQ (.slice none 0 0)) 32))=W6 at Cc nU hS6 Tm ⊢;rw [hve6] at Tm ⊢;clear hve6;refine bI 10 (fun K hK=>?_);go_simp;refine (Ll.out W6 nU.out).mono ?_;rintro e W7 ⟨y,rfl,hy7,hm1,hm2,JH,hm4,hm5,hl7,hb7⟩;have HM:=ae (Ik (by omega) hm1 hm2 JH hm4 hm5);have HYT7:=ae hy7;have kX:=ae (show uq V0.heap.size y from hl7.mono Cc.out.size);have HYV7:Hid (jh V0.heap.size (.slice (some ⟨vb6,0,none⟩) 1 1) W7 y):=ae (jh.of hy7 (Nat.le_refl _) hl7 Cc.out.size (U7 Tm.out.lt));clear hm1 hm2 JH hm4 hm5 hy7 hl7;have qp:Hid (Below V0.heap.size V0 W7):=ae (ah Cc.out hb7);have jl:=ae (rf.out.grow qp.out);have hS7:xw w r ib io n k x W7:=xw.of qw.out Ad.out O3.out jl.out.it jl.out.lo HR.out hib;have HV7:=ae (Tm.out.below hb7);clear hb7;refine hK.out _ _ hS7 (fun _=>?_);clear hK K;refine ax ?_;refine bI 11 (fun K hK=>?_);go_simp;refine (Bh r.key qw.out y W7 HYT7.out HM.out).mono ?_;rintro e W8 ⟨d,hd,rfl,hb8⟩;have HD:=ae hd;have Ye:=ae (HYT7.out.grow hb8);have HYV8:=ae (HYV7.out.grow hb8);clear hd;have Ej:Hid (Below V0.heap.size V0 W8):=ae (ah qp.out hb8);have Jm:=ae (rf.out.grow Ej.out);have hS8:xw w r ib io n k x W8:=xw.of qw.out Ad.out O3.out Jm.out.it Jm.out.lo HR.out hib;have X3:=ae (HV7.out.below hb8);clear hb8;refine hK.out _ _ hS8 (fun _=>?_);clear hK K;refine ax ?_;refine aK 12 (.tuple #[.agg (ai {y.t with bK:=d} (.slice y.A y.zs.length y.c)), .int .i64 0]) 18 hS8 (fun w' hSw=>?_) ?_
      ·obtain ⟨s0,s1,_⟩:=hSw;go_simp
      refine ax ?_;refine aK 13 (.agg (ai {y.t with bK:=d} (.slice y.A y.zs.length y.c))) 31 hS8 (fun w' hSw=>?_) ?_
      ·obtain ⟨s0,s1,_⟩:=hSw;go_simp
      refine ax ?_;refine aK 14 (.int .i64 0) 32 hS8 (fun w' hSw=>?_) ?_
      ·obtain ⟨s0,s1,_⟩:=hSw;go_simp
      refine ax ?_;have TI:Hid ((Tryz.prog.info? 32).map (·.size)=some (ai {y.t with bK:=d} (.slice y.A y.zs.length y.c)).size):=ae (cu {y.t with bK:=d} _ Ye.out.prev HD.out);have XB:Hid ((ai bQ (.slice none 0 0)).size=(ai {y.t with bK:=d} (.slice y.A y.zs.length y.c)).size):=ae ((bG bQ _ rfl rfl).trans (bG {y.t with bK:=d} _ Ye.out.prev HD.out).symm);refine bI 16 (fun K hK=>?_);refine jB (o:=⟨none, .store 32 (.tmp 5) (.tmp 31),_,_,_,none⟩) rfl 32 _ _ rfl vb6 (ai {y.t with bK:=d} (.slice y.A y.zs.length y.c)) rfl rfl 32 (ai bQ (.slice none 0 0)) X3.out.var TI.out XB.out (bf _ _ _ _) ?_;have VX:Hid (Below V0.heap.size V0 (W8.setRow vb6 (ai {y.t with bK:=d} (.slice y.A y.zs.length y.c)))):=ae (aC Ej.out hvb6 _);have yU:=ae (rf.out.grow VX.out);have Ph:xw w r ib io n k x (W8.setRow vb6 (ai {y.t with bK:=d} (.slice y.A y.zs.length y.c))):=xw.of qw.out Ad.out O3.out yU.out.it yU.out.lo HR.out hib;refine hK.out _ _ Ph (fun _=>?_);clear hK K;try simp only [Act.put]
      refine aK 17 (.int .i64 0) 6 Ph (fun w' hSw=>?_) ?_
      ·obtain ⟨s0,s1,_⟩:=hSw;go_simp
      try simp only [Act.put]
      refine wpAnyH_done (by kernel_rfl) ?_ _;have Pv:Hid (Ui w r V0 k c A ts vb6 ⟨{y.t with bK:=d},y.A,y.c,y.zs⟩ (W8.setRow vb6 (ai {y.t with bK:=d} (.slice y.A y.zs.length y.c)))):=ae (Ui.of rf.out VX.out (X3.out.lq _) HYV8.out Ye.out HM.out HD.out);go_wp2_with fail;go_meet;exact ⟨_,_,rfl,Pv.out⟩
    case rest=>
     obtain ⟨vb,y,rfl,ht⟩:=hcut;have HT:=ae ht;have dM:Hid ((Tryz.prog.info? 32).map (·.size)=some (ai y.t (.slice y.A y.zs.length y.c)).size):=ae (cu y.t _ ht.each.prev ht.each.bK);have H68:Hid ((ai y.t (.slice y.A y.zs.length y.c)).size=68):=ae (bG y.t _ ht.each.prev ht.each.bK);have hlt:=ht.md.lt;obtain ⟨i0,hi,hq0,hq1,hq2⟩:=info_parts qI;have HI:=ae hi;have zD:=ae hq0;have oG:=ae hq1;have lL:=ae hq2;have HY68:=ae ht.each.size;clear ht hi hq0 hq1 hq2 HX0 c33 hV0;go_wp2_with (first
      |((with_reducible refine fO 32 ?_);go_must (refine aW rfl _ _ rfl vb rfl (ai y.t (.slice y.A y.zs.length y.c)) HT.out.var.jK _ Tryz.underlying32 rfl dM.out ?_))
      |((with_reducible refine qF 39 ?_);go_must (refine uZ rfl _ rfl (ai y.t (.slice y.A y.zs.length y.c)) H68.out rfl ?_))
      |(at_builtin;go_must (refine wpList_append_lies _ rfl _ _ 39 rfl (w.heap.size+1) 32 i0 (.agg (ai bQ (.slice none 0 0))) 68 112 Tryz.underlying39 HI.out zD.out oG.out lL.out rfl (by decide) (.slice A k c) k (ts.flatMap eF.cells) rfl (own_below HT.out.md.own (ag wc _)) ⟨wc.heap.size,0,none⟩ 1 1 y.cells rfl HY68.out (dC _ _ _ _ rfl) (Vp y) (by omega) (by unfold maxLen;omega) (by omega) (by simp;omega) _ rfl ?_;intro gg cap w6 hown6 hgrow6 fJ _;have HN:Hid (xx w r.cells.toArray (k+1) cap (some ⟨gg,0,none⟩) (ts++ [y]) w6):=ae (HT.out.md.add HT.out.mem HT.out.each rfl hown6 hgrow6 fJ);clear hown6 hgrow6 fJ)))
     go_meet;exact ⟨rfl,some ⟨gg,0,none⟩,cap,y,rfl,HN.out⟩
   case rest=>
    obtain ⟨rfl,A2,c2,y,rfl,hw2⟩:=hcut;have HW2:=ae hw2;clear hw2 HX0;go_wp2_with fail;go_roundw
    case rel=>exact ⟨k+1,c2,A2,_,by omega,by omega,rfl,by go_num,by rw [bJ,Ae.out];rfl,HW2.out⟩
    case measure=>simp [intOf];omega
  ·have hex:¬(k:Int)<(n:Int)∨((k:Int)<(n:Int)∧¬(k:Int)<5):=by omega
   rcases hex with h1|⟨h1,h2⟩
   all_goals
    go_wp2_with fail;go_ret;exact ⟨A,k,c,ts,rfl,Ae.out,hk5,HX0.out.chain,fun y hy=>(HX0.out.each y hy).made,HX0.out.fin,HX0.out.lo⟩
attribute [local go_sem] eQ fA eU fC iZ ja eH eX eP eY
def pz:List PanicEntry:= [{v:= .iface 107 (.agg #[]),recovered:=false}]
def VS (w:World) (e:Ending) (w':World):Prop:=e= .panicked pz∧Below w.heap.size w w'
def DiesT (w:World) (rb pb:Nat) (t:TypeId) (cs:Array Value) (e:Ending) (w':World):Prop:=e= .panicked pz∧∃C:Array Value,C.size=cs.size∧bU w rb pb t C w'
def pK (x:Ze):List UInt8:=(le x.name.size 1++x.name.data.toList)++(jw x.z.cal++(le x.z.start 2++(le 0 2++le x.z.hor 8)))
theorem RZ (M:Nat) (w:World) (rb n:Nat) (rest:List UInt8) (hr:gB M w rb rest) (hn:rest.length<n):
  Calls Tryz.prog 169 #[.pointer (some ⟨rb,0,none⟩),I n] w fun e w'=>e= .panicked pz∧w'=w:=by
 obtain ⟨⟨bb,off,c,h1,_⟩,_⟩:=hr;have hc0:w.cell? ⟨rb,0,none⟩=some (.slice (some ⟨bb,off,none⟩) rest.length c):=cell_of_row w rb 0 _ _ _ h1;obtain ⟨m,hm⟩:∃m,rest.length=m:=⟨_,rfl⟩;rw [hm] at hc0 hn;have n0:(m:Int)<(n:Int):=by omega
 clear h1 hm;go_enter Tryz.func169,Tryz.ntmps169
 go_wp2
 exact ⟨rfl,rfl,rfl⟩
theorem Iw (M:Nat) (w:World) (rb pb po size:Nat) (t:TypeId) (cs:Array Value) (rest:List UInt8) (hr:gB M w rb rest) (hn:rest.length<size) (hp:w.heap[pb]? =some (.cells cs t (0,0))) (hpo:po<cs.size) (pM:M≤pb) (hne:pb≠rb):
  Calls Tryz.prog 166 #[pt rb, .pointer (some ⟨pb,po,none⟩),I size] w fun e w'=>e= .panicked pz∧kM pb w w':=by
 refine (callsIn_wide (n:=3)).1 ?_;have hro:Fence.wide.round=none:=rfl;have h1:1≤3:=by omega
 have hlt:=hr.lt;have hpl:pb<w.heap.size:=(aZ.1 hp).1;have hMl:=hr.lo;have hc0:w.cell? ⟨pb,po,none⟩=some cs[po]:=by rw [cell_of_row w pb po _ _ _ hp];exact Array.getElem?_eq_getElem hpo
 have hf0:w.frozen? ⟨pb,po,none⟩=false:=frozen_of_row w pb po _ _ hp;obtain ⟨WS,hWS⟩:∃W,w.setCell ⟨pb,po,none⟩ (I 0)=W:=⟨_,rfl⟩;have Y7:kM pb w WS:=by rw [←hWS];exact ⟨rfl,rfl,rfl,by simp [World.setCell],fun k _ hk2=>heap_setCell_other _ _ k _ hk2⟩
 obtain ⟨W1,hW1⟩:∃W,WS.alloc (.cells #[.pointer (some ⟨pb,po,none⟩)] 115)=W:=⟨_,rfl⟩;have hk1:kM pb w W1:=by
  rw [←hW1];exact ⟨Y7.os,Y7.tape,Y7.output,Nat.le_trans Y7.size (by simp),fun k hk hk2=>(Below.heap_alloc WS _ k (dR hk Y7.size)).trans (Y7.block k hk hk2)⟩
 rw [←hWS] at hW1;have hr1:gB M W1 rb rest:=hr.of (hk1.block rb hlt (fun e=>hne e.symm)) fun k hk=>hk1.block k (by omega) (by omega);have HT:=ae (RZ M W1 rb size rest hr1 hn);have iP:=ae hk1;have HW1:=ae hW1;clear hr hr1 hk1 Y7 hW1 hWS hp;refine callsIn_of_wp_marks Tryz.func166 rfl trivial ?_ hro;simp only [Tryz.ntmps166,List.size_toArray,List.length_cons,List.length_nil,Nat.reduceAdd,Nat.reduceSub,Array.replicate_succ,Array.replicate_zero,List.push_toArray,List.append_toArray,List.nil_append,List.cons_append]
 gi_wp2_with first
  |(refine ⟨trivial,?_⟩;gi_at_call 169;rw [HW1.out];refine (callsIn_wide.2 HT.out).mono ?_;rintro e w2 ⟨rfl,rfl⟩)
 exact ⟨rfl,iP.out⟩
theorem Iq (M:Nat) (w:World) (rb size:Nat) (m:Int) (rest:List UInt8) (hr:gB M w rb rest) (hn:rest.length<size):
  Calls Tryz.prog 165 #[pt rb,I m,I size] w (VS w):=by
 have hl:=hr.lt;have hlo:=hr.lo;have hb:=ag w (.cells #[I 0] 3);have hpl:=heap_alloc_last w (.cells #[I 0] 3);have HC:=ae (Iw M (w.alloc (.cells #[I 0] 3)) rb w.heap.size 0 size 3 #[I 0] rest (hr.below hb hl) hn hpl (by decide) (by omega) (by omega));have HB:=ae hb;clear hr hb hpl;go_enter Tryz.func165,Tryz.ntmps165;go_wp2_with fail;refine HC.out.mono ?_;rintro e w1 ⟨rfl,hk⟩;exact ⟨rfl,rfl,hk.os,hk.tape,hk.output,by have:=hk.size;simp at this;omega,fun k hk2=>(hk.block k (by simp;omega) (by omega)).trans (HB.out.block k hk2)⟩
theorem Dj (M:Nat) (w:World) (rb lb lo:Nat) (A:Option Addr) (c:Nat) (hp:w.cell? ⟨lb,lo,none⟩=some (.slice A 0 c)) (hr:gB M w rb []):
  Calls Tryz.prog 64 #[.iface 109 (pt rb), .pointer (some ⟨lb,lo,none⟩),I 1, .func (.func 65) #[] #[]] w (VS w):=by
 have HC:=ae (Iq M w.drew rb 1 0 [] hr.drew (by decide));clear hr;go_enter Tryz.func64,Tryz.ntmps64;go_wp2_with fail;go_still_tail 9,(by kernel_rfl);go_wp2_with fail;refine HC.out.mono ?_;rintro e w1 ⟨rfl,hb1⟩;exact ⟨rfl,rfl,hb1.os,hb1.tape,hb1.output,hb1.size,hb1.block⟩
theorem Kz (M:Nat) (w:World) (rb eb eo:Nat) (t:TypeId) (cs:Array Value) (x:Ze) (hf:gZ x.z) (hs:x.name.size≤32) (hr:gB M w rb (pK x)) (hp:w.heap[eb]? =some (.cells cs t (0,0))) (hz:∀j,j<9→cs[eo+j]? =fM[j]?) (hM:M≤eb) (hne:eb≠rb):
  Calls Tryz.prog 43 #[.iface 109 (pt rb), .pointer (some ⟨eb,eo,none⟩)] w (DiesT w rb eb t cs):=by
 have hel:eb<w.heap.size:=(aZ.1 hp).1;have hrw:=hr.lt;have hz0:cs[eo]? =some (.string ⟨#[]⟩):=hz 0 (by decide);have hz8:eo+8<cs.size:=(aZ.1 ((hz 8 (by decide)).trans (rfl:fM[8]? =some (.slice none 0 0)))).1;have hr':gB M w.drew rb ((le x.name.size 1++x.name.data.toList)++(jw x.z.cal++(le x.z.start 2++(le 0 2++le x.z.hor 8)))):=by
  have h:=hr.drew;unfold pK at h;simpa only [List.append_assoc] using h
 have jf:=ae (xK M w.drew rb eb eo t cs ⟨#[]⟩ x.name _ hr' (by omega) hp hz0 hM hne);have HZ:Hid (∀j,1≤j→j<9→cs[eo+j]? =fM[j]?):=ae fun j _ hj=>hz j hj;have HF:=ae hf;have N9:=hf.start;have hho0:=hf.hor;clear hf hs hr hr' hp hz hz0;go_enter Tryz.func43,Tryz.ntmps43;go_wp2_with fail;go_still_tail 7,(by kernel_rfl);go_wp2_with fail;refine jf.out.mono ?_;rintro e w1 ⟨rfl,hr1,hp1⟩;obtain ⟨C1,G6⟩:∃C,cs.setIfInBounds eo (.string x.name)=C:=⟨_,rfl⟩;rw [G6] at hp1;have k1:∀j,1≤j→j<9→C1[eo+j]? =fM[j]? :=fun j h1 h2=>by rw [←G6,Array.getElem?_setIfInBounds_ne (by omega)];exact HZ.out j h1 h2
 have l1:C1.size=cs.size:=by rw [←G6,Array.size_setIfInBounds]
 have mY:=ae hp1.dB;have oG:=ae G6;have HC2:=ae (qX M w1 rb eb (eo+1) t C1 x.z.cal _ HF.out.cal hr1 hp1.tgt (by omega) (k1 2 (by decide) (by decide)) (k1 3 (by decide) (by decide)) (k1 4 (by decide) (by decide)) hM hne);have iP:=ae k1;clear hr1 hp1 jf G6 k1;go_wp2_with fail;refine HC2.out.mono ?_;rintro e w2 ⟨rfl,A,a,hr2,hp2,ho2⟩;obtain ⟨C2,hC2⟩:∃C,((C1.setIfInBounds (eo+1) (I x.z.cal.aN)).setIfInBounds (eo+1+1) (.slice A x.z.cal.au.length a)).setIfInBounds (eo+1+2) (I (-1))=C:=⟨_,rfl⟩;rw [hC2] at hp2;have k2:∀j,4≤j→j<9→C2[eo+j]? =fM[j]? :=fun j h1 h2=>by rw [←hC2,Array.getElem?_setIfInBounds_ne (by omega),Array.getElem?_setIfInBounds_ne (by omega),Array.getElem?_setIfInBounds_ne (by omega)];exact iP.out j (by omega) h2
 have l2:C2.size=cs.size:=by rw [←hC2,Array.size_setIfInBounds,Array.size_setIfInBounds,Array.size_setIfInBounds];exact l1
 have HP2:=ae (mY.out.trans hp2);have kW:=ae (aX ho2 mY.out.size);have lL:=ae hC2;have oD:=ae (mX M w2.drew rb eb (eo+1+4) t C2 x.z.start _ hr2.drew (by omega) (by omega) hp2.tgt (by omega) hM hne);have jc:=ae k2;clear hr2 hp2 ho2 HC2 hC2 k2;go_wp2_with fail;go_still_tail 7,(by kernel_rfl);go_wp2_with fail;refine oD.out.mono ?_;rintro e w3 ⟨rfl,hr3,hp3⟩;obtain ⟨C3,G7⟩:∃C,C2.setIfInBounds (eo+1+4) (I x.z.start)=C:=⟨_,rfl⟩;rw [G7] at hp3;have k3:∀j,6≤j→j<9→C3[eo+j]? =fM[j]? :=fun j h1 h2=>by rw [←G7,Array.getElem?_setIfInBounds_ne (by omega)];exact jc.out j (by omega) h2
 have l3:C3.size=cs.size:=by rw [←G7,Array.size_setIfInBounds];exact l2
 have hk3:∀b,w.heap.size≤b→b<w2.heap.size→w3.heap[b]? =w2.heap[b]? :=fun b h1 h2=>hp3.block b h2 (by omega) (by omega);have nK:=ae (aY kW.out hk3);have iV:=ae (HP2.out.trans hp3.dB);have zZ:=ae G7;have oM:=ae (qh M w3 rb eb (eo+1+5) none 0 _ ((hp3.cell _).trans (k3 6 (by decide) (by decide))) hr3);have kU:=ae k3;clear hr3 hp3 oD G7 k3 hk3;go_wp2_with fail;refine oM.out.mono ?_;rintro e w4 ⟨rfl,hr4,hk4⟩;have qo:=ae (iV.out.mP hk4 (dR hel iV.out.size) hne);have uF:=ae (jC nK.out hk4 hrw);have wW:=ae (dD M w4.drew rb eb (eo+1+6) 8 t C3 x.z.hor x.z.hor [] (by rw [List.append_nil];exact hr4.drew) (by omega) (ML _ (by unfold fits;omega) _) qo.out.tgt (by omega) hM hne);clear hr4 hk4 oM;go_wp2_with fail;go_still_tail 7,(by kernel_rfl);go_wp2_with fail;refine wW.out.mono ?_;rintro e w5 ⟨rfl,oL,vW⟩;have hk5:∀b,w.heap.size≤b→b<w4.heap.size→w5.heap[b]? =w4.heap[b]? :=fun b h1 h2=>vW.block b h2 (by omega) (by omega);have qQ:=ae (aY uF.out hk5);have Eo:=ae (qo.out.trans vW.dB);have qm:=ae (Dj M w5 rb eb (eo+1+7) none 0 ((vW.cell _).trans (by rw [Array.getElem?_setIfInBounds_ne (by omega)];exact kU.out 8 (by decide) (by decide))) oL);clear oL vW wW hk5;go_wp2_with fail;refine qm.out.mono ?_;rintro e w6 ⟨rfl,hb6⟩;exact ⟨rfl,rfl,_,by rw [Array.size_setIfInBounds,l3],Eo.out.grow hb6 (dR hel Eo.out.size) hne⟩
end Go.Proofs.YtdibbemgpikgjaaGreat
namespace Go.Proofs.YtdibbemgpikgjaaGreat
open Go Go.RowKit
attribute [local go_sem] eQ fA eU fC iZ ja eH eX eP eY
def DiesZ (w:World) (rb pb po:Nat) (t:TypeId) (cs:Array Value) (e:Ending) (w':World):Prop:=e= .panicked pz∧∃g c,bU w rb pb t (cs.setIfInBounds po (.slice (some ⟨g,0,none⟩) 1 c)) w'
def DiesW (w:World) (rb tb:Nat) (t:Tb) (e:Ending) (w':World):Prop:=e= .panicked pz∧∃g c,bU w rb tb 32 (ai {t with bK:=aO,aS:= []} (.slice (some ⟨g,0,none⟩) 1 c)) w'
def o9 (t:Tb) (x:Ze):List UInt8:=le t.bz 1++(le t.version 1++(le t.aJ 1++(t.prev++(le 1 1++pK x))))
theorem Iu (M:Nat) (w:World) (rb pb po:Nat) (t:TypeId) (cs:Array Value) (x:Ze) (AP:gZ x.z∧x.name.size≤32) (hr:gB M w rb (le 1 1++pK x)) (hp:w.heap[pb]? =some (.cells cs t (0,0))) (hpo:cs[po]? =some (.slice none 0 0)) (pM:M≤pb) (hne:pb≠rb):
  Calls Tryz.prog 42 #[.iface 109 (pt rb), .pointer (some ⟨pb,po,none⟩),I 1, .func (.func 43) #[] #[]] w (DiesZ w rb pb po t cs):=by
 have hpl:pb<w.heap.size:=(aZ.1 hp).1;have hlo:=hr.lo;have hrl:=hr.lt;have hcs:cs.setIfInBounds po (.slice none 0 0)=cs:=by
  apply Array.ext_getElem?;intro i;rw [Array.getElem?_setIfInBounds];split
  ·rename_i e;subst e;split
   ·exact hpo.symm
   ·rename_i e2;rw [Array.getElem?_eq_none (by omega)] at hpo;cases hpo
  ·rfl
 have hc0:w.cell? ⟨pb,po,none⟩=some (.slice none 0 0):=(cell_of_row w pb po _ _ _ hp).trans hpo;have hpos:po<cs.size:=(aZ.1 hpo).1;have HC:=ae (fH M w.drew rb 1 0 1 1 (pK x) hr.drew (by omega) (jA _ (by omega) (by omega) _));have HP:Hid (bU w rb pb t (cs.setIfInBounds po (.slice none 0 0)) w):=ae (by rw [hcs];exact bU.refl hp);have yU:=ae AP;clear hr hp hpo hcs AP;obtain ⟨i0,hi,hz0,hz1,hz2⟩:=info_parts tK;go_enter Tryz.func42,Tryz.ntmps42;go_wp2_with fail;go_still_tail 9,(by kernel_rfl);go_wp2_with fail;refine HC.out.mono ?_;rintro e w1 ⟨rfl,hr1,hk1⟩;have HR1:=ae hr1;have mY:=ae (HP.out.drew.mP hk1 hpl hne);clear hr1 hk1 HC hc0;go_wp2_with fail
 go_loopw [22] (fun i wr=>i= .int .i64 0∧gB M wr rb (pK x)∧bU w rb pb t (cs.setIfInBounds po (.slice none 0 0)) wr) (fun _ _=>0)
 case atStart=>exact ⟨rfl,HR1.out,mY.out⟩
 case round=>
  obtain ⟨rfl,hr,hp⟩:=hrel;have HR:=ae hr;have nT:=ae hp;have hcp:wr.cell? ⟨pb,po,none⟩=some (.slice none 0 0):=(hp.cell po).trans (by simp [hpos]);have hsw:=hp.size;clear hr hp HR1 mY HP;have zW:Hid (∀j u,fM.toList[j]? =some u→(((wr.alloc (.cells fM 55)).alloc (.cells fM 55)).drew).cell? ((⟨wr.heap.size+1,0,none⟩:Addr).add j)=some u):=ae fun j u hu=>by
   rw [addr_add];have h:=(Row.new (wr.alloc (.cells fM 55)) fM 55).2 j;rw [World.size_alloc] at h;exact h.trans (by simpa using hu)
  have uG:Hid (∀u∈fM.toList,u.oneCell'=true):=ae (by
   intro u hu;have h:fM.all (·.oneCell')=true:=by kernel_rfl
   rw [Array.all_eq_true_iff_forall_mem] at h;exact h u (by simpa using hu))
  have QP:pb<wr.heap.size:=by omega
  have hmx:0+1≤maxLen:=by unfold maxLen;omega
  have hby:(0+1)*144≤140737488355328:=by omega
  have FX:Hid (w.heap.size≤(((wr.alloc (.cells fM 55)).alloc (.cells fM 55)).drew).heap.size):=ae (by simp;omega);have dM:Hid ((((wr.alloc (.cells fM 55)).alloc (.cells fM 55)).drew).heap.size=wr.heap.size+2):=ae (by simp);have PI:Hid ((((wr.alloc (.cells fM 55)).alloc (.cells fM 55)).drew).ownsRow w.heap.size 55 9 (.slice none 0 0) 0 []):=ae (World.ownsRow_nil _ _ _ _);have xh:Hid (∀b,b<wr.heap.size→(((wr.alloc (.cells fM 55)).alloc (.cells fM 55)).drew).heap[b]? =wr.heap[b]?):=ae fun b hb=>(Below.heap_alloc (wr.alloc (.cells fM 55)) _ b (by simp;omega)).trans (Below.heap_alloc wr _ b hb);go_wp2_with fail
  go_region_law (refine step_append_lies _ (by rfl) _ _ _ (by rfl) w.heap.size 55 i0 (.agg fM) 9 144 Tryz.underlying30 hi hz0 hz1 hz2 (by rfl) (by omega) (.slice none 0 0) 0 [] (by rfl) PI.out ⟨wr.heap.size+1,0,none⟩ 1 1 fM.toList (by rfl) (by rfl) zW.out uG.out (by omega) hmx hby FX.out (wr.heap.size+2) dM.out ?_;intro g2 c2 w2 hown2 hgrow2 qG hlt2;have hbw:∀b,b<w.heap.size→w2.heap[b]? =wr.heap[b]? :=fun b hb=>(hgrow2.block b (Nat.lt_of_lt_of_eq (show b<wr.heap.size+2 by omega) dM.out.symm) (by simp [Value.ownBlock])).trans (xh.out b (by omega));have HP2:Hid (w2.heap[pb]? =some (.cells (cs.setIfInBounds po (.slice none 0 0)) t (0,0))):=ae ((hbw pb hpl).trans nT.out.tgt);have hcp2:w2.cell? ⟨pb,po,none⟩=some (.slice none 0 0):=(cell_of_row w2 pb po _ _ _ HP2.out).trans (by simp [hpos]);have y8:=frozen_of_row w2 pb po _ _ HP2.out;have lN:=ae hbw;have kW:=ae hown2;have HG2:=ae hgrow2;have HA2:=ae qG;clear hbw hown2 hgrow2 qG)
  all_goals
   have hs2:wr.heap.size+2≤w2.heap.size:=Nat.le_trans (Nat.le_of_eq dM.out.symm) HG2.out.size;have hlo2:=gq kW.out;have hP3:bU w rb pb t (cs.setIfInBounds po (.slice (some ⟨g2,0,none⟩) 1 c2)) (w2.setCell ⟨pb,po,none⟩ (.slice (some ⟨g2,0,none⟩) 1 c2)):=by
    have h:bU w rb pb t (cs.setIfInBounds po (.slice none 0 0)) w2:=⟨HG2.out.os.trans nT.out.os,HG2.out.tape.trans nT.out.tape,HG2.out.output.trans nT.out.output,by omega,fun b hb h1 h2=>(lN.out b hb).trans (nT.out.block b hb h1 h2),HP2.out⟩;have h:=h.put po (.slice (some ⟨g2,0,none⟩) 1 c2)
    rwa [Array.setIfInBounds_setIfInBounds] at h
   have DR:gB M (w2.setCell ⟨pb,po,none⟩ (.slice (some ⟨g2,0,none⟩) 1 c2)) rb (pK x):=(HR.out.of (lN.out rb hrl) fun b hb=>lN.out b (by omega)).put pM hne _;have hO3:(w2.setCell ⟨pb,po,none⟩ (.slice (some ⟨g2,0,none⟩) 1 c2)).ownsRow w.heap.size 55 9 (.slice (some ⟨g2,0,none⟩) (0+1) c2) (0+1) ([]++fM.toList):=dA (p:=⟨pb,po,none⟩) kW.out (by intro e;injection e with e;simp only at e;omega);have iV:=ae hP3;have HR3:=ae DR;have nK:=ae hO3;clear hP3 DR hO3 HP2 lN kW HG2 HA2 hcp;go_wp2_with fail;obtain ⟨w3,hw3⟩:∃W,w2.setCell ⟨pb,po,none⟩ (.slice (some ⟨g2,0,none⟩) 1 c2)=W:=⟨_,rfl⟩
   (try rw [hw3] at iV HR3 nK ⊢)
   obtain ⟨cur,q1,q2,q3,q4,q5,q6,q7,_⟩:=jq nK.out;have hzz:∀j,j<9→cur[0+j]? =fM[j]? :=fun j hj=>by
    have h:(cur.toList.take ((0+1)*9))[j]? =([]++fM.toList)[j]? :=by rw [q6]
    rw [List.getElem?_take_of_lt (by omega)] at h;simpa using h
   refine (Kz M w3 rb g2 0 55 cur x yU.out.1 yU.out.2 HR3.out q1 hzz (by omega) (by omega)).mono ?_;rintro e w4 ⟨rfl,C,_,iT⟩;exact ⟨rfl,rfl,g2,c2,⟨iT.os.trans iV.out.os,iT.tape.trans iV.out.tape,iT.output.trans iV.out.output,Nat.le_trans iV.out.size iT.size,fun b hb h1 h2=>(iT.block b (dR hb iV.out.size) (by omega) h2).trans (iV.out.block b hb h1 h2),(iT.block pb (dR hpl iV.out.size) (by omega) hne).trans iV.out.tgt⟩⟩
theorem KG (M:Nat) (w:World) (rb tb:Nat) (t:Tb) (x:Ze) (h:kG t) (AP:gZ x.z∧x.name.size≤32) (hr:gB M w rb (o9 t x)) (hp:w.heap[tb]? =some (.cells (ai bQ (.slice none 0 0)) 32 (0,0))) (hM:M≤tb) (hne:tb≠rb):
  Calls Tryz.prog 23 #[.iface 109 (pt rb), .pointer (some ⟨tb,0,none⟩)] w (DiesW w rb tb t):=by
 have hel:tb<w.heap.size:=(aZ.1 hp).1;have hrw:=hr.lt;have hz:∀(u:Tb) (v:Value),u.prev.length=32→u.bK.length=32→(ai u v).size=68:=fun u v h1 h2=>bG u v h1 h2;have hr':gB M w.drew rb (le t.bz 1++(le t.version 1++(le t.aJ 1++(t.prev++(le 1 1++pK x))))):=hr.drew;have q1:=h.bz;have q2:=h.version;have q3:=h.aJ;have jf:=ae (dD M w.drew rb tb 0 1 32 _ t.bz t.bz _ hr' (by omega) (jA _ (by omega) (by omega) _) hp (by rw [hz _ _ rfl rfl];decide) hM hne);have HF:=ae h;have HZ:=ae hz;clear h hr hr' hp hz;go_enter Tryz.func23,Tryz.ntmps23;go_wp2_with fail;go_still_tail 7,(by kernel_rfl);go_wp2_with fail;refine jf.out.mono ?_;rintro e w1 ⟨rfl,hr1,hp1⟩;rw [qK] at hp1;have mY:=ae hp1.dB;have HC2:=ae (dD M w1.drew rb tb 1 1 32 _ t.version t.version _ hr1.drew (by omega) (jA _ (by omega) (by omega) _) hp1.tgt (by rw [HZ.out _ _ rfl rfl];decide) hM hne);clear hr1 hp1 jf;go_wp2_with fail;go_still_tail 7,(by kernel_rfl);go_wp2_with fail;refine HC2.out.mono ?_;rintro e w2 ⟨rfl,hr2,hp2⟩;rw [pO] at hp2;have HP2:=ae (mY.out.trans hp2.dB);have oD:=ae (dD M w2.drew rb tb 2 1 32 _ t.aJ t.aJ _ hr2.drew (by omega) (jA _ (by omega) (by omega) _) hp2.tgt (by rw [HZ.out _ _ rfl rfl];decide) hM hne);clear hr2 hp2 HC2;go_wp2_with fail;go_still_tail 7,(by kernel_rfl);go_wp2_with fail;refine oD.out.mono ?_;rintro e w3 ⟨rfl,hr3,hp3⟩;rw [nI] at hp3;have iV:=ae (HP2.out.trans hp3.dB);have oM:=ae (sK M w3.drew rb tb 4 32 _ t.prev _ hr3.drew HF.out.prev hp3.tgt (by rw [HZ.out _ _ rfl rfl];decide) hM hne);clear hr3 hp3 oD;go_wp2_with fail;go_still_tail 7,(by kernel_rfl);go_wp2_with fail;refine oM.out.mono ?_;rintro e w4 ⟨rfl,hr4,iT⟩;rw [uT _ _ _ rfl HF.out.prev] at iT;have qo:=ae (iV.out.trans iT.dB);have wW:=ae (Iu M w4 rb tb 3 32 _ x AP hr4 iT.tgt (bH _ _) hM hne);clear hr4 iT oM;go_wp2_with fail;refine wW.out.mono ?_;rintro e w5 ⟨rfl,g,c,vW⟩;rw [kP] at vW;exact ⟨rfl,rfl,g,c,qo.out.trans vW⟩
end Go.Proofs.YtdibbemgpikgjaaGreat
