/- The texts Lg, in this order. -/
import Derived.Test.YtbaehbbonkljpaaGreatR00
import Derived.Test.YtbaehbbonkljpaaGreatR15
import Derived.Test.YtbaehbbonkljpaaGreatR42
import Derived.Test.YtbaehbbonkljpaaGreatR44
set_option maxRecDepth 10000
set_option maxHeartbeats 8000000
namespace Go.Proofs.YtbaehbbonkljpaaGreat
open Go Go.RowKit
def Yz (lo:Nat) (A:Option Addr) (ts:List fH):Prop:=rJ lo A (ts.flatMap fH.cells)∧∀y∈ts,uO lo y
def Rf (w:World) (e:Ending) (w':World):Prop:=
 ∃A n c ts,e= .returned (.slice A n c)∧ts.length=n∧n≤5∧jT w' w'.heap.size A ts∧(∀y∈ts,Gy y.t)∧Yz w.heap.size A ts∧Below w.heap.size w w'
theorem xw.fin {w W:World} {rc:Array Value} {k c:Nat} {A:Option Addr} {ts:List fH} (h:xw w rc k c A ts W):Yz w.heap.size A ts:=by
 refine ⟨?_,fun y hy=>(h.mem y hy).low (Nat.le_succ _)⟩;rcases h.own.2 with ⟨hv,hn⟩|⟨g,cap,cur,hv,hg,_⟩
 ·refine .inl ?_;rw [h.own.1,hn,Nat.zero_mul]
 ·injection hv with h1 _ _;exact .inr ⟨g,0,h1,by omega⟩
theorem uO.mono {lo lo':Nat} {y:fH} (h:uO lo y) (hl:lo'≤lo):uO lo' y:=
 have f:∀ {A cs},rJ lo A cs→rJ lo' A cs:=fun h=>h.imp id fun ⟨b,off,e,h1⟩=>⟨b,off,e,Nat.le_trans hl h1⟩
 ⟨f h.1,fun z hz=>⟨f (h.2 z hz).1,f (h.2 z hz).2.1,f (h.2 z hz).2.2.1,f (h.2 z hz).2.2.2⟩⟩
theorem iO.grow {lo:Nat} {v:Value} {W W':World} {y:fH} (h:iO lo v W y) (hb:Below W.heap.size W W'):iO lo v W' y:=h.keep hb.size fun b _ h2 h3=>⟨hb.block b h2,h3⟩
theorem Xz {vb B B':Nat} (h:vb<B):∀b,B≤b→b<B'→some b≠(Value.slice (some ⟨vb,0,none⟩) 1 1).ownBlock:=fun b h1 _ e=>by
 have e2:b=vb:=by simpa [Value.ownBlock] using e
 omega
theorem NU {lo:Nat} (B:Nat):∀b,lo≤b→b<B→some b≠(Value.slice (some ⟨B,0,none⟩) 1 1).ownBlock:=fun b _ h1 e=>by
 have e2:b=B:=by simpa [Value.ownBlock] using e
 omega
structure Ws (w:World) (r:nU) (V:World) (k c:Nat) (A:Option Addr) (ts:List fH) (vb:Nat) (y:fH) (W:World):Prop where
 md:xw w r.cells.toArray k c A ts W
 var:AV vb 39 (ah y.t (.slice y.A y.zs.length y.c)) W
 mem:iO (w.heap.size+1) (.slice A k c) W y
 each:TbF y
theorem Ws.of {w V W:World} {r:nU} {k c vb:Nat} {A:Option Addr} {ts:List fH} {y:fH} {d:List UInt8} (h:xw w r.cells.toArray k c A ts V) {cs:Array Value} (hb:Below V.heap.size V (W.setRow vb cs)) (hv:AV vb 39 (ah {y.t with dQ:=d} (.slice y.A y.zs.length y.c)) (W.setRow vb cs))
  (hm:iO V.heap.size (.slice (some ⟨vb,0,none⟩) 1 1) W y) (ht:jB W W.heap.size y) (hM:Gy y.t) (hd:d.length=32):Ws w r V k c A ts vb ⟨{y.t with dQ:=d},y.A,y.c,y.zs⟩ (W.setRow vb cs):=by
 have hs:(W.setRow vb cs).heap.size=W.heap.size:=by simp [World.setRow]
 have hlt:=h.lt;have hm2:iO V.heap.size (.slice (some ⟨vb,0,none⟩) 1 1) (W.setRow vb cs) y:=hm.keep (by omega) fun b _ _ h3=>⟨setRow_other _ _ b _ (fun e=>h3 (by rw [e];rfl)),h3⟩;have hm3:iO (w.heap.size+1) (.slice A k c) (W.setRow vb cs) y:=hm2.vary (by omega) fun b h1 _=>h.qh b h1;exact ⟨h.grow hb,hv,hm3,⟨hM.sealed d,ht.names,ht.prev,hd⟩⟩
theorem TC (r:nU) (w:World) (hr:uN w w.heap.size r):
  Calls Tryz.prog 6 #[.agg r.cells.toArray] w (Rf w):=by
 have qA:=ae hr.key;have hnl:=hr.len;obtain ⟨n,hn⟩:∃n,r.its.length=n:=⟨_,rfl⟩;rw [hn] at hnl;have zV:=ae hn;have HRR:=ae hr;have H0:Hid (xw w r.cells.toArray 0 0 none [] (w.alloc (.cells r.cells.toArray 27))):=ae ⟨AV.new w _ _,ag w _,World.ownsRow_nil _ _ _ _,(fun _ h=>nomatch h),(fun _ h=>nomatch h)⟩;clear hr hn;go_enter Tryz.func6,Tryz.ntmps6;go_wp2_with fail;generalize w.alloc (.cells r.cells.toArray 27)=W0 at H0 ⊢
 go_loopw [3,4] (fun o i wr=>∃(k c:Nat) (A:Option Addr) (ts:List fH),k≤5∧k≤n∧o= .slice A k c∧i=I (k:Nat)∧ts.length=k∧xw w r.cells.toArray k c A ts wr) (fun _ i _=>5 - (intOf i).toNat)
 case atStart=>exact ⟨0,0,none,[],by omega,by omega,rfl,rfl,rfl,H0.out⟩
 case round=>
  clear H0;obtain ⟨k,c,A,ts,hk5,hkn,rfl,rfl,htl,hw⟩:=hrel;have HX0:=ae hw;have zt:=ae htl;clear hw htl;have c33:wr.cell? ⟨w.heap.size,33,none⟩=some (.slice r.A n r.c):=(HX0.out.it.cell 33).trans (by rw [Ob r qA.out,zV.out]);by_cases hlt:k<n∧k<5
  ·obtain ⟨hln,hl5⟩:=hlt;have i1:(k:Int)<(n:Int):=by omega
   have i2:(k:Int)<5:=by omega
   obtain ⟨x,hx⟩:∃x,r.its[k]? =some x:=⟨_,bZ (by rw [zV.out];exact hln)⟩;obtain ⟨ib,io,hA,hib,hcl⟩:=HRR.out.row.there (by rw [cu (fun x:Hl=>x.cells.toList) r.its (show∀x∈r.its,x.cells.toList.length=2 from fun _ _=>rfl),zV.out];omega);have Qw:=ae hA;have HR:Hid (w.rangeAt ib (io+k*2) x.cells.toList):=ae (az.elem (s:=2) (f:=fun x:Hl=>x.cells.toList) (fun _ _=>rfl) hcl k x hx);have HIT:=ae (HRR.out.each x (gU hx));rw [hA] at c33;have EI:Hid (∀W,xw w r.cells.toArray k c A ts W→Calls Tryz.prog 20 #[.slice A k c, .int .u8 (r.Ci.toNat:Int), .agg x.cells] W (Y8 W k r.Ci x)):=ae (fun W h=>next_r x r.Ci A c k ts W ((HIT.out.keep h.lo).more h.lo.size) zt.out (by omega) h.chain (fun y hy=>(h.each y hy).made));clear hx hcl hA;go_upto_block 1 with fail
   go_cut [3,4] (fun o p wx=>p=I (k:Nat)∧∃A2 c2 y,o= .slice A2 (k+1) c2∧xw w r.cells.toArray (k+1) c2 A2 (ts++ [y]) wx)
   case first=>
    go_upto_region 5 with fail;obtain ⟨V0,hV0⟩:∃V,wr.drew=V:=⟨_,rfl⟩
    go_cut [5] (fun p wx=>∃vb y,p= .pointer (some ⟨vb,0,none⟩)∧Ws w r V0 k c A ts vb y wx)
    case first=>
     clear c33;have hS0:xu w r ib io n k x wr.drew:=xu.of qA.out zV.out Qw.out HX0.out.drew.it HX0.out.drew.lo HR.out hib;refine wp_region_held_drew (S:=xu w r ib io n k x) (by kernel_rfl) hS0 (fun _=>?_);have rH:=ae HX0.out.drew;have HB0:Hid (Below wr.drew.heap.size wr.drew wr.drew):=ae (Below.refl _ _);rw [hV0] at rH hS0 HB0 ⊢;refine aP 0 (.pointer (some ⟨w.heap.size,1,none⟩)) 19 hS0 (fun w' hSw=>?_) ?_
     ·obtain ⟨s0,s1,_⟩:=hSw;go_simp
     refine aA ?_;refine aP 2 (.slice A k c) 21 hS0 (fun w' hSw=>?_) ?_
     ·obtain ⟨s0,s1,_⟩:=hSw;go_simp
     refine aA ?_;refine aP 3 (.pointer (some ⟨w.heap.size,0,none⟩)) 22 hS0 (fun w' hSw=>?_) ?_
     ·obtain ⟨s0,s1,_⟩:=hSw;go_simp
     refine aA ?_;refine aP 5 (.pointer (some ⟨w.heap.size,33,none⟩)) 24 hS0 (fun w' hSw=>?_) ?_
     ·obtain ⟨s0,s1,_⟩:=hSw;go_simp
     refine aA ?_;refine aP 7 (I (k:Int)) 26 hS0 (fun w' hSw=>?_) ?_
     ·obtain ⟨s0,s1,_⟩:=hSw;go_simp
     refine aA ?_;refine oD 1 ( .agg (cD r.key)) 20 rfl rfl hS0 (yieldsIf_load_mid rfl 24 _ rfl w.heap.size (1) rfl (ay r.key) _ (fun _ h=>h.2.2.1) Tryz.underlying24 rfl (by simp only [ay,List.length_map,qA.out];kernel_rfl)) ?_;refine aA ?_;refine aP 4 (.int .u8 (r.Ci.toNat:Int)) 23 hS0 (fun w' hSw=>?_) ?_
     ·obtain ⟨s0,s1,_⟩:=hSw;go_simp
     refine aA ?_;refine aP 6 (.slice (some ⟨ib,io,none⟩) n r.c) 25 hS0 (fun w' hSw=>?_) ?_
     ·obtain ⟨s0,s1,_⟩:=hSw;go_simp
     refine aA ?_;refine aP 8 (.pointer (some ⟨ib,io+k*2,none⟩)) 27 hS0 (fun w' hSw=>?_) ?_
     ·obtain ⟨s0,s1,_⟩:=hSw;go_simp
     refine aA ?_;refine oD 9 ( .agg x.cells) 28 rfl rfl hS0 (yieldsIf_load_mid rfl 66 _ rfl ib (io+k*2) rfl x.cells.toList _ (fun _ h=>h.2.2.2) Tryz.underlying66 rfl (by kernel_rfl)) ?_;refine aA ?_;refine lK 10 15 (fun K hK=>?_) (fun K hK=>?_)
     ·go_simp;refine (EI.out V0 rH.out).mono ?_;rintro e W1 ⟨y,rfl,hy1,hm1,hm2,hm3,hm4,hm5,hl1,hb1⟩;have HM:=ae (Jf (by omega) hm1 hm2 hm3 hm4 hm5);have Wn:=ae hy1;have oI:=ae (show uO V0.heap.size y from hl1.mono HB0.out.size);clear hm1 hm2 hm3 hm4 hm5 hy1 hl1;have HB1:Hid (Below V0.heap.size V0 W1):=ae (ai HB0.out hb1);have uf:=ae (rH.out.grow HB1.out);have hS1:xu w r ib io n k x W1:=xu.of qA.out zV.out Qw.out uf.out.it uf.out.lo HR.out hib;clear hb1;refine hK.out _ _ hS1 (fun _=>?_);clear hK K;refine aA ?_;refine lK 11 15 (fun K hK=>?_) (fun K hK=>?_)
      ·go_simp;refine (Bz r.key qA.out y W1 Wn.out HM.out).mono ?_;rintro e W2 ⟨d,hd,rfl,hb2⟩;have HD:=ae hd;have HYT2:=ae (Wn.out.grow hb2);clear hd;have HB2:Hid (Below V0.heap.size V0 W2):=ae (ai HB1.out hb2);have ug:=ae (rH.out.grow HB2.out);have hS2:xu w r ib io n k x W2:=xu.of qA.out zV.out Qw.out ug.out.it ug.out.lo HR.out hib;clear hb2;refine hK.out _ _ hS2 (fun _=>?_);clear hK K;refine aA ?_;refine aP 12 (.tuple #[.agg (ah {y.t with dQ:=d} (.slice y.A y.zs.length y.c)), .int .i64 0]) 18 hS2 (fun w' hSw=>?_) ?_
       ·obtain ⟨s0,s1,_⟩:=hSw;go_simp
       refine aA ?_;refine aP 13 (.agg (ah {y.t with dQ:=d} (.slice y.A y.zs.length y.c))) 31 hS2 (fun w' hSw=>?_) ?_
       ·obtain ⟨s0,s1,_⟩:=hSw;go_simp
       refine aA ?_;refine aP 14 (.int .i64 0) 32 hS2 (fun w' hSw=>?_) ?_
       ·obtain ⟨s0,s1,_⟩:=hSw;go_simp
       refine aA ?_;refine bD 15 (fun K hK=>?_);refine jg (o:=⟨some 5, .alloc 39,_,_,_,none⟩) rfl 39 rfl (ah bz (.slice none 0 0)) eF ?_;have HB3:Hid (Below V0.heap.size V0 (W2.alloc (.cells (ah bz (.slice none 0 0)) 39))):=ae (ai HB2.out (ag W2 _));have DT:=ae (rH.out.grow HB3.out);have hS3:xu w r ib io n k x (W2.alloc (.cells (ah bz (.slice none 0 0)) 39)):=xu.of qA.out zV.out Qw.out DT.out.it DT.out.lo HR.out hib;have ng:Hid (AV W2.heap.size 39 (ah bz (.slice none 0 0)) (W2.alloc (.cells (ah bz (.slice none 0 0)) 39))):=ae (AV.new W2 _ _);obtain ⟨vb3,hve3,hvb3⟩:∃b,W2.heap.size=b∧V0.heap.size≤b:=⟨_,rfl,HB2.out.size⟩;have HYV3:Hid (iO V0.heap.size (.slice (some ⟨W2.heap.size,0,none⟩) 1 1) (W2.alloc (.cells (ah bz (.slice none 0 0)) 39)) y):=ae (iO.of (HYT2.out.keep (ag W2 _)) (ag W2 (.cells (ah bz (.slice none 0 0)) 39)).size oI.out (Nat.le_refl _) (NU W2.heap.size));have Wp:=ae (HYT2.out.grow (ag W2 (.cells (ah bz (.slice none 0 0)) 39)));refine hK.out _ _ hS3 (fun _=>?_);clear hK K;refine aA ?_;generalize (W2.alloc (.cells (ah bz (.slice none 0 0)) 39))=W3 at HB3 DT hS3 ng HYV3 Wp ⊢;rw [hve3] at ng HYV3 ⊢;clear hve3;have VR:Hid ((Tryz.prog.info? 39).map (·.size)=some (ah {y.t with dQ:=d} (.slice y.A y.zs.length y.c)).size):=ae (bG {y.t with dQ:=d} _ Wp.out.prev HD.out);have Z5:Hid ((ah bz (.slice none 0 0)).size=(ah {y.t with dQ:=d} (.slice y.A y.zs.length y.c)).size):=ae ((bF bz _ rfl rfl).trans (bF {y.t with dQ:=d} _ Wp.out.prev HD.out).symm);refine bD 16 (fun K hK=>?_);refine jh (o:=⟨none, .store 39 (.tmp 5) (.tmp 31),_,_,_,none⟩) rfl 39 _ _ rfl vb3 (ah {y.t with dQ:=d} (.slice y.A y.zs.length y.c)) rfl rfl 39 (ah bz (.slice none 0 0)) ng.out.var VR.out Z5.out (aW _ _ _ _) ?_;have YK:Hid (Below V0.heap.size V0 (W3.setRow vb3 (ah {y.t with dQ:=d} (.slice y.A y.zs.length y.c)))):=ae (aB HB3.out hvb3 _);have Y3:=ae (rH.out.grow YK.out);have QD:xu w r ib io n k x (W3.setRow vb3 (ah {y.t with dQ:=d} (.slice y.A y.zs.length y.c))):=xu.of qA.out zV.out Qw.out Y3.out.it Y3.out.lo HR.out hib;refine hK.out _ _ QD (fun _=>?_);clear hK K;try simp only [Act.put]
       refine aP 17 (.int .i64 0) 6 QD (fun w' hSw=>?_) ?_
       ·obtain ⟨s0,s1,_⟩:=hSw;go_simp
       try simp only [Act.put]
       refine wpAnyH_done (by kernel_rfl) ?_ _;have QQ:Hid (Ws w r V0 k c A ts vb3 ⟨{y.t with dQ:=d},y.A,y.c,y.zs⟩ (W3.setRow vb3 (ah {y.t with dQ:=d} (.slice y.A y.zs.length y.c)))):=ae (Ws.of rH.out YK.out (ng.out.oO _) HYV3.out Wp.out HM.out HD.out);go_wp2_with fail;go_meet;exact ⟨_,_,rfl,QQ.out⟩
      ·refine jg (o:=⟨some 5, .alloc 39,_,_,_,none⟩) rfl 39 rfl (ah bz (.slice none 0 0)) eF ?_;have HB4:Hid (Below V0.heap.size V0 (W1.alloc (.cells (ah bz (.slice none 0 0)) 39))):=ae (ai HB1.out (ag W1 _));have Qz:=ae (rH.out.grow HB4.out);have hS4:xu w r ib io n k x (W1.alloc (.cells (ah bz (.slice none 0 0)) 39)):=xu.of qA.out zV.out Qw.out Qz.out.it Qz.out.lo HR.out hib;have uF:Hid (AV W1.heap.size 39 (ah bz (.slice none 0 0)) (W1.alloc (.cells (ah bz (.slice none 0 0)) 39))):=ae (AV.new W1 _ _);obtain ⟨vb4,hve4,hvb4⟩:∃b,W1.heap.size=b∧V0.heap.size≤b:=⟨_,rfl,HB1.out.size⟩;have HYV4:Hid (iO V0.heap.size (.slice (some ⟨W1.heap.size,0,none⟩) 1 1) (W1.alloc (.cells (ah bz (.slice none 0 0)) 39)) y):=ae (iO.of (Wn.out.keep (ag W1 _)) (ag W1 (.cells (ah bz (.slice none 0 0)) 39)).size oI.out (Nat.le_refl _) (NU W1.heap.size));have HYT4:=ae (Wn.out.grow (ag W1 (.cells (ah bz (.slice none 0 0)) 39)));refine hK.out _ _ hS4 (fun _=>?_);clear hK K;refine aA ?_;generalize (W1.alloc (.cells (ah bz (.slice none 0 0)) 39))=W4 at HB4 Qz hS4 uF HYV4 HYT4 ⊢;rw [hve4] at uF HYV4 ⊢;clear hve4;refine bD 11 (fun K hK=>?_);go_simp;refine (Bz r.key qA.out y W4 HYT4.out HM.out).mono ?_;rintro e W5 ⟨d,hd,rfl,hb5⟩;have HD:=ae hd;have HYT5:=ae (HYT4.out.grow hb5);have HYV5:=ae (HYV4.out.grow hb5);clear hd;have rV:Hid (Below V0.heap.size V0 W5):=ae (ai HB4.out hb5);have xn:=ae (rH.out.grow rV.out);have hS5:xu w r ib io n k x W5:=xu.of qA.out zV.out Qw.out xn.out.it xn.out.lo HR.out hib;have HV5:=ae (uF.out.below hb5);clear hb5;refine hK.out _ _ hS5 (fun _=>?_);clear hK K;refine aA ?_;refine aP 12 (.tuple #[.agg (ah {y.t with dQ:=d} (.slice y.A y.zs.length y.c)), .int .i64 0]) 18 hS5 (fun w' hSw=>?_) ?_
       ·obtain ⟨s0,s1,_⟩:=hSw;go_simp
       refine aA ?_;refine aP 13 (.agg (ah {y.t with dQ:=d} (.slice y.A y.zs.length y.c))) 31 hS5 (fun w' hSw=>?_) ?_
       ·obtain ⟨s0,s1,_⟩:=hSw;go_simp
       refine aA ?_;refine aP 14 (.int .i64 0) 32 hS5 (fun w' hSw=>?_) ?_
       ·obtain ⟨s0,s1,_⟩:=hSw;go_simp
       refine aA ?_;have VR:Hid ((Tryz.prog.info? 39).map (·.size)=some (ah {y.t with dQ:=d} (.slice y.A y.zs.length y.c)).size):=ae (bG {y.t with dQ:=d} _ HYT5.out.prev HD.out);have Z5:Hid ((ah bz (.slice none 0 0)).size=(ah {y.t with dQ:=d} (.slice y.A y.zs.length y.c)).size):=ae ((bF bz _ rfl rfl).trans (bF {y.t with dQ:=d} _ HYT5.out.prev HD.out).symm);refine bD 16 (fun K hK=>?_);refine jh (o:=⟨none, .store 39 (.tmp 5) (.tmp 31),_,_,_,none⟩) rfl 39 _ _ rfl vb4 (ah {y.t with dQ:=d} (.slice y.A y.zs.length y.c)) rfl rfl 39 (ah bz (.slice none 0 0)) HV5.out.var VR.out Z5.out (aW _ _ _ _) ?_;have YK:Hid (Below V0.heap.size V0 (W5.setRow vb4 (ah {y.t with dQ:=d} (.slice y.A y.zs.length y.c)))):=ae (aB rV.out hvb4 _);have Y3:=ae (rH.out.grow YK.out);have QD:xu w r ib io n k x (W5.setRow vb4 (ah {y.t with dQ:=d} (.slice y.A y.zs.length y.c))):=xu.of qA.out zV.out Qw.out Y3.out.it Y3.out.lo HR.out hib;refine hK.out _ _ QD (fun _=>?_);clear hK K;try simp only [Act.put]
       refine aP 17 (.int .i64 0) 6 QD (fun w' hSw=>?_) ?_
       ·obtain ⟨s0,s1,_⟩:=hSw;go_simp
       try simp only [Act.put]
       refine wpAnyH_done (by kernel_rfl) ?_ _;have QQ:Hid (Ws w r V0 k c A ts vb4 ⟨{y.t with dQ:=d},y.A,y.c,y.zs⟩ (W5.setRow vb4 (ah {y.t with dQ:=d} (.slice y.A y.zs.length y.c)))):=ae (Ws.of rH.out YK.out (HV5.out.oO _) HYV5.out HYT5.out HM.out HD.out);go_wp2_with fail;go_meet;exact ⟨_,_,rfl,QQ.out⟩
     ·refine jg (o:=⟨some 5, .alloc 39,_,_,_,none⟩) rfl 39 rfl (ah bz (.slice none 0 0)) eF ?_;have Gu:Hid (Below V0.heap.size V0 (V0.alloc (.cells (ah bz (.slice none 0 0)) 39))):=ae (ai HB0.out (ag V0 _));have oK:=ae (rH.out.grow Gu.out);have hS6:xu w r ib io n k x (V0.alloc (.cells (ah bz (.slice none 0 0)) 39)):=xu.of qA.out zV.out Qw.out oK.out.it oK.out.lo HR.out hib;have pV:Hid (AV V0.heap.size 39 (ah bz (.slice none 0 0)) (V0.alloc (.cells (ah bz (.slice none 0 0)) 39))):=ae (AV.new V0 _ _);obtain ⟨vb6,hve6,hvb6⟩:∃b,V0.heap.size=b∧V0.heap.size≤b:=⟨_,rfl,HB0.out.size⟩;refine hK.out _ _ hS6 (fun _=>?_);clear hK K;refine aA ?_;generalize (V0.alloc (.cells (ah bz (.slice none 0 0)) 39))=W6 at Gu oK hS6 pV ⊢;rw [hve6] at pV ⊢;clear hve6;refine bD 10 (fun K hK=>?_);go_simp;refine (EI.out W6 oK.out).mono ?_;rintro e W7 ⟨y,rfl,hy7,hm1,hm2,hm3,hm4,hm5,Zj,hb7⟩;have HM:=ae (Jf (by omega) hm1 hm2 hm3 hm4 hm5);have HYT7:=ae hy7;have oI:=ae (show uO V0.heap.size y from Zj.mono Gu.out.size);have HYV7:Hid (iO V0.heap.size (.slice (some ⟨vb6,0,none⟩) 1 1) W7 y):=ae (iO.of hy7 (Nat.le_refl _) Zj Gu.out.size (Xz pV.out.lt));clear hm1 hm2 hm3 hm4 hm5 hy7 Zj;have pR:Hid (Below V0.heap.size V0 W7):=ae (ai Gu.out hb7);have jl:=ae (rH.out.grow pR.out);have hS7:xu w r ib io n k x W7:=xu.of qA.out zV.out Qw.out jl.out.it jl.out.lo HR.out hib;have Cf:=ae (pV.out.below hb7);clear hb7;refine hK.out _ _ hS7 (fun _=>?_);clear hK K;refine aA ?_;refine bD 11 (fun K hK=>?_);go_simp;refine (Bz r.key qA.out y W7 HYT7.out HM.out).mono ?_;rintro e W8 ⟨d,hd,rfl,hb8⟩;have HD:=ae hd;have HYT8:=ae (HYT7.out.grow hb8);have HYV8:=ae (HYV7.out.grow hb8);clear hd;have Qq:Hid (Below V0.heap.size V0 W8):=ae (ai pR.out hb8);have Kq:=ae (rH.out.grow Qq.out);have hS8:xu w r ib io n k x W8:=xu.of qA.out zV.out Qw.out Kq.out.it Kq.out.lo HR.out hib;have DR:=ae (Cf.out.below hb8);clear hb8;refine hK.out _ _ hS8 (fun _=>?_);clear hK K;refine aA ?_;refine aP 12 (.tuple #[.agg (ah {y.t with dQ:=d} (.slice y.A y.zs.length y.c)), .int .i64 0]) 18 hS8 (fun w' hSw=>?_) ?_
      ·obtain ⟨s0,s1,_⟩:=hSw;go_simp
      refine aA ?_;refine aP 13 (.agg (ah {y.t with dQ:=d} (.slice y.A y.zs.length y.c))) 31 hS8 (fun w' hSw=>?_) ?_
      ·obtain ⟨s0,s1,_⟩:=hSw;go_simp
      refine aA ?_;refine aP 14 (.int .i64 0) 32 hS8 (fun w' hSw=>?_) ?_
      ·obtain ⟨s0,s1,_⟩:=hSw;go_simp
      refine aA ?_;have VR:Hid ((Tryz.prog.info? 39).map (·.size)=some (ah {y.t with dQ:=d} (.slice y.A y.zs.length y.c)).size):=ae (bG {y.t with dQ:=d} _ HYT8.out.prev HD.out);have Z5:Hid ((ah bz (.slice none 0 0)).size=(ah {y.t with dQ:=d} (.slice y.A y.zs.length y.c)).size):=ae ((bF bz _ rfl rfl).trans (bF {y.t with dQ:=d} _ HYT8.out.prev HD.out).symm);refine bD 16 (fun K hK=>?_);refine jh (o:=⟨none, .store 39 (.tmp 5) (.tmp 31),_,_,_,none⟩) rfl 39 _ _ rfl vb6 (ah {y.t with dQ:=d} (.slice y.A y.zs.length y.c)) rfl rfl 39 (ah bz (.slice none 0 0)) DR.out.var VR.out Z5.out (aW _ _ _ _) ?_;have YK:Hid (Below V0.heap.size V0 (W8.setRow vb6 (ah {y.t with dQ:=d} (.slice y.A y.zs.length y.c)))):=ae (aB Qq.out hvb6 _);have Y3:=ae (rH.out.grow YK.out);have QD:xu w r ib io n k x (W8.setRow vb6 (ah {y.t with dQ:=d} (.slice y.A y.zs.length y.c))):=xu.of qA.out zV.out Qw.out Y3.out.it Y3.out.lo HR.out hib;refine hK.out _ _ QD (fun _=>?_);clear hK K;try simp only [Act.put]
      refine aP 17 (.int .i64 0) 6 QD (fun w' hSw=>?_) ?_
      ·obtain ⟨s0,s1,_⟩:=hSw;go_simp
      try simp only [Act.put]
      refine wpAnyH_done (by kernel_rfl) ?_ _;have QQ:Hid (Ws w r V0 k c A ts vb6 ⟨{y.t with dQ:=d},y.A,y.c,y.zs⟩ (W8.setRow vb6 (ah {y.t with dQ:=d} (.slice y.A y.zs.length y.c)))):=ae (Ws.of rH.out YK.out (DR.out.oO _) HYV8.out HYT8.out HM.out HD.out);go_wp2_with fail;go_meet;exact ⟨_,_,rfl,QQ.out⟩
    case rest=>
     obtain ⟨vb,y,rfl,ht⟩:=hcut;have HT:=ae ht;have fG:Hid ((Tryz.prog.info? 39).map (·.size)=some (ah y.t (.slice y.A y.zs.length y.c)).size):=ae (bG y.t _ ht.each.prev ht.each.dQ);have H68:Hid ((ah y.t (.slice y.A y.zs.length y.c)).size=68):=ae (bF y.t _ ht.each.prev ht.each.dQ);have hlt:=ht.md.lt;obtain ⟨i0,hi,hq0,hq1,hq2⟩:=info_parts qI;have HI:=ae hi;have mP:=ae hq0;have iM:=ae hq1;have iH:=ae hq2;have HY68:=ae ht.each.size;clear ht hi hq0 hq1 hq2 HX0 c33 hV0;go_wp2_with (first
      |((with_reducible refine gz 39 ?_);go_must (refine bu rfl _ _ rfl vb rfl (ah y.t (.slice y.A y.zs.length y.c)) HT.out.var.kz _ Tryz.underlying39 rfl fG.out ?_))
      |((with_reducible refine qG 32 ?_);go_must (refine vM rfl _ rfl (ah y.t (.slice y.A y.zs.length y.c)) H68.out rfl ?_))
      |(at_builtin;go_must (refine wpList_append_lies _ rfl _ _ 32 rfl (w.heap.size+1) 39 i0 (.agg (ah bz (.slice none 0 0))) 68 112 Tryz.underlying32 HI.out mP.out iM.out iH.out rfl (by decide) (.slice A k c) k (ts.flatMap fH.cells) rfl (own_below HT.out.md.own (ag wc _)) ⟨wc.heap.size,0,none⟩ 1 1 y.cells rfl HY68.out (bW _ _ _ _ rfl) (XY y) (by omega) (by unfold maxLen;omega) (by omega) (by simp;omega) _ rfl ?_;intro gg cap w6 hown6 hgrow6 eP _;have HN:Hid (xw w r.cells.toArray (k+1) cap (some ⟨gg,0,none⟩) (ts++ [y]) w6):=ae (HT.out.md.add HT.out.mem HT.out.each rfl hown6 hgrow6 eP);clear hown6 hgrow6 eP)))
     go_meet;exact ⟨rfl,some ⟨gg,0,none⟩,cap,y,rfl,HN.out⟩
   case rest=>
    obtain ⟨rfl,A2,c2,y,rfl,hw2⟩:=hcut;have HW2:=ae hw2;clear hw2 HX0;go_wp2_with fail;go_roundw
    case rel=>exact ⟨k+1,c2,A2,_,by omega,by omega,rfl,by go_num,by rw [bH,zt.out];rfl,HW2.out⟩
    case measure=>simp [intOf];omega
  ·have hex:¬(k:Int)<(n:Int)∨((k:Int)<(n:Int)∧¬(k:Int)<5):=by omega
   rcases hex with h1|⟨h1,h2⟩
   all_goals
    go_wp2_with fail;go_ret;exact ⟨A,k,c,ts,rfl,zt.out,hk5,HX0.out.chain,fun y hy=>(HX0.out.each y hy).made,HX0.out.fin,HX0.out.lo⟩
end Go.Proofs.YtbaehbbonkljpaaGreat
