/- The texts TrT, DgU, Of, TrU, Og, Oh, Oi, Oj, Oka, in this order. -/
import Derived.Test.YtdibbemgpikgjaaGreatDoorW00
import Derived.Defers
import Derived.Laws.AppendOwnNone
import Derived.Laws.BitsAllLaws
import Derived.Laws.BytesArg
import Derived.Laws.Cover3
import Derived.Lib.AppendStr
import Derived.Lib.ByteType
import Derived.MapKept
import Derived.Recover
import Derived.Test.YtdibbemgpikgjaaGreatDoorW04
import Derived.Test.YtdibbemgpikgjaaGreatDoorW06
import Derived.Test.YtdibbemgpikgjaaGreatDoorW15
import Derived.Test.YtdibbemgpikgjaaGreatDoorW19
import Derived.Test.YtdibbemgpikgjaaGreatDoorW31
import Derived.Test.YtdibbemgpikgjaaGreatDoorW33
import Derived.Test.YtdibbemgpikgjaaGreatDoorW34
set_option maxRecDepth 10000
set_option maxHeartbeats 8000000
namespace Go.Proofs.YtdibbemgpikgjaaGreatDoor
open Go Go.RowKit
theorem fH.via {w w':World} {b B:Nat} {cs:Array Value} (h:fH w b cs) (hb:Below B w w') (hB:b<B):fH w' b cs:=
 ⟨dQ h.1 hb.size,fun i=>(hb.cell (p:=⟨b,i,none⟩) hB).trans (h.2 i)⟩
theorem jZ (m:List UInt8) (h:m.length=32):(Tryz.prog.info? 23).map (·.size)=some (cellsB m).size:=by rw [bV,h];kernel_rfl
theorem Gg {lo:Nat} {w:World} {g n c:Nat} {bs:List UInt8} (h:w.ownsRow lo 5 1 (.slice (some ⟨g,0,none⟩) n c) n (bs.map Extern.Stop.cell)):g<w.heap.size∧lo≤g:=by
 obtain ⟨_,⟨h1,_⟩|⟨g',cap,cur,hv,hg,hb,h1,h2,h3,h4⟩⟩:=h
 ·cases h1
 injection hv with hv _ hc;injection hv with hv;injection hv with hv;subst hv;exact ⟨(bT.1 hb).1,hg⟩
theorem TI (KR:List Int) (hK:KR.length=64) (w:World) (hG:fH w 0 (au KR)) (bs:List UInt8) (hb0:0<bs.length) (hlen:bs.length≤1000000000) (ab off c:Nat) (hla:ab<w.heap.size) (hby:∀j,j<bs.length→w.cell? ⟨ab,off+j,none⟩=some (Extern.Stop.cell (bs[j]?.getD 0))):
  Calls Tryz.prog 12 #[.slice (some ⟨ab,off,none⟩) bs.length c] w (Gives (.agg (cellsB (jU KR bs))) w):=by
 obtain ⟨W1,hW1⟩:∃W,(w.alloc (.cells (cellsB z32) 23)).alloc (.cells #[.slice (some ⟨ab,off,none⟩) bs.length c] 32)=W:=⟨_,rfl⟩;have hs1:W1.heap.size=w.heap.size+2:=by rw [←hW1];simp
 have hb1:Below w.heap.size w W1:=by rw [←hW1];exact ((Below.refl _ w).alloc (Nat.le_refl _) _).alloc (by simp) _
 have hr1:W1.heap[w.heap.size]? =some (.cells (cellsB z32) 23 (0,0)):=by rw [←hW1];exact heap_alloc2_old w _ _
 have hp1:W1.heap[w.heap.size+1]? =some (.cells #[.slice (some ⟨ab,off,none⟩) bs.length c] 32 (0,0)):=by rw [←hW1];exact heap_alloc2_new w _ _
 have HC:Hid (Calls Tryz.prog 31 #[.slice (some ⟨w.heap.size+1,0,none⟩) 1 1] W1 fun e w'=>e= .returned (.agg (cellsB (jU KR bs)))∧Below W1.heap.size W1 w'):=
  ae (RS KR hK W1 ⟨dQ hG.1 hb1.size,fun i=>(hb1.cell (p:=⟨0,i,none⟩) hG.1).trans (hG.2 i)⟩ bs hb0 hlen (w.heap.size+1) ab off c (cell_of_row _ _ 0 _ _ _ hp1) (by omega) (by omega) fun j hj=>(hb1.cell (p:=⟨ab,off+j,none⟩) hla).trans (hby j hj))
 have HW1:=ae hW1;have HB1:=ae hb1;have HR1:=ae hr1;have ed:Hid ((Tryz.prog.info? 23).map (·.size)=some (cellsB (jU KR bs)).size):=ae (by rw [bV,gZ];kernel_rfl);have tq:Hid ((cellsB z32).size=(cellsB (jU KR bs)).size):=ae (by rw [bV,bV,gZ];rfl);obtain ⟨N,hN⟩:∃N,bs.length=N:=⟨_,rfl⟩;rw [hN] at HW1 ⊢;clear hs1 hb1 hr1 hp1 hW1 hby hG hK hN;go_enter Tryz.func12,Tryz.ntmps12;go_wp2_with (first
  |(refine aG rfl _ rfl (cellsB z32) iw ?_)
  |(go_at_call 31;rw [HW1.out];refine HC.out.mono ?_;rintro e w2 ⟨rfl,hb2⟩;have HB2:=ae hb2;have HR2:Hid (w2.heap[w.heap.size]? =some (.cells (cellsB z32) 23 (0,0))):=ae ((hb2.block _ (bT.1 HR1.out).1).trans HR1.out);clear hb2)
  |(with_reducible refine g_st 23 ?_;refine wpList_store_row rfl _ _ _ rfl w.heap.size (cellsB (jU KR bs)) rfl rfl 23 (cellsB z32) HR2.out ed.out tq.out (jD _) ?_))
 refine bodyPost_ret (v:= .agg (cellsB (jU KR bs))) (results_cell_row rfl _ _ w.heap.size _ (cellsB (jU KR bs)) (0,0) _ rfl (setRow_heap _ _ _ _ _ _ HR2.out) Tryz.underlying23 rfl ed.out) rfl ?_;exact ⟨rfl,below_setRow (HB1.out.trans (HB2.out.mono HB1.out.size)) (Nat.le_refl _) _⟩
theorem wK {lo:Nat} {w:World} {g n c:Nat} {bs:List UInt8} (h:w.ownsRow lo 5 1 (.slice (some ⟨g,0,none⟩) n c) n (bs.map Extern.Stop.cell)) (j:Nat) (hj:j<bs.length):w.cell? ⟨g,0+j,none⟩=some (Extern.Stop.cell (bs[j]?.getD 0)):=by
 have h2:=h.cells (g:=g) rfl j (Extern.Stop.cell (bs[j]?.getD 0)) (by rw [List.getElem?_map,dw hj];rfl);rw [addr_add] at h2;rw [Nat.zero_add];exact h2
theorem Po (KR:List Int) (hK:KR.length=64) (w:World) (hG:fH w 0 (au KR)) (hw1:0<w.heap.size) (t:Tb) (A:Option Addr) (n c:Nat) (zs:List dD) (h:XQ t) (hzz:t.aS=zs.map (·.e)) (hn:zs.length=n) (hA:oz w w.heap.size A zs) (hup:mW zs):
  Calls Tryz.prog 46 #[.agg (ai t (.slice A n c))] w (Gives (.tuple #[.agg (cellsB (jU KR (nV t++t.bz))), .bool true]) w):=by
 have HF:=ae h;have HK:=ae hK;have HG:=ae hG;have ed:Hid (∀v,(Tryz.prog.info? 37).map (·.size)=some (ai t v).size):=ae fun v=>cu t v h.prev h.bz;have wX:Hid (∀W,Below w.heap.size w W→Calls Tryz.prog 9 #[.agg (ai t (.slice A n c))] W (Be W (nV t))):=ae fun W hb=>nU t A n c zs W h hzz hn (hA.grow hb) hup;have H0:=ae (V2.start w 37 (ai t (.slice A n c)) 23 (cellsB z32));obtain ⟨D,hD⟩:∃D,jU KR (nV t++t.bz)=D:=⟨_,rfl⟩;have hd32:D.length=32:=by rw [←hD];exact gZ _ _
 rw [hD];have HD:=ae hD;have HD32:=ae hd32;have QA:Hid ((cellsB z32).size=(cellsB D).size):=ae (by rw [bV,bV,hd32];rfl);have yS:=ae (xE t h);obtain ⟨N,hN⟩:∃N,(nV t).length=N:=⟨_,rfl⟩;have HN:=ae hN;clear h hzz hn hA hup hK hG hD hd32 hN;go_enter Tryz.func46,Tryz.ntmps46;go_upto_region 1 with (first
  |((with_reducible refine bn 23 ?_);go_must (refine aG rfl _ rfl (cellsB z32) iw ?_)))
 generalize (w.alloc (.cells (ai t (.slice A n c)) 37)).alloc (.cells (cellsB z32) 23)=W0 at H0 ⊢;go_wp2_with ((with_reducible refine fA 37 ?_);go_must (refine aQ rfl _ _ rfl w.heap.size rfl (ai t (.slice A n c)) H0.out.s.jg _ Tryz.underlying37 rfl (ed.out _) ?_));refine (wX.out W0 H0.out.lo).mono ?_;rintro e w1 ⟨⟨g1,c1,rfl,o1⟩,b1⟩;have h1:=H0.out.grow b1;have H1:=ae h1;have hw0:=H0.out.r.lt;have hs1:W0.heap.size≤w1.heap.size:=b1.size;rw [HN.out] at o1 ⊢;have GR:Hid (nJ W0.heap.size w1 (some ⟨g1,0,none⟩) N c1 (nV t)):=ae o1;have hn1:N≤18000:=by rw [←HN.out];exact yS.out.2
 have wY:Hid (aA w1 w1.heap.size (some ⟨w.heap.size,36,none⟩) (t.bz.map Extern.Stop.cell)):=ae (.inr ⟨w.heap.size,36,rfl,by have:=h1.r.lt;omega,Cm t (.slice A n c) (Row.jF h1.s.var) HF.out.prev⟩);clear o1 b1 h1 H0 wX;go_wp2_with (at_builtin;go_must (refine kF rfl _ _ rfl W0.heap.size N c1 (some ⟨g1,0,none⟩) (nV t) rfl GR.out _ (some ⟨w.heap.size,36,none⟩) 32 32 t.bz rfl HF.out.bz (by omega) wY.out (by omega) hs1 ?_));intro A3 c3 w3 o3 k3;have h3:=H1.out.Iz (k3.wI GR.out.base hs1) hw0;have H3:=ae h3;obtain ⟨g3,c4,hv3,hg3⟩:=dE (show w3.ownsRow _ _ 1 (.slice A3 (N+32) c3) (N+32) _ from o3) (by omega);injection hv3 with e1 _ e3;subst e1 e3;have HS:Hid (Calls Tryz.prog 12 #[.slice (some ⟨g3,0,none⟩) (N+32) c3] w3 (Gives (.agg (cellsB D)) w3)):=ae (by
  have hl:(nV t++t.bz).length=N+32:=by rw [aZ,HN.out,HF.out.bz]
  have:=TI KR HK.out w3 (HG.out.via h3.lo hw1) (nV t++t.bz) (by omega) (by omega) g3 0 c3 hg3 (wK o3);rw [hl,HD.out] at this;exact this)
 clear o3 k3 h3 H1 GR wY;go_wp2_with fail;refine HS.out.mono ?_;rintro e w4 ⟨rfl,hb4⟩;have H4:=ae (H3.out.grow hb4);clear H3 HS hb4 hg3;go_wp2_with ((with_reducible refine dO 23 ?_);go_must (refine wpList_store_row rfl _ _ _ rfl (w.heap.size+1) (cellsB D) rfl rfl 23 (cellsB z32) H4.out.r.var (jZ D HD32.out) QA.out (jD _) ?_));refine bodyPost_ret (v:= .tuple #[.agg (cellsB D), .bool true]) (bI rfl _ _ (w.heap.size+1) _ (cellsB D) (0,0) _ rfl (setRow_heap _ _ _ _ _ _ H4.out.r.var) Tryz.underlying23 rfl (jZ D HD32.out) _ rfl) rfl ?_;exact ⟨rfl,aB H4.out.lo (Nat.le_succ _) _⟩
theorem F6 (w:World) (r r':List UInt8) (h:r.length=32) (h':r'.length=32):
  (binOp .neq 23 (.agg (aj r).toArray) (.agg (aj r').toArray)).run Tryz.prog w= .ok (.bool (!(r==r'))) w:=by
 unfold aj;rw [run_neq_struct,run_equalIn_bytes w 9998 23 5 32 Tryz.underlying23 Tryz.underlying5 (fun w=>Ai w) r r' h h'];rfl
def iW (KR:List Int) (key:List UInt8) (ts:List dI) (t:Tb):Int:=
 if (!(t.bz==nS KR key (nV t)))=true then 8 else if¬t.version=(ts.length:Int)+1 then 9 else
  match ts[ts.length - 1]? with
  |none=>0
  |some x=>if (!(jU KR (nV x.t++x.t.bz)==t.prev))=true then 9 else if¬x.t.aT=t.aT then 9 else 0
def Nr (x:dI):Prop:=XQ x.t∧mW x.zs
theorem KC (KR:List Int) (hK:KR.length=64) (w:World) (hG:fH w 0 (au KR)) (hw1:0<w.heap.size) (key:List UInt8) (hk:key.length=32) (t:Tb) (A:Option Addr) (n c:Nat) (zs:List dD) (h:XQ t) (hzz:t.aS=zs.map (·.e)) (hn:zs.length=n) (hA:oz w w.heap.size A zs) (hup:mW zs)
  (C:Option Addr) (m cc:Nat) (ts:List dI) (hm:ts.length=m) (hm1:m<64) (hC:jd w w.heap.size C ts) (hT:∀x∈ts,Nr x) (r:Int) (hr:iW KR key ts t=r):
  Calls Tryz.prog 28 #[.slice C m cc, .agg (cellsB key), .agg (ai t (.slice A n c))] w (Gives (I r) w):=by
 have HF:=ae h;have HK:=ae hK;have HG:=ae hG;have XA:=ae hk;have kK:=ae hm;have ed:Hid (∀v,(Tryz.prog.info? 37).map (·.size)=some (ai t v).size):=ae fun v=>cu t v h.prev h.bz;have wX:Hid (∀W,Below w.heap.size w W→Calls Tryz.prog 9 #[.agg (ai t (.slice A n c))] W (Be W (nV t))):=ae fun W hb=>nU t A n c zs W h hzz hn (hA.grow hb) hup;have HLK:Hid (∀x,x∈ts→∀W,Below w.heap.size w W→Calls Tryz.prog 46 #[.agg x.cells.toArray] W (Gives (.tuple #[.agg (cellsB (jU KR (nV x.t++x.t.bz))), .bool true]) W)):=ae fun x hx W hb=>
  Po KR hK W (hG.via hb hw1) (dQ hw1 hb.size) x.t x.A x.zs.length x.c x.zs (hT x hx).1 (hC.each x hx).names rfl ((hC.each x hx).aS.grow hb) (hT x hx).2
 have H0:=ae (V2.start w 23 (cellsB key) 37 (ai t (.slice A n c)));obtain ⟨M,hM⟩:∃M,nS KR key (nV t)=M:=⟨_,rfl⟩;have vk:M.length=32:=by rw [←hM];exact qg _ _ _
 have HM:=ae hM;have vX:=ae vk;obtain ⟨b,hb⟩:∃b,(!(t.bz==M))=b:=⟨_,rfl⟩;have HB0:=ae hb;have HQ:Hid (∀W,(binOp .neq 23 (.agg (aj t.bz).toArray) (.agg (aj M).toArray)).run Tryz.prog W= .ok (.bool b) W):=ae fun W=>by rw [F6 W _ _ h.bz vk,hb]
 have yS:=ae (xE t h);have HR:=ae hr;have HC:=ae hC;obtain ⟨N,hN⟩:∃N,(nV t).length=N:=⟨_,rfl⟩;have HN:=ae hN;have Yv:Hid (∀W lo g c2,Below w.heap.size w W→W.ownsRow lo 5 1 (.slice (some ⟨g,0,none⟩) N c2) N ((nV t).map Extern.Stop.cell)→Calls Tryz.prog 10 #[.agg (aj key).toArray, .slice (some ⟨g,0,none⟩) N c2] W (Gives (.agg (aj M).toArray) W)):=ae fun W lo g c2 hb ho=>by
  have hl:=xE t h;have h1:=BN KR hK W (hG.via hb hw1) key (nV t) hk (by omega) (by omega) g 0 c2 (Gg ho).1 (wK ho);rw [hM,hN] at h1;exact h1
 have i0:¬(64:Int)≤(m:Int):=by omega
 clear h hzz hn hA hup hK hG hk hm hC hT hr hM vk hb hN;go_enter Tryz.func28,Tryz.ntmps28;go_upto_region 1 with fail;generalize (w.alloc (.cells (cellsB key) 23)).alloc (.cells (ai t (.slice A n c)) 37)=W0 at H0 ⊢;go_wp2_with ((with_reducible refine fA 37 ?_);go_must (refine aQ rfl _ _ rfl (w.heap.size+1) rfl (ai t (.slice A n c)) H0.out.r.jg _ Tryz.underlying37 rfl (ed.out _) ?_));refine (wX.out W0 H0.out.lo).mono ?_;rintro e w1 ⟨⟨g1,c1,rfl,o1⟩,b1⟩;have h1:=H0.out.grow b1;have hw0:=H0.out.r.lt;have hs1:W0.heap.size≤w1.heap.size:=b1.size;rw [HN.out] at o1 ⊢;have hg1:=Gg o1;have zY:=ae (Yv.out w1.drew W0.heap.size g1 c1 h1.lo.drew o1);have hS1:w1.rangeAt (w.heap.size+1) 36 (aj t.bz)∧w1.rangeAt w.heap.size 0 (aj key):=⟨Cm t _ (Row.jF h1.r.var) HF.out.prev,fun j v hv=>by rw [Nat.zero_add,(Row.jF h1.s.var).2 j];simpa [cellsB] using hv⟩;have iP:Hid (w1.drew.rangeAt (w.heap.size+1) 36 (aj t.bz)∧w1.drew.rangeAt w.heap.size 0 (aj key)):=ae hS1;have H1:=ae h1;have YV:Hid (Tryz.prog.underlying 23=some (.array 32 5)):=ae Tryz.underlying23;have HI1:Hid ((Tryz.prog.info? 23).map (·.size)=some (aj t.bz).length):=ae (by have:=jZ t.bz HF.out.bz;rw [this];simp [cellsB]);have HI2:Hid ((Tryz.prog.info? 23).map (·.size)=some (aj key).length):=ae (by have:=jZ key XA.out;rw [this];simp [cellsB]);clear hS1 h1 o1 b1 H0 wX Yv;go_wp2_with fail;have hud:=YV.out;have hi1:=HI1.out;have hi2:=HI2.out;have hq:=HQ.out;have hl1:(aj t.bz).length=32:=by simp [aj,HF.out.bz]
 have RY:(aj key).length=32:=by simp [aj,XA.out]
 refine wp_region_held_drew (S:=fun w'=>w'.rangeAt (w.heap.size+1) 36 (aj t.bz)∧w'.rangeAt w.heap.size 0 (aj key)) (by kernel_rfl) iP.out (fun hH=>?_);refine fC 0 (.pointer (some ⟨w.heap.size+1,36,none⟩)) 25 rfl rfl hH (fun W hW=>by go_simp) ?_;refine ax ?_;refine gJ 1 _ 26 rfl rfl hH (yieldsIf_load_mid (by rfl) _ _ rfl (w.heap.size+1) 36 rfl (aj t.bz) _ (fun _ hW=>hW.1) hud rfl hi1) ?_;refine ax ?_;refine gJ 2 _ 27 rfl rfl hH (yieldsIf_load_mid (by rfl) _ _ rfl w.heap.size 0 rfl (aj key) _ (fun _ hW=>hW.2) hud rfl hi2) ?_;refine ax ?_;refine fC 3 (.slice (some ⟨g1,0,none⟩) N c1) 28 rfl rfl hH (fun W hW=>by go_simp) ?_;refine ax ?_;clear hH;refine aU 4 (fun K hK=>?_);go_simp;go_at_call 10;refine zY.out.mono ?_;rintro e w3 ⟨rfl,hb3⟩;have H3:Hid (V2 w 23 (cellsB key) 37 (ai t (.slice A n c)) w3):=ae (H1.out.grow (Below.trans ((Below.refl _ w1).drew) hb3));have jV:Hid (w3.rangeAt (w.heap.size+1) 36 (aj t.bz)∧w3.rangeAt w.heap.size 0 (aj key)):=ae ⟨aN iP.out.1 hb3 H1.out.r.lt,aN iP.out.2 hb3 (Nat.lt_of_succ_lt H1.out.r.lt)⟩;clear hb3;refine hK.out _ _ jV.out (fun hH=>?_);clear hK K;refine fC 5 (.bool b) 30 rfl rfl hH (fun W hW=>by go_simp) ?_;refine ax ?_;refine fC 6 (.bool b) 24 rfl rfl hH (fun W hW=>by go_simp) ?_;refine ax ?_;clear hH;refine wpAnyH_done (by kernel_rfl) ?_ _;clear jV iP H1 zY hud hi1 hi2 hq hl1 RY HQ;have cv:w3.cell? ⟨w.heap.size+1,1,none⟩=some (I t.version):=((Row.jF H3.out.r.var).2 1).trans (jR _ _);cases b with
 |true=>
  have hr2:r=8:=by rw [←HR.out];unfold iW;rw [HM.out,HB0.out];rfl
  subst hr2;go_wp2_with fail;go_ret;exact ⟨rfl,H3.out.lo⟩
 |false=>
  by_cases hv:t.version=(m:Int)+1
  ·have HV:=ae hv;rw [hv] at cv;clear hv;by_cases h0:m=0
   ·have hr2:r=0:=by rw [←HR.out];unfold iW;rw [HM.out,HB0.out,kK.out,HV.out,h0,List.eq_nil_of_length_eq_zero (kK.out.trans h0)];rfl
    subst hr2;go_upto_region 11 with fail;have hz:(m:Int)=0:=by omega
    go_wp2_with fail;go_ret;exact ⟨rfl,H3.out.lo⟩
   ·obtain ⟨k,hk⟩:∃k,m=k+1:=⟨m - 1,by omega⟩;have hkl:k<ts.length:=by rw [kK.out];omega
    obtain ⟨x,hx⟩:∃x,ts[k]? =some x:=⟨_,dw hkl⟩;have hxm:=fZ hx;obtain ⟨cb,co,rfl,hcb,hTA⟩:∃b off,C=some ⟨b,off,none⟩∧b<w.heap.size∧qC w b off ts:=by
     rcases uS HC.out with h1|h1
     ·omega
     ·exact h1
    have he:Hid ((m:Int) - 1=(k:Int)):=ae (by omega);have i3:((m:Int)==0)=false:=by simp;omega
    have i4:(m==0)=false:=by simp;omega
    have i5:¬(m:Int)=0:=by omega
    have UA:Hid (∀W,Below w.heap.size w W→W.rangeAt cb (co+k*68) x.cells):=ae fun W hb=>aN (hTA k x hx).1 hb hcb;have uY:Hid ((Tryz.prog.info? 37).map (·.size)=some x.cells.length):=ae (by rw [(hTA k x hx).2];kernel_rfl);have HX:=ae (HLK.out x hxm);obtain ⟨P,hP⟩:∃P,jU KR (nV x.t++x.t.bz)=P:=⟨_,rfl⟩;have qF:P.length=32:=by rw [←hP];exact gZ _ _
    have xe:=ae qF;obtain ⟨q,hq⟩:∃q,(!(P==t.prev))=q:=⟨_,rfl⟩;have HRR:Hid (r=if q=true then 9 else if¬x.t.aT=t.aT then 9 else 0):=ae (by rw [←HR.out];unfold iW;rw [HM.out,HB0.out,kK.out,HV.out,show m - 1=k by omega,hx];simp [hP,←hq]);have mV:Hid (∀W,(binOp .neq 23 (.agg (aj P).toArray) (.agg (aj t.prev).toArray)).run Tryz.prog W= .ok (.bool q) W):=ae fun W=>by rw [F6 W _ _ qF HF.out.prev,hq]
    rw [hP] at HX;have QA:Hid ((cellsB z32).size=(cellsB P).size):=ae (by rw [bV,bV,qF];rfl);clear hkl hx hxm hTA hP qF hq hk;go_upto_region 13 with fail;have he:=he.out;have i1:(0:Int)≤(k:Int):=by omega
    have i2:(k:Int)<(m:Int):=by omega
    clear i3 i4 i5 h0;go_wp2_with ((with_reducible refine fA 37 ?_);go_must (refine bY rfl _ _ rfl cb (co+k*68) rfl x.cells (UA.out _ H3.out.lo) _ Tryz.underlying37 rfl uY.out ?_));refine (HX.out w3 H3.out.lo).mono ?_;rintro e w4 ⟨rfl,hb4⟩;have h4:=H3.out.grow hb4;have H4:=ae h4;have HA4:=ae (heap_alloc_last w4 (.cells (cellsB z32) 23));clear hb4 H3 cv HX;go_wp2_with (first
     |((with_reducible refine bn 23 ?_);go_must (refine aG rfl _ rfl (cellsB z32) iw ?_))
     |((with_reducible refine dO 23 ?_);go_must (refine wpList_store_row rfl _ _ _ rfl w4.heap.size (cellsB P) rfl rfl 23 (cellsB z32) HA4.out (jZ P xe.out) QA.out (jD _) ?_)))
    have hb5:Below w4.heap.size w4 ((w4.alloc (.cells (cellsB z32) 23)).setRow w4.heap.size (cellsB P)):=aB (ag w4 _) (Nat.le_refl _) _;have h5:((w4.alloc (.cells (cellsB z32) 23)).setRow w4.heap.size (cellsB P)).heap[w4.heap.size]? =some (.cells (cellsB P) 23 (0,0)):=setRow_heap _ _ _ _ _ _ HA4.out;have sZ:Hid (((w4.alloc (.cells (cellsB z32) 23)).setRow w4.heap.size (cellsB P)).drew.rangeAt w4.heap.size 0 (aj P)∧((w4.alloc (.cells (cellsB z32) 23)).setRow w4.heap.size (cellsB P)).drew.rangeAt (w.heap.size+1) 4 (aj t.prev)∧
      ((w4.alloc (.cells (cellsB z32) 23)).setRow w4.heap.size (cellsB P)).drew.cell? ⟨cb,co+k*68,none⟩=some (I x.t.aT)∧((w4.alloc (.cells (cellsB z32) 23)).setRow w4.heap.size (cellsB P)).drew.cell? ⟨w.heap.size+1,0,none⟩=some (I t.aT)):=ae (by
     have h6:=H4.out.grow hb5;have h7:=UA.out _ h6.lo 0 (I x.t.aT) rfl;exact ⟨fun j v hv=>by rw [Nat.zero_add];exact ((Row.jF h5).2 j).trans (by simpa [cellsB] using hv),oI t _ (Row.jF h6.r.var),h7,((Row.jF h6.r.var).2 0).trans (jQ _ _)⟩)
    have sN:=ae (H4.out.grow hb5).lo;clear hb5 h5 h4;have hud:=YV.out;have hq:=mV.out;have hi3:(Tryz.prog.info? 23).map (·.size)=some (aj P).length:=by have:=jZ P xe.out;rw [this];simp [cellsB]
    have hi4:(Tryz.prog.info? 23).map (·.size)=some (aj t.prev).length:=by have:=jZ t.prev HF.out.prev;rw [this];simp [cellsB]
    have hwk:IntKind.i64.wrap (k:Int)=(k:Int):=by rw [IntKind.wrap_i64];omega
    have hl1:(aj P).length=32:=by simp [aj,xe.out]
    have hl2:(aj t.prev).length=32:=by simp [aj,HF.out.prev]
    generalize (w4.alloc (.cells (cellsB z32) 23)).setRow w4.heap.size (cellsB P)=w5 at sZ sN ⊢;refine wp_region_held_drew (S:=fun w'=>w'.rangeAt w4.heap.size 0 (aj P)∧w'.rangeAt (w.heap.size+1) 4 (aj t.prev)∧w'.cell? ⟨cb,co+k*68,none⟩=some (I x.t.aT)∧w'.cell? ⟨w.heap.size+1,0,none⟩=some (I t.aT)) (by kernel_rfl) sZ.out (fun hH=>?_);cases q with
    |true=>
     have hr2:r=9:=HRR.out;subst hr2;clear HRR;refine fC 0 ( .bool true) 49 rfl rfl hH (fun W hW=>by obtain ⟨_,_,hW3,o9⟩:=hW;go_simp) ?_;refine ax ?_;refine fC 1 ( .bool false) 50 rfl rfl hH (fun W hW=>by obtain ⟨_,_,hW3,o9⟩:=hW;go_simp) ?_;refine ax ?_;refine fC 2 ( .bool false) 51 rfl rfl hH (fun W hW=>by obtain ⟨_,_,hW3,o9⟩:=hW;go_simp) ?_;refine ax ?_;refine gJ 3 _ 52 rfl rfl hH (yieldsIf_load_mid (by rfl) _ _ rfl w4.heap.size 0 rfl (aj P) _ (fun _ hW=>hW.1) hud rfl hi3) ?_;refine ax ?_;refine fC 4 ( .pointer (some ⟨w.heap.size+1,4,none⟩)) 53 rfl rfl hH (fun W hW=>by obtain ⟨_,_,hW3,o9⟩:=hW;go_simp) ?_;refine ax ?_;refine gJ 5 _ 54 rfl rfl hH (yieldsIf_load_mid (by rfl) _ _ rfl (w.heap.size+1) 4 rfl (aj t.prev) _ (fun _ hW=>hW.2.1) hud rfl hi4) ?_;refine ax ?_;refine fC 6 ( .bool true) 55 rfl rfl hH (fun W hW=>by obtain ⟨_,_,hW3,o9⟩:=hW;go_simp) ?_;refine ax ?_;refine fC 7 ( .bool true) 56 rfl rfl hH (fun W hW=>by obtain ⟨_,_,hW3,o9⟩:=hW;go_simp) ?_;refine ax ?_;refine fC 8 ( .bool true) 57 rfl rfl hH (fun W hW=>by obtain ⟨_,_,hW3,o9⟩:=hW;go_simp) ?_;refine ax ?_;refine gJ 9 undef 58 rfl rfl hH (Or.inr ⟨by rfl,rfl⟩) ?_;refine ax ?_;refine gJ 10 undef 59 rfl rfl hH (Or.inr ⟨by rfl,rfl⟩) ?_;refine ax ?_;refine gJ 11 undef 60 rfl rfl hH (Or.inr ⟨by rfl,rfl⟩) ?_;refine ax ?_;refine gJ 12 undef 61 rfl rfl hH (Or.inr ⟨by rfl,rfl⟩) ?_;refine ax ?_;refine gJ 13 undef 62 rfl rfl hH (Or.inr ⟨by rfl,rfl⟩) ?_;refine ax ?_;refine gJ 14 undef 63 rfl rfl hH (Or.inr ⟨by rfl,rfl⟩) ?_;refine ax ?_;refine gJ 15 undef 64 rfl rfl hH (Or.inr ⟨by rfl,rfl⟩) ?_;refine ax ?_;refine gJ 16 undef 65 rfl rfl hH (Or.inr ⟨by rfl,rfl⟩) ?_;refine ax ?_;refine gJ 17 undef 66 rfl rfl hH (Or.inr ⟨by rfl,rfl⟩) ?_;refine ax ?_;refine fC 18 ( .bool true) 67 rfl rfl hH (fun W hW=>by obtain ⟨_,_,hW3,o9⟩:=hW;go_simp) ?_;refine ax ?_;clear hH;refine wpAnyH_done (by kernel_rfl) ?_ _;clear hud hi3 hi4 hq hl1 hl2;go_wp2_with fail;go_ret;exact ⟨rfl,sN.out.drew⟩
    |false=>
     by_cases hs:x.t.aT=t.aT
     ·have hr2:r=0:=HRR.out.trans (by simp [hs]);subst hr2;clear HRR;refine fC 0 ( .bool true) 49 rfl rfl hH (fun W hW=>by obtain ⟨_,_,hW3,o9⟩:=hW;go_simp) ?_;refine ax ?_;refine fC 1 ( .bool false) 50 rfl rfl hH (fun W hW=>by obtain ⟨_,_,hW3,o9⟩:=hW;go_simp) ?_;refine ax ?_;refine fC 2 ( .bool false) 51 rfl rfl hH (fun W hW=>by obtain ⟨_,_,hW3,o9⟩:=hW;go_simp) ?_;refine ax ?_;refine gJ 3 _ 52 rfl rfl hH (yieldsIf_load_mid (by rfl) _ _ rfl w4.heap.size 0 rfl (aj P) _ (fun _ hW=>hW.1) hud rfl hi3) ?_;refine ax ?_;refine fC 4 ( .pointer (some ⟨w.heap.size+1,4,none⟩)) 53 rfl rfl hH (fun W hW=>by obtain ⟨_,_,hW3,o9⟩:=hW;go_simp) ?_;refine ax ?_;refine gJ 5 _ 54 rfl rfl hH (yieldsIf_load_mid (by rfl) _ _ rfl (w.heap.size+1) 4 rfl (aj t.prev) _ (fun _ hW=>hW.2.1) hud rfl hi4) ?_;refine ax ?_;refine fC 6 ( .bool false) 55 rfl rfl hH (fun W hW=>by obtain ⟨_,_,hW3,o9⟩:=hW;go_simp) ?_;refine ax ?_;refine fC 7 ( .bool false) 56 rfl rfl hH (fun W hW=>by obtain ⟨_,_,hW3,o9⟩:=hW;go_simp) ?_;refine ax ?_;refine fC 8 ( .bool false) 57 rfl rfl hH (fun W hW=>by obtain ⟨_,_,hW3,o9⟩:=hW;go_simp) ?_;refine ax ?_;refine fC 9 ( .slice (some ⟨cb,co,none⟩) m cc) 58 rfl rfl hH (fun W hW=>by obtain ⟨_,_,hW3,o9⟩:=hW;go_simp) ?_;refine ax ?_;refine fC 10 (I m) 59 rfl rfl hH (fun W hW=>by obtain ⟨_,_,hW3,o9⟩:=hW;go_simp) ?_;refine ax ?_;refine fC 11 (I k) 60 rfl rfl hH (fun W hW=>by obtain ⟨_,_,hW3,o9⟩:=hW;go_simp) ?_;refine ax ?_;refine fC 12 ( .pointer (some ⟨cb,co+k*68,none⟩)) 61 rfl rfl hH (fun W hW=>by obtain ⟨_,_,hW3,o9⟩:=hW;go_simp) ?_;refine ax ?_;refine fC 13 ( .pointer (some ⟨cb,co+k*68,none⟩)) 62 rfl rfl hH (fun W hW=>by obtain ⟨_,_,hW3,o9⟩:=hW;go_simp) ?_;refine ax ?_;refine fC 14 (I x.t.aT) 63 rfl rfl hH (fun W hW=>by obtain ⟨_,_,hW3,o9⟩:=hW;go_simp) ?_;refine ax ?_;refine fC 15 ( .pointer (some ⟨w.heap.size+1,0,none⟩)) 64 rfl rfl hH (fun W hW=>by obtain ⟨_,_,hW3,o9⟩:=hW;go_simp) ?_;refine ax ?_;refine fC 16 (I t.aT) 65 rfl rfl hH (fun W hW=>by obtain ⟨_,_,hW3,o9⟩:=hW;go_simp) ?_;refine ax ?_;refine fC 17 ( .bool false) 66 rfl rfl hH (fun W hW=>by obtain ⟨_,_,hW3,o9⟩:=hW;go_simp) ?_;refine ax ?_;refine fC 18 ( .bool false) 67 rfl rfl hH (fun W hW=>by obtain ⟨_,_,hW3,o9⟩:=hW;go_simp) ?_;refine ax ?_;clear hH;refine wpAnyH_done (by kernel_rfl) ?_ _;clear hud hi3 hi4 hq hl1 hl2;go_wp2_with fail;go_ret;exact ⟨rfl,sN.out.drew⟩
     ·have hr2:r=9:=HRR.out.trans (by simp [hs]);subst hr2;clear HRR;refine fC 0 ( .bool true) 49 rfl rfl hH (fun W hW=>by obtain ⟨_,_,hW3,o9⟩:=hW;go_simp) ?_;refine ax ?_;refine fC 1 ( .bool false) 50 rfl rfl hH (fun W hW=>by obtain ⟨_,_,hW3,o9⟩:=hW;go_simp) ?_;refine ax ?_;refine fC 2 ( .bool false) 51 rfl rfl hH (fun W hW=>by obtain ⟨_,_,hW3,o9⟩:=hW;go_simp) ?_;refine ax ?_;refine gJ 3 _ 52 rfl rfl hH (yieldsIf_load_mid (by rfl) _ _ rfl w4.heap.size 0 rfl (aj P) _ (fun _ hW=>hW.1) hud rfl hi3) ?_;refine ax ?_;refine fC 4 ( .pointer (some ⟨w.heap.size+1,4,none⟩)) 53 rfl rfl hH (fun W hW=>by obtain ⟨_,_,hW3,o9⟩:=hW;go_simp) ?_;refine ax ?_;refine gJ 5 _ 54 rfl rfl hH (yieldsIf_load_mid (by rfl) _ _ rfl (w.heap.size+1) 4 rfl (aj t.prev) _ (fun _ hW=>hW.2.1) hud rfl hi4) ?_;refine ax ?_;refine fC 6 ( .bool false) 55 rfl rfl hH (fun W hW=>by obtain ⟨_,_,hW3,o9⟩:=hW;go_simp) ?_;refine ax ?_;refine fC 7 ( .bool false) 56 rfl rfl hH (fun W hW=>by obtain ⟨_,_,hW3,o9⟩:=hW;go_simp) ?_;refine ax ?_;refine fC 8 ( .bool false) 57 rfl rfl hH (fun W hW=>by obtain ⟨_,_,hW3,o9⟩:=hW;go_simp) ?_;refine ax ?_;refine fC 9 ( .slice (some ⟨cb,co,none⟩) m cc) 58 rfl rfl hH (fun W hW=>by obtain ⟨_,_,hW3,o9⟩:=hW;go_simp) ?_;refine ax ?_;refine fC 10 (I m) 59 rfl rfl hH (fun W hW=>by obtain ⟨_,_,hW3,o9⟩:=hW;go_simp) ?_;refine ax ?_;refine fC 11 (I k) 60 rfl rfl hH (fun W hW=>by obtain ⟨_,_,hW3,o9⟩:=hW;go_simp) ?_;refine ax ?_;refine fC 12 ( .pointer (some ⟨cb,co+k*68,none⟩)) 61 rfl rfl hH (fun W hW=>by obtain ⟨_,_,hW3,o9⟩:=hW;go_simp) ?_;refine ax ?_;refine fC 13 ( .pointer (some ⟨cb,co+k*68,none⟩)) 62 rfl rfl hH (fun W hW=>by obtain ⟨_,_,hW3,o9⟩:=hW;go_simp) ?_;refine ax ?_;refine fC 14 (I x.t.aT) 63 rfl rfl hH (fun W hW=>by obtain ⟨_,_,hW3,o9⟩:=hW;go_simp) ?_;refine ax ?_;refine fC 15 ( .pointer (some ⟨w.heap.size+1,0,none⟩)) 64 rfl rfl hH (fun W hW=>by obtain ⟨_,_,hW3,o9⟩:=hW;go_simp) ?_;refine ax ?_;refine fC 16 (I t.aT) 65 rfl rfl hH (fun W hW=>by obtain ⟨_,_,hW3,o9⟩:=hW;go_simp) ?_;refine ax ?_;refine fC 17 ( .bool true) 66 rfl rfl hH (fun W hW=>by obtain ⟨_,_,hW3,o9⟩:=hW;go_simp) ?_;refine ax ?_;refine fC 18 ( .bool true) 67 rfl rfl hH (fun W hW=>by obtain ⟨_,_,hW3,o9⟩:=hW;go_simp) ?_;refine ax ?_;clear hH;refine wpAnyH_done (by kernel_rfl) ?_ _;clear hud hi3 hi4 hq hl1 hl2;go_wp2_with fail;go_ret;exact ⟨rfl,sN.out.drew⟩
  ·have hr2:r=9:=by rw [←HR.out];unfold iW;rw [HM.out,HB0.out,kK.out,if_neg (by decide),if_pos hv]
   subst hr2;obtain ⟨V,hV⟩:∃V,t.version=V:=⟨_,rfl⟩;rw [hV] at cv hv;have e1:(V !=(m:Int)+1)=true:=by simp;exact hv
   clear hV;go_wp2_with fail;go_ret;exact ⟨rfl,H3.out.lo⟩
theorem tabZ:(Tryz.prog.info? 37).map (fun i=>(i.zero,i.size))=some (some (.agg (ai bQ (.slice none 0 0))),(ai bQ (.slice none 0 0)).size):=by kernel_rfl
theorem V8 {lo e size n c k:Nat} {w:World} {A:Option Addr} {cs:List Value} (h:w.ownsRow lo e size (.slice A n c) k cs):n≤c:=by
 rcases h.2 with ⟨hv,hn⟩|⟨g,cap,cur,hv,_,_,h1,_⟩
 ·injection hv with _ e1 e2;omega
 ·injection hv with _ e1 e2;omega
theorem aA.pre {w:World} {B:Nat} {A:Option Addr} {cs ds:List Value} (h:aA w B A (cs++ds)):aA w B A cs:=by
 rcases h with h|⟨b,off,h1,h2,h3⟩
 ·exact .inl (by rw [aZ] at h;omega)
 ·exact .inr ⟨b,off,h1,h2,fun j u hu=>h3 j u (by rw [List.getElem?_append_left (gu.1 hu).1];exact hu)⟩
theorem jd.take {w:World} {B:Nat} {A:Option Addr} {ts:List dI} (h:jd w B A ts) (k:Nat):jd w B A (ts.take k):=by
 refine ⟨aA.pre (ds:=(ts.drop k).flatMap dI.cells) ?_,fun x hx=>h.each x (List.mem_of_mem_take hx)⟩;rw [←List.flatMap_append,List.take_append_drop];exact h.row
def CkF (KR:List Int) (key:List UInt8) (ts:List dI) (r:Int):Prop:=
 (r=0∧∀k x,ts[k]? =some x→iW KR key (ts.take k) x.t=0)∨
 (¬r=0∧∃k x,ts[k]? =some x∧iW KR key (ts.take k) x.t=r∧∀j y,j<k→ts[j]? =some y→iW KR key (ts.take j) y.t=0)
def CkP (w:World) (KR:List Int) (key:List UInt8) (ts:List dI) (e:Ending) (w':World):Prop:=∃r,e= .returned (I r)∧CkF KR key ts r∧Below w.heap.size w w'
structure CkW (w:World) (key:List UInt8) (W:World):Prop where
 bx:AV w.heap.size 23 (cellsB key) W
 lo:Below w.heap.size w W
theorem CkW.grow {w W W':World} {key:List UInt8} (h:CkW w key W) (hb:Below W.heap.size W W'):CkW w key W':=⟨h.bx.below hb,ah h.lo hb⟩
theorem KJ (KR:List Int) (hK:KR.length=64) (w:World) (hG:fH w 0 (au KR)) (hw1:0<w.heap.size) (key:List UInt8) (hk:key.length=32)
  (C:Option Addr) (m cc:Nat) (ts:List dI) (hm:ts.length=m) (hm1:m≤64) (hcc:m≤cc) (hC:jd w w.heap.size C ts) (hT:∀x∈ts,Nr x):
  Calls Tryz.prog 8 #[.slice C m cc, .agg (cellsB key)] w (CkP w KR key ts):=by
 have HAD:Hid (∀k x,ts[k]? =some x→∀W,Below w.heap.size w W→Calls Tryz.prog 28 #[.slice C k cc, .agg (aj key).toArray, .agg x.cells.toArray] W (Gives (I (iW KR key (ts.take k) x.t)) W)):=ae fun k x hx W hb=>by
  have hkl:=(gu.1 hx).1;have hxm:=fZ hx;exact KC KR hK W (hG.via hb hw1) (dQ hw1 hb.size) key hk x.t x.A x.zs.length x.c x.zs (hT x hxm).1 (hC.each x hxm).names rfl ((hC.each x hxm).aS.grow hb) (hT x hxm).2 C k cc (ts.take k) (by rw [List.length_take];omega) (by omega) ((hC.take k).grow hb) (fun y hy=>hT y (List.mem_of_mem_take hy)) _ rfl
 have H0:Hid (CkW w key (w.alloc (.cells (cellsB key) 23))):=ae ⟨AV.new w _ _,ag w _⟩;have HI2:Hid ((Tryz.prog.info? 23).map (·.size)=some (aj key).length):=ae (by have:=jZ key hk;rw [this];simp [cellsB]);have oP:Hid ((aj key).length=32):=ae (by simp [aj,hk]);have YV:Hid (Tryz.prog.underlying 23=some (.array 32 5)):=ae Tryz.underlying23;have kK:=ae hm;have HC:=ae hC;have YP:=ae (uS hC);clear hK hG hk hm hC hT;go_enter Tryz.func8,Tryz.ntmps8;go_upto_region 1 with fail;generalize w.alloc (.cells (cellsB key) 23)=W0 at H0 ⊢;go_wp2_with fail
 go_loopw [10] (fun i wr=>∃k:Nat,k≤m∧i=I k∧(∀j y,j<k→ts[j]? =some y→iW KR key (ts.take j) y.t=0)∧CkW w key wr) (fun i _=>m - (intOf i).toNat)
 case atStart=>exact ⟨0,Nat.zero_le _,rfl,fun _ _ h=>absurd h (Nat.not_lt_zero _),H0.out⟩
 case round=>
  obtain ⟨k,hk,rfl,hz,hp⟩:=hrel;have HP:=ae hp;have HZ:=ae hz;have hlt0:=hp.bx.lt;clear hp hz H0;by_cases hlt:k<m
  ·have hkl:k<ts.length:=by rw [kK.out];exact hlt
   obtain ⟨x,hx⟩:∃x,ts[k]? =some x:=⟨_,dw hkl⟩;have hxm:=fZ hx;obtain ⟨cb,co,rfl,hcb,hTA⟩:∃b off,C=some ⟨b,off,none⟩∧b<w.heap.size∧qC w b off ts:=by
    rcases YP.out with h1|h1
    ·omega
    ·exact h1
   have hxa:=HC.out.each x hxm;have HX:=ae hx;have jC:=ae (HAD.out k x hx);have UA:Hid (wr.rangeAt cb (co+k*68) x.cells):=ae (aN (hTA k x hx).1 HP.out.lo hcb);have uY:Hid ((Tryz.prog.info? 37).map (·.size)=some x.cells.length):=ae (by rw [(hTA k x hx).2];kernel_rfl);have ND:=ae (hTA k x hx).2;have HXI:Hid ((Tryz.prog.info? 37).map (·.size)=some x.cells.toArray.size):=ae (cu x.t _ hxa.prev hxa.bz);have HXZ:Hid ((ai bQ (.slice none 0 0)).size=x.cells.toArray.size):=ae ((bF bQ _ rfl rfl).trans (bF x.t (.slice x.A x.zs.length x.c) hxa.prev hxa.bz).symm);have HXO:Hid (x.cells.toArray.all (·.oneCell')=true):=ae (bu _ _ _ _);have Xm:=ae (heap_alloc_last wr (.cells (ai bQ (.slice none 0 0)) 37));have Qu:Hid (AV wr.heap.size 37 x.cells.toArray ((wr.alloc (.cells (ai bQ (.slice none 0 0)) 37)).setRow wr.heap.size x.cells.toArray)):=ae ⟨setRow_heap _ _ _ _ _ _ Xm.out⟩;have HQ:=ae (HP.out.grow (aB (ag wr (.cells (ai bQ (.slice none 0 0)) 37)) (Nat.le_refl _) x.cells.toArray));have i1:(0:Int)≤(k:Int):=by omega
   have i2:(k:Int)<(m:Int):=by omega
   have i3:(k:Int)≤(cc:Int):=by omega
   have i4:¬(cc:Int)<(k:Int):=by omega
   clear hx hxm hTA hxa hkl;go_wp2_with (first
    |((with_reducible refine fA 37 ?_);go_must (refine bY rfl _ _ rfl cb (co+k*68) rfl x.cells UA.out _ Tryz.underlying37 rfl uY.out ?_))
    |((with_reducible refine bn 37 ?_);go_must (refine aG rfl _ rfl (ai bQ (.slice none 0 0)) tabZ ?_))
    |((with_reducible refine dO 37 ?_);go_must (refine wpList_store_row rfl _ _ _ rfl wr.heap.size x.cells.toArray rfl rfl 37 (ai bQ (.slice none 0 0)) Xm.out HXI.out HXZ.out HXO.out ?_)))
   generalize (wr.alloc (.cells (ai bQ (.slice none 0 0)) 37)).setRow wr.heap.size x.cells.toArray=wq at Qu HQ ⊢;have HS:Hid (wq.drew.rangeAt w.heap.size 0 (aj key)∧wq.drew.rangeAt wr.heap.size 0 x.cells):=ae ⟨fun j v hv=>by rw [Nat.zero_add];exact (HQ.out.bx.cell j).trans (by simpa [cellsB] using hv),fun j v hv=>by rw [Nat.zero_add];exact (Qu.out.cell j).trans (by simpa using hv)⟩;have hud:=YV.out;have hi2:=HI2.out;have hi3:=uY.out;have hl1:=oP.out;have hl2:=ND.out;refine wp_region_held_drew (S:=fun w'=>w'.rangeAt w.heap.size 0 (aj key)∧w'.rangeAt wr.heap.size 0 x.cells) (by kernel_rfl) HS.out (fun hH=>?_);refine fC 0 ( .slice (some ⟨cb,co,none⟩) m cc) 15 rfl rfl hH (fun W hW=>by obtain ⟨_,_⟩:=hW;go_simp) ?_;refine ax ?_;refine fC 1 (I k) 16 rfl rfl hH (fun W hW=>by obtain ⟨_,_⟩:=hW;go_simp) ?_;refine ax ?_;refine fC 2 ( .slice (some ⟨cb,co,none⟩) k cc) 17 rfl rfl hH (fun W hW=>by obtain ⟨_,_⟩:=hW;go_simp) ?_;refine ax ?_;refine gJ 3 _ 18 rfl rfl hH (yieldsIf_load_mid (by rfl) _ _ rfl w.heap.size 0 rfl (aj key) _ (fun _ hW=>hW.1) hud rfl hi2) ?_;refine ax ?_;refine gJ 4 _ 19 rfl rfl hH (yieldsIf_load_mid (by rfl) _ _ rfl wr.heap.size 0 rfl x.cells _ (fun _ hW=>hW.2) Tryz.underlying37 rfl hi3) ?_;refine ax ?_;clear hH;refine aU 5 (fun K hK=>?_);go_simp;go_at_call 28;refine (jC.out wq.drew HQ.out.lo.drew).mono ?_;obtain ⟨r,hr⟩:∃r,iW KR key (ts.take k) x.t=r:=⟨_,rfl⟩;rw [hr];have HR:=ae hr;clear hr;rintro e w3 ⟨rfl,hb3⟩;have Aa:Hid (CkW w key w3):=ae (HQ.out.grow (Below.trans ((Below.refl _ wq).drew) hb3));have jV:Hid (w3.rangeAt w.heap.size 0 (aj key)∧w3.rangeAt wr.heap.size 0 x.cells):=ae ⟨aN HS.out.1 hb3 HQ.out.bx.lt,aN HS.out.2 hb3 Qu.out.lt⟩;clear hb3;refine hK.out _ _ jV.out (fun hH=>?_);clear hK K;refine fC 6 (I r) 7 rfl rfl hH (fun W hW=>by obtain ⟨_,_⟩:=hW;go_simp) ?_;refine ax ?_;clear hH;refine wpAnyH_done (by kernel_rfl) ?_ _;clear jV HS Qu HQ UA Xm hud hi2 hi3 hl1 hl2;by_cases h0:r=0
   ·subst h0;go_wp2_with fail;go_roundw
    case rel=>exact ⟨k+1,by omega,by go_num,fun j y hj hy=>by
     by_cases hjk:j<k
     ·exact HZ.out j y hjk hy
     ·obtain rfl:j=k:=by omega
      obtain rfl:y=x:=by have:=HX.out;rw [hy] at this;injection this
      exact HR.out,Aa.out⟩
    case measure=>simp [intOf];omega
   ·go_wp2_with fail;go_ret;exact ⟨r,rfl, .inr ⟨h0,k,x,HX.out,HR.out,HZ.out⟩,Aa.out.lo⟩
  ·have hlt':¬(k:Int)<(m:Int):=by omega
   go_wp2_with fail;go_ret;exact ⟨0,rfl, .inl ⟨rfl,fun j y hy=>HZ.out j y (by have:=(gu.1 hy).1;have:=kK.out;omega) hy⟩,HP.out.lo⟩
def oN (KR:List Int) (key:List UInt8) (ts:List dI):Prop:=∀k x,ts[k]? =some x→iW KR key (ts.take k) x.t=0
theorem oN.nil {KR:List Int} {key:List UInt8}:oN KR key []:=fun _ _ h=>nomatch h
theorem oN.snoc {KR:List Int} {key:List UInt8} {ts:List dI} {u:dI} (h:oN KR key ts) (hu:iW KR key ts u.t=0):oN KR key (ts++ [u]):=by
 intro k x hx;by_cases hk:k<ts.length
 ·rw [List.getElem?_append_left hk] at hx;rw [List.take_append_of_le_length (by omega)];exact h k x hx
 ·have hk2:=(gu.1 hx).1;rw [aZ,List.length_singleton] at hk2;obtain rfl:k=ts.length:=by omega
  rw [List.getElem?_append_right (Nat.le_refl _),Nat.sub_self] at hx;injection hx with hx;subst hx;rw [List.take_append_of_le_length (Nat.le_refl _),List.take_length];exact hu
theorem Hy {KR:List Int} {key:List UInt8} {ts:List dI} {t:Tb} (h1:t.bz=nS KR key (nV t)) (h2:t.version=(ts.length:Int)+1) (h3:∀x,ts[ts.length - 1]? =some x→jU KR (nV x.t++x.t.bz)=t.prev∧x.t.aT=t.aT):iW KR key ts t=0:=by
 unfold iW;rw [←h1,if_neg (by simp),if_neg (by simp [h2])];cases hx:ts[ts.length - 1]? with
 |none=>rfl
 |some x=>simp [(h3 x hx).1,(h3 x hx).2]
theorem oN.check {KR:List Int} {key:List UInt8} {ts:List dI} {r:Int} (h:oN KR key ts) (hr:CkF KR key ts r):r=0:=by
 rcases hr with ⟨hr,_⟩|⟨h0,k,x,hx,hr,_⟩
 ·exact hr
 ·exact absurd (hr.symm.trans (h k x hx)) h0
theorem Fj.good {t:Tb} (h:Fj t) (hp:t.prev.length=32) (hm:t.bz.length=32):XQ t where
 aT:=⟨h.aT.1,by have:=h.aT.2;omega⟩
 version:=h.version
 aJ:=h.aJ
 prev:=hp
 bz:=hm
 first:=h.first
 num:=by have:=h.num;omega
 good:=fun e he=>⟨(h.aS e he).made,(h.aS e he).ok⟩
 short:=fun e he=>by
  obtain ⟨k,hk⟩:=List.getElem?_of_mem he;rw [h.names k e hk,rZ];omega
theorem Fj.up {t:Tb} (h:Fj t) {zs:List dD} (hz:t.aS=zs.map (·.e)):mW zs:=by
 intro k x hx;have hk:=(gu.1 hx).1;have hn:=h.num;rw [hz,List.length_map] at hn;have h1:∀j y,zs[j]? =some y→y.e.name=bP j:=fun j y hy=>h.names j y.e (by rw [hz,List.getElem?_map,hy];rfl);have hl:gG zs k=xy k:=by
  cases k with
  |zero=>rfl
  |succ k=>
   show (zs[k]?.map (·.e.name)).getD ⟨#[]⟩=bP k;rw [dw (by omega)];exact h1 k _ (dw (by omega))
 rw [h1 k x hx,hl];exact JC k (by omega)
end Go.Proofs.YtdibbemgpikgjaaGreatDoor
