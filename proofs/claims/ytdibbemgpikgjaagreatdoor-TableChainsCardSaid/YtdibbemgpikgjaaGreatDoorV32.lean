/- The texts Of, TrU, Og, TrV, Qi, Qj, in this order. -/
import Derived.Test.YtdibbemgpikgjaaGreatDoorV00
import Derived.Test.YtdibbemgpikgjaaGreatDoorVA0
import Derived.Test.YtdibbemgpikgjaaGreatDoorV06
import Derived.Test.YtdibbemgpikgjaaGreatDoorV07
import Derived.Test.YtdibbemgpikgjaaGreatDoorV14
import Derived.Test.YtdibbemgpikgjaaGreatDoorV31
namespace Go.Proofs.YtdibbemgpikgjaaGreatDoor
open Go Go.RowKit
theorem uS {lo:Nat} {w:World} {g n c:Nat} {bs:List UInt8} (h:w.ownsRow lo 5 1 (.slice (some ⟨g,0,none⟩) n c) n (bs.map Extern.Stop.cell)) (j:Nat) (hj:j<bs.length):w.cell? ⟨g,0+j,none⟩=some (Extern.Stop.cell (bs[j]?.getD 0)):=by
 have h2:=h.cells (g:=g) rfl j (Extern.Stop.cell (bs[j]?.getD 0)) (by rw [List.getElem?_map,List.getElem?_eq_getElem hj];rfl)
 rw [addr_add] at h2
 rw [Nat.zero_add]
 exact h2
set_option maxRecDepth 10000 in
set_option maxHeartbeats 1000000 in
theorem Np (KR:List Int) (hK:KR.length=64) (w:World) (hG:fA w 0 (aA KR)) (hw1:0<w.heap.size) (t:Tb) (A:Option Addr) (n c:Nat) (zs:List cZ) (h:Rz t) (hzz:t.aS=zs.map (·.e)) (hn:zs.length=n) (hA:kU w w.heap.size A zs) (hup:fV zs):
  Calls Tryz.prog 46 #[.agg (ai t (.slice A n c))] w (Gives (.tuple #[.agg (cellsB (lI KR (oD t++t.bG))), .bool true]) w):=by
 have HF:=ae h
 have HK:=ae hK
 have HG:=ae hG
 have eX:Hid (∀v,(Tryz.prog.info? 37).map (·.size)=some (ai t v).size):=ae fun v=>bV t v h.prev h.bG
 have BC:Hid (∀W,Below w.heap.size w W→Calls Tryz.prog 9 #[.agg (ai t (.slice A n c))] W (zD W (oD t))):=ae fun W hb=>jQ t A n c zs W h hzz hn (hA.grow hb) hup
 have H0:=ae (V2.start w 37 (ai t (.slice A n c)) 23 (cellsB z32))
 obtain ⟨D,hD⟩:∃D,lI KR (oD t++t.bG)=D:=⟨_,rfl⟩
 have hd32:D.length=32:=by rw [←hD];exact jf _ _
 rw [hD]
 have HD:=ae hD
 have MF:=ae hd32
 have VS:Hid ((cellsB z32).size=(cellsB D).size):=ae (by rw [bD,bD,hd32];rfl)
 have xy:=ae (qF t h)
 obtain ⟨N,hN⟩:∃N,(oD t).length=N:=⟨_,rfl⟩
 have HN:=ae hN
 clear h hzz hn hA hup hK hG hD hd32 hN
 go_enter Tryz.func46,Tryz.ntmps46
 go_upto_region 1 with (first
  |((with_reducible refine bP 23 ?_);go_must (refine aJ rfl _ rfl (cellsB z32) gB ?_)))
 generalize (w.alloc (.cells (ai t (.slice A n c)) 37)).alloc (.cells (cellsB z32) 23)=W0 at H0 ⊢
 go_wp2_with ((with_reducible refine gU 37 ?_);go_must (refine aX rfl _ _ rfl w.heap.size rfl (ai t (.slice A n c)) H0.out.s.jB _ Tryz.underlying37 rfl (eX.out _) ?_))
 refine (BC.out W0 H0.out.lo).mono ?_
 rintro e w1 ⟨⟨g1,c1,rfl,o1⟩,b1⟩
 have h1:=H0.out.grow b1
 have H1:=ae h1
 have hw0:=H0.out.r.lt
 have hs1:W0.heap.size≤w1.heap.size:=b1.size
 rw [HN.out] at o1 ⊢
 have IB:Hid (uY W0.heap.size w1 (some ⟨g1,0,none⟩) N c1 (oD t)):=ae o1
 have hn1:N≤18000:=by rw [←HN.out];exact xy.out.2
 have uD:Hid (az w1 w1.heap.size (some ⟨w.heap.size,36,none⟩) (t.bG.map Extern.Stop.cell)):=ae (.inr ⟨w.heap.size,36,rfl,by have:=h1.r.lt;omega,EI t (.slice A n c) (Row.iq h1.s.var) HF.out.prev⟩)
 clear o1 b1 h1 H0 BC
 go_wp2_with (at_builtin;go_must (refine pF rfl _ _ rfl W0.heap.size N c1 (some ⟨g1,0,none⟩) (oD t) rfl IB.out _ (some ⟨w.heap.size,36,none⟩) 32 32 t.bG rfl HF.out.bG (by omega) uD.out (by omega) hs1 ?_))
 intro A3 c3 w3 o3 k3
 have h3:=H1.out.Vq (k3.yC IB.out.base hs1) hw0
 have H3:=ae h3
 obtain ⟨g3,c4,hv3,hg3⟩:=dw (show w3.ownsRow _ _ 1 (.slice A3 (N+32) c3) (N+32) _ from o3) (by omega)
 injection hv3 with e1 _ e3
 subst e1 e3
 have HS:Hid (Calls Tryz.prog 12 #[.slice (some ⟨g3,0,none⟩) (N+32) c3] w3 (Gives (.agg (cellsB D)) w3)):=ae (by
  have hl:(oD t++t.bG).length=N+32:=by rw [List.length_append,HN.out,HF.out.bG]
  have:=G9 KR HK.out w3 (HG.out.via h3.lo hw1) (oD t++t.bG) (by omega) (by omega) g3 0 c3 hg3 (uS o3)
  rw [hl,HD.out] at this
  exact this)
 clear o3 k3 h3 H1 IB uD
 go_wp2_with fail
 refine HS.out.mono ?_
 rintro e w4 ⟨rfl,hb4⟩
 have H4:=ae (H3.out.grow hb4)
 clear H3 HS hb4 hg3
 go_wp2_with ((with_reducible refine gV 23 ?_);go_must (refine wpList_store_row rfl _ _ _ rfl (w.heap.size+1) (cellsB D) rfl rfl 23 (cellsB z32) H4.out.r.var (gq D MF.out) VS.out (gJ _) ?_))
 refine bodyPost_ret (v:= .tuple #[.agg (cellsB D), .bool true]) (bK rfl _ _ (w.heap.size+1) _ (cellsB D) (0,0) _ rfl (setRow_heap _ _ _ _ _ _ H4.out.r.var) Tryz.underlying23 rfl (gq D MF.out) _ rfl) rfl ?_
 exact ⟨rfl,aF H4.out.lo (Nat.le_succ _) _⟩
end Go.Proofs.YtdibbemgpikgjaaGreatDoor
namespace Go.Proofs.YtdibbemgpikgjaaGreatDoor
open Go Go.RowKit
theorem LC (w:World) (r r':List UInt8) (h:r.length=32) (h':r'.length=32):
  (binOp .neq 23 (.agg (aj r).toArray) (.agg (aj r').toArray)).run Tryz.prog w= .ok (.bool (!(r==r'))) w:=by
 unfold aj
 rw [run_neq_struct,run_equalIn_bytes w 9998 23 5 32 Tryz.underlying23 Tryz.underlying5 (fun w=>EF w) r r' h h']
 rfl
end Go.Proofs.YtdibbemgpikgjaaGreatDoor
namespace Go.Proofs.YtdibbemgpikgjaaGreatDoor
open Go Go.RowKit
def fH (KR:List Int) (key:List UInt8) (ts:List di) (t:Tb):Int:=
 if (!(t.bG==tY KR key (oD t)))=true then 8 else if¬t.version=(ts.length:Int)+1 then 9 else
  match ts[ts.length - 1]? with
  |none=>0
  |some x=>if (!(lI KR (oD x.t++x.t.bG)==t.prev))=true then 9 else if¬x.t.aW=t.aW then 9 else 0
def oI (x:di):Prop:=Rz x.t∧fV x.zs
set_option maxRecDepth 10000 in
set_option maxHeartbeats 4000000 in
theorem uG (KR:List Int) (hK:KR.length=64) (w:World) (hG:fA w 0 (aA KR)) (hw1:0<w.heap.size) (key:List UInt8) (hk:key.length=32) (t:Tb) (A:Option Addr) (n c:Nat) (zs:List cZ) (h:Rz t) (hzz:t.aS=zs.map (·.e)) (hn:zs.length=n) (hA:kU w w.heap.size A zs) (hup:fV zs)
  (C:Option Addr) (m cc:Nat) (ts:List di) (hm:ts.length=m) (hm1:m<64) (hC:gW w w.heap.size C ts) (hT:∀x∈ts,oI x) (r:Int) (hr:fH KR key ts t=r):
  Calls Tryz.prog 28 #[.slice C m cc, .agg (cellsB key), .agg (ai t (.slice A n c))] w (Gives (I r) w):=by
 have HF:=ae h
 have HK:=ae hK
 have HG:=ae hG
 have ZG:=ae hk
 have jw:=ae hm
 have eX:Hid (∀v,(Tryz.prog.info? 37).map (·.size)=some (ai t v).size):=ae fun v=>bV t v h.prev h.bG
 have BC:Hid (∀W,Below w.heap.size w W→Calls Tryz.prog 9 #[.agg (ai t (.slice A n c))] W (zD W (oD t))):=ae fun W hb=>jQ t A n c zs W h hzz hn (hA.grow hb) hup
 have HLK:Hid (∀x,x∈ts→∀W,Below w.heap.size w W→Calls Tryz.prog 46 #[.agg x.cells.toArray] W (Gives (.tuple #[.agg (cellsB (lI KR (oD x.t++x.t.bG))), .bool true]) W)):=ae fun x hx W hb=>
  Np KR hK W (hG.via hb hw1) (Nat.lt_of_lt_of_le hw1 hb.size) x.t x.A x.zs.length x.c x.zs (hT x hx).1 (hC.each x hx).names rfl ((hC.each x hx).aS.grow hb) (hT x hx).2
 have H0:=ae (V2.start w 23 (cellsB key) 37 (ai t (.slice A n c)))
 obtain ⟨M,hM⟩:∃M,tY KR key (oD t)=M:=⟨_,rfl⟩
 have Ej:M.length=32:=by rw [←hM];exact mg _ _ _
 have HM:=ae hM
 have Sj:=ae Ej
 obtain ⟨b,hb⟩:∃b,(!(t.bG==M))=b:=⟨_,rfl⟩
 have HB0:=ae hb
 have HQ:Hid (∀W,(binOp .neq 23 (.agg (aj t.bG).toArray) (.agg (aj M).toArray)).run Tryz.prog W= .ok (.bool b) W):=ae fun W=>by rw [LC W _ _ h.bG Ej,hb]
 have xy:=ae (qF t h)
 have HR:=ae hr
 have HC:=ae hC
 obtain ⟨N,hN⟩:∃N,(oD t).length=N:=⟨_,rfl⟩
 have HN:=ae hN
 have Rl:Hid (∀W lo g c2,Below w.heap.size w W→W.ownsRow lo 5 1 (.slice (some ⟨g,0,none⟩) N c2) N ((oD t).map Extern.Stop.cell)→Calls Tryz.prog 10 #[.agg (aj key).toArray, .slice (some ⟨g,0,none⟩) N c2] W (Gives (.agg (aj M).toArray) W)):=ae fun W lo g c2 hb ho=>by
  have hl:=qF t h
  have h1:=Ac KR hK W (hG.via hb hw1) key (oD t) hk (by omega) (by omega) g 0 c2 (Ew ho).1 (uS ho)
  rw [hM,hN] at h1
  exact h1
 have i0:¬(64:Int)≤(m:Int):=by omega
 clear h hzz hn hA hup hK hG hk hm hC hT hr hM Ej hb hN
 go_enter Tryz.func28,Tryz.ntmps28
 go_upto_region 1 with fail
 generalize (w.alloc (.cells (cellsB key) 23)).alloc (.cells (ai t (.slice A n c)) 37)=W0 at H0 ⊢
 go_wp2_with ((with_reducible refine gU 37 ?_);go_must (refine aX rfl _ _ rfl (w.heap.size+1) rfl (ai t (.slice A n c)) H0.out.r.jB _ Tryz.underlying37 rfl (eX.out _) ?_))
 refine (BC.out W0 H0.out.lo).mono ?_
 rintro e w1 ⟨⟨g1,c1,rfl,o1⟩,b1⟩
 have h1:=H0.out.grow b1
 have hw0:=H0.out.r.lt
 have hs1:W0.heap.size≤w1.heap.size:=b1.size
 rw [HN.out] at o1 ⊢
 have hg1:=Ew o1
 have yQ:=ae (Rl.out w1.drew W0.heap.size g1 c1 h1.lo.drew o1)
 have hS1:w1.rangeAt (w.heap.size+1) 36 (aj t.bG)∧w1.rangeAt w.heap.size 0 (aj key):=⟨EI t _ (Row.iq h1.r.var) HF.out.prev,fun j v hv=>by rw [Nat.zero_add,(Row.iq h1.s.var).2 j];simpa [cellsB] using hv⟩
 have iR:Hid (w1.drew.rangeAt (w.heap.size+1) 36 (aj t.bG)∧w1.drew.rangeAt w.heap.size 0 (aj key)):=ae hS1
 have H1:=ae h1
 have U9:Hid (Tryz.prog.underlying 23=some (.array 32 5)):=ae Tryz.underlying23
 have HI1:Hid ((Tryz.prog.info? 23).map (·.size)=some (aj t.bG).length):=ae (by have:=gq t.bG HF.out.bG;rw [this];simp [cellsB])
 have HI2:Hid ((Tryz.prog.info? 23).map (·.size)=some (aj key).length):=ae (by have:=gq key ZG.out;rw [this];simp [cellsB])
 clear hS1 h1 o1 b1 H0 BC Rl
 go_wp2_with fail
 have hud:=U9.out
 have hi1:=HI1.out
 have hi2:=HI2.out
 have hq:=HQ.out
 have hl1:(aj t.bG).length=32:=by simp [aj,HF.out.bG]
 have hl2':(aj key).length=32:=by simp [aj,ZG.out]
 refine wp_region_held_drew (S:=fun w'=>w'.rangeAt (w.heap.size+1) 36 (aj t.bG)∧w'.rangeAt w.heap.size 0 (aj key)) (by kernel_rfl) iR.out (fun hH=>?_)
 refine aaf 0 (.pointer (some ⟨w.heap.size+1,36,none⟩)) 25 rfl rfl hH (fun W hW=>by go_simp) ?_
 refine ax ?_
 refine aag 1 _ 26 rfl rfl hH (yieldsIf_load_mid (by rfl) _ _ rfl (w.heap.size+1) 36 rfl (aj t.bG) _ (fun _ hW=>hW.1) hud rfl hi1) ?_
 refine ax ?_
 refine aag 2 _ 27 rfl rfl hH (yieldsIf_load_mid (by rfl) _ _ rfl w.heap.size 0 rfl (aj key) _ (fun _ hW=>hW.2) hud rfl hi2) ?_
 refine ax ?_
 refine aaf 3 (.slice (some ⟨g1,0,none⟩) N c1) 28 rfl rfl hH (fun W hW=>by go_simp) ?_
 refine ax ?_
 clear hH
 refine aV 4 (fun K hK=>?_)
 go_simp
 go_at_call 10
 refine yQ.out.mono ?_
 rintro e w3 ⟨rfl,hb3⟩
 have H3:Hid (V2 w 23 (cellsB key) 37 (ai t (.slice A n c)) w3):=ae (H1.out.grow (Below.trans ((Below.refl _ w1).drew) hb3))
 have jy:Hid (w3.rangeAt (w.heap.size+1) 36 (aj t.bG)∧w3.rangeAt w.heap.size 0 (aj key)):=ae ⟨aO iR.out.1 hb3 H1.out.r.lt,aO iR.out.2 hb3 (Nat.lt_of_succ_lt H1.out.r.lt)⟩
 clear hb3
 refine hK.out _ _ jy.out (fun hH=>?_)
 clear hK K
 refine aaf 5 (.bool b) 30 rfl rfl hH (fun W hW=>by go_simp) ?_
 refine ax ?_
 refine aaf 6 (.bool b) 24 rfl rfl hH (fun W hW=>by go_simp) ?_
 refine ax ?_
 clear hH
 refine wpAnyH_done (by kernel_rfl) ?_ _
 clear jy iR H1 yQ hud hi1 hi2 hq hl1 hl2' HQ
 have cv:w3.cell? ⟨w.heap.size+1,1,none⟩=some (I t.version):=((Row.iq H3.out.r.var).2 1).trans (jS _ _)
 cases b with
 |true=>
  have hr2:r=8:=by rw [←HR.out];unfold fH;rw [HM.out,HB0.out];rfl
  subst hr2
  go_wp2_with fail
  go_ret
  exact ⟨rfl,H3.out.lo⟩
 |false=>
  by_cases hv:t.version=(m:Int)+1
  ·have HV:=ae hv
   rw [hv] at cv
   clear hv
   by_cases h0:m=0
   ·have hr2:r=0:=by rw [←HR.out];unfold fH;rw [HM.out,HB0.out,jw.out,HV.out,h0,List.eq_nil_of_length_eq_zero (jw.out.trans h0)];rfl
    subst hr2
    go_upto_region 11 with fail
    have hz:(m:Int)=0:=by omega
    go_wp2_with fail
    go_ret
    exact ⟨rfl,H3.out.lo⟩
   ·obtain ⟨k,hk⟩:∃k,m=k+1:=⟨m - 1,by omega⟩
    have hkl:k<ts.length:=by rw [jw.out];omega
    obtain ⟨x,hx⟩:∃x,ts[k]? =some x:=⟨_,List.getElem?_eq_getElem hkl⟩
    have hxm:=List.mem_of_getElem? hx
    obtain ⟨cb,co,rfl,hcb,hTA⟩:∃b off,C=some ⟨b,off,none⟩∧b<w.heap.size∧mP w b off ts:=by
     rcases nC HC.out with h1|h1
     ·omega
     ·exact h1
    have he:Hid ((m:Int) - 1=(k:Int)):=ae (by omega)
    have i3:((m:Int)==0)=false:=by simp;omega
    have i4:(m==0)=false:=by simp;omega
    have i5:¬(m:Int)=0:=by omega
    have MJ:Hid (∀W,Below w.heap.size w W→W.rangeAt cb (co+k*68) x.cells):=ae fun W hb=>aO (hTA k x hx).1 hb hcb
    have vw:Hid ((Tryz.prog.info? 37).map (·.size)=some x.cells.length):=ae (by rw [(hTA k x hx).2];kernel_rfl)
    have HX:=ae (HLK.out x hxm)
    obtain ⟨P,hP⟩:∃P,lI KR (oD x.t++x.t.bG)=P:=⟨_,rfl⟩
    have Em:P.length=32:=by rw [←hP];exact jf _ _
    have IG:=ae Em
    obtain ⟨q,hq⟩:∃q,(!(P==t.prev))=q:=⟨_,rfl⟩
    have HRR:Hid (r=if q=true then 9 else if¬x.t.aW=t.aW then 9 else 0):=ae (by rw [←HR.out];unfold fH;rw [HM.out,HB0.out,jw.out,HV.out,show m - 1=k by omega,hx];simp [hP,←hq])
    have lH:Hid (∀W,(binOp .neq 23 (.agg (aj P).toArray) (.agg (aj t.prev).toArray)).run Tryz.prog W= .ok (.bool q) W):=ae fun W=>by rw [LC W _ _ Em HF.out.prev,hq]
    rw [hP] at HX
    have VS:Hid ((cellsB z32).size=(cellsB P).size):=ae (by rw [bD,bD,Em];rfl)
    clear hkl hx hxm hTA hP Em hq hk
    go_upto_region 13 with fail
    have he:=he.out
    have i1:(0:Int)≤(k:Int):=by omega
    have i2:(k:Int)<(m:Int):=by omega
    clear i3 i4 i5 h0
    go_wp2_with ((with_reducible refine gU 37 ?_);go_must (refine bZ rfl _ _ rfl cb (co+k*68) rfl x.cells (MJ.out _ H3.out.lo) _ Tryz.underlying37 rfl vw.out ?_))
    refine (HX.out w3 H3.out.lo).mono ?_
    rintro e w4 ⟨rfl,hb4⟩
    have h4:=H3.out.grow hb4
    have H4:=ae h4
    have HA4:=ae (heap_alloc_last w4 (.cells (cellsB z32) 23))
    clear hb4 H3 cv HX
    go_wp2_with (first
     |((with_reducible refine bP 23 ?_);go_must (refine aJ rfl _ rfl (cellsB z32) gB ?_))
     |((with_reducible refine gV 23 ?_);go_must (refine wpList_store_row rfl _ _ _ rfl w4.heap.size (cellsB P) rfl rfl 23 (cellsB z32) HA4.out (gq P IG.out) VS.out (gJ _) ?_)))
    have hb5:Below w4.heap.size w4 ((w4.alloc (.cells (cellsB z32) 23)).setRow w4.heap.size (cellsB P)):=aF (ag w4 _) (Nat.le_refl _) _
    have h5:((w4.alloc (.cells (cellsB z32) 23)).setRow w4.heap.size (cellsB P)).heap[w4.heap.size]? =some (.cells (cellsB P) 23 (0,0)):=setRow_heap _ _ _ _ _ _ HA4.out
    have uh:Hid (((w4.alloc (.cells (cellsB z32) 23)).setRow w4.heap.size (cellsB P)).drew.rangeAt w4.heap.size 0 (aj P)∧((w4.alloc (.cells (cellsB z32) 23)).setRow w4.heap.size (cellsB P)).drew.rangeAt (w.heap.size+1) 4 (aj t.prev)∧
      ((w4.alloc (.cells (cellsB z32) 23)).setRow w4.heap.size (cellsB P)).drew.cell? ⟨cb,co+k*68,none⟩=some (I x.t.aW)∧((w4.alloc (.cells (cellsB z32) 23)).setRow w4.heap.size (cellsB P)).drew.cell? ⟨w.heap.size+1,0,none⟩=some (I t.aW)):=ae (by
     have h6:=H4.out.grow hb5
     have h7:=MJ.out _ h6.lo 0 (I x.t.aW) rfl
     exact ⟨fun j v hv=>by rw [Nat.zero_add];exact ((Row.iq h5).2 j).trans (by simpa [cellsB] using hv),qG t _ (Row.iq h6.r.var),h7,((Row.iq h6.r.var).2 0).trans (jR _ _)⟩)
    have qW:=ae (H4.out.grow hb5).lo
    clear hb5 h5 h4
    have hud:=U9.out
    have hq:=lH.out
    have hi3:(Tryz.prog.info? 23).map (·.size)=some (aj P).length:=by have:=gq P IG.out;rw [this];simp [cellsB]
    have hi4:(Tryz.prog.info? 23).map (·.size)=some (aj t.prev).length:=by have:=gq t.prev HF.out.prev;rw [this];simp [cellsB]
    have hwk:IntKind.i64.wrap (k:Int)=(k:Int):=by rw [IntKind.wrap_i64];omega
    have hl1:(aj P).length=32:=by simp [aj,IG.out]
    have hl2:(aj t.prev).length=32:=by simp [aj,HF.out.prev]
    generalize (w4.alloc (.cells (cellsB z32) 23)).setRow w4.heap.size (cellsB P)=w5 at uh qW ⊢
    refine wp_region_held_drew (S:=fun w'=>w'.rangeAt w4.heap.size 0 (aj P)∧w'.rangeAt (w.heap.size+1) 4 (aj t.prev)∧w'.cell? ⟨cb,co+k*68,none⟩=some (I x.t.aW)∧w'.cell? ⟨w.heap.size+1,0,none⟩=some (I t.aW)) (by kernel_rfl) uh.out (fun hH=>?_)
    cases q with
    |true=>
     have hr2:r=9:=HRR.out
     subst hr2
     clear HRR
     refine aaf 0 ( .bool true) 49 rfl rfl hH (fun W hW=>by obtain ⟨_,_,hW3,lW⟩:=hW;go_simp) ?_
     refine ax ?_
     refine aaf 1 ( .bool false) 50 rfl rfl hH (fun W hW=>by obtain ⟨_,_,hW3,lW⟩:=hW;go_simp) ?_
     refine ax ?_
     refine aaf 2 ( .bool false) 51 rfl rfl hH (fun W hW=>by obtain ⟨_,_,hW3,lW⟩:=hW;go_simp) ?_
     refine ax ?_
     refine aag 3 _ 52 rfl rfl hH (yieldsIf_load_mid (by rfl) _ _ rfl w4.heap.size 0 rfl (aj P) _ (fun _ hW=>hW.1) hud rfl hi3) ?_
     refine ax ?_
     refine aaf 4 ( .pointer (some ⟨w.heap.size+1,4,none⟩)) 53 rfl rfl hH (fun W hW=>by obtain ⟨_,_,hW3,lW⟩:=hW;go_simp) ?_
     refine ax ?_
     refine aag 5 _ 54 rfl rfl hH (yieldsIf_load_mid (by rfl) _ _ rfl (w.heap.size+1) 4 rfl (aj t.prev) _ (fun _ hW=>hW.2.1) hud rfl hi4) ?_
     refine ax ?_
     refine aaf 6 ( .bool true) 55 rfl rfl hH (fun W hW=>by obtain ⟨_,_,hW3,lW⟩:=hW;go_simp) ?_
     refine ax ?_
     refine aaf 7 ( .bool true) 56 rfl rfl hH (fun W hW=>by obtain ⟨_,_,hW3,lW⟩:=hW;go_simp) ?_
     refine ax ?_
     refine aaf 8 ( .bool true) 57 rfl rfl hH (fun W hW=>by obtain ⟨_,_,hW3,lW⟩:=hW;go_simp) ?_
     refine ax ?_
     refine aag 9 undef 58 rfl rfl hH (Or.inr ⟨by rfl,rfl⟩) ?_
     refine ax ?_
     refine aag 10 undef 59 rfl rfl hH (Or.inr ⟨by rfl,rfl⟩) ?_
     refine ax ?_
     refine aag 11 undef 60 rfl rfl hH (Or.inr ⟨by rfl,rfl⟩) ?_
     refine ax ?_
     refine aag 12 undef 61 rfl rfl hH (Or.inr ⟨by rfl,rfl⟩) ?_
     refine ax ?_
     refine aag 13 undef 62 rfl rfl hH (Or.inr ⟨by rfl,rfl⟩) ?_
     refine ax ?_
     refine aag 14 undef 63 rfl rfl hH (Or.inr ⟨by rfl,rfl⟩) ?_
     refine ax ?_
     refine aag 15 undef 64 rfl rfl hH (Or.inr ⟨by rfl,rfl⟩) ?_
     refine ax ?_
     refine aag 16 undef 65 rfl rfl hH (Or.inr ⟨by rfl,rfl⟩) ?_
     refine ax ?_
     refine aag 17 undef 66 rfl rfl hH (Or.inr ⟨by rfl,rfl⟩) ?_
     refine ax ?_
     refine aaf 18 ( .bool true) 67 rfl rfl hH (fun W hW=>by obtain ⟨_,_,hW3,lW⟩:=hW;go_simp) ?_
     refine ax ?_
     clear hH
     refine wpAnyH_done (by kernel_rfl) ?_ _
     clear hud hi3 hi4 hq hl1 hl2
     go_wp2_with fail
     go_ret
     exact ⟨rfl,qW.out.drew⟩
    |false=>
     by_cases hs:x.t.aW=t.aW
     ·have hr2:r=0:=HRR.out.trans (by simp [hs])
      subst hr2
      clear HRR
      refine aaf 0 ( .bool true) 49 rfl rfl hH (fun W hW=>by obtain ⟨_,_,hW3,lW⟩:=hW;go_simp) ?_
      refine ax ?_
      refine aaf 1 ( .bool false) 50 rfl rfl hH (fun W hW=>by obtain ⟨_,_,hW3,lW⟩:=hW;go_simp) ?_
      refine ax ?_
      refine aaf 2 ( .bool false) 51 rfl rfl hH (fun W hW=>by obtain ⟨_,_,hW3,lW⟩:=hW;go_simp) ?_
      refine ax ?_
      refine aag 3 _ 52 rfl rfl hH (yieldsIf_load_mid (by rfl) _ _ rfl w4.heap.size 0 rfl (aj P) _ (fun _ hW=>hW.1) hud rfl hi3) ?_
      refine ax ?_
      refine aaf 4 ( .pointer (some ⟨w.heap.size+1,4,none⟩)) 53 rfl rfl hH (fun W hW=>by obtain ⟨_,_,hW3,lW⟩:=hW;go_simp) ?_
      refine ax ?_
      refine aag 5 _ 54 rfl rfl hH (yieldsIf_load_mid (by rfl) _ _ rfl (w.heap.size+1) 4 rfl (aj t.prev) _ (fun _ hW=>hW.2.1) hud rfl hi4) ?_
      refine ax ?_
      refine aaf 6 ( .bool false) 55 rfl rfl hH (fun W hW=>by obtain ⟨_,_,hW3,lW⟩:=hW;go_simp) ?_
      refine ax ?_
      refine aaf 7 ( .bool false) 56 rfl rfl hH (fun W hW=>by obtain ⟨_,_,hW3,lW⟩:=hW;go_simp) ?_
      refine ax ?_
      refine aaf 8 ( .bool false) 57 rfl rfl hH (fun W hW=>by obtain ⟨_,_,hW3,lW⟩:=hW;go_simp) ?_
      refine ax ?_
      refine aaf 9 ( .slice (some ⟨cb,co,none⟩) m cc) 58 rfl rfl hH (fun W hW=>by obtain ⟨_,_,hW3,lW⟩:=hW;go_simp) ?_
      refine ax ?_
      refine aaf 10 (I m) 59 rfl rfl hH (fun W hW=>by obtain ⟨_,_,hW3,lW⟩:=hW;go_simp) ?_
      refine ax ?_
      refine aaf 11 (I k) 60 rfl rfl hH (fun W hW=>by obtain ⟨_,_,hW3,lW⟩:=hW;go_simp) ?_
      refine ax ?_
      refine aaf 12 ( .pointer (some ⟨cb,co+k*68,none⟩)) 61 rfl rfl hH (fun W hW=>by obtain ⟨_,_,hW3,lW⟩:=hW;go_simp) ?_
      refine ax ?_
      refine aaf 13 ( .pointer (some ⟨cb,co+k*68,none⟩)) 62 rfl rfl hH (fun W hW=>by obtain ⟨_,_,hW3,lW⟩:=hW;go_simp) ?_
      refine ax ?_
      refine aaf 14 (I x.t.aW) 63 rfl rfl hH (fun W hW=>by obtain ⟨_,_,hW3,lW⟩:=hW;go_simp) ?_
      refine ax ?_
      refine aaf 15 ( .pointer (some ⟨w.heap.size+1,0,none⟩)) 64 rfl rfl hH (fun W hW=>by obtain ⟨_,_,hW3,lW⟩:=hW;go_simp) ?_
      refine ax ?_
      refine aaf 16 (I t.aW) 65 rfl rfl hH (fun W hW=>by obtain ⟨_,_,hW3,lW⟩:=hW;go_simp) ?_
      refine ax ?_
      refine aaf 17 ( .bool false) 66 rfl rfl hH (fun W hW=>by obtain ⟨_,_,hW3,lW⟩:=hW;go_simp) ?_
      refine ax ?_
      refine aaf 18 ( .bool false) 67 rfl rfl hH (fun W hW=>by obtain ⟨_,_,hW3,lW⟩:=hW;go_simp) ?_
      refine ax ?_
      clear hH
      refine wpAnyH_done (by kernel_rfl) ?_ _
      clear hud hi3 hi4 hq hl1 hl2
      go_wp2_with fail
      go_ret
      exact ⟨rfl,qW.out.drew⟩
     ·have hr2:r=9:=HRR.out.trans (by simp [hs])
      subst hr2
      clear HRR
      refine aaf 0 ( .bool true) 49 rfl rfl hH (fun W hW=>by obtain ⟨_,_,hW3,lW⟩:=hW;go_simp) ?_
      refine ax ?_
      refine aaf 1 ( .bool false) 50 rfl rfl hH (fun W hW=>by obtain ⟨_,_,hW3,lW⟩:=hW;go_simp) ?_
      refine ax ?_
      refine aaf 2 ( .bool false) 51 rfl rfl hH (fun W hW=>by obtain ⟨_,_,hW3,lW⟩:=hW;go_simp) ?_
      refine ax ?_
      refine aag 3 _ 52 rfl rfl hH (yieldsIf_load_mid (by rfl) _ _ rfl w4.heap.size 0 rfl (aj P) _ (fun _ hW=>hW.1) hud rfl hi3) ?_
      refine ax ?_
      refine aaf 4 ( .pointer (some ⟨w.heap.size+1,4,none⟩)) 53 rfl rfl hH (fun W hW=>by obtain ⟨_,_,hW3,lW⟩:=hW;go_simp) ?_
      refine ax ?_
      refine aag 5 _ 54 rfl rfl hH (yieldsIf_load_mid (by rfl) _ _ rfl (w.heap.size+1) 4 rfl (aj t.prev) _ (fun _ hW=>hW.2.1) hud rfl hi4) ?_
      refine ax ?_
      refine aaf 6 ( .bool false) 55 rfl rfl hH (fun W hW=>by obtain ⟨_,_,hW3,lW⟩:=hW;go_simp) ?_
      refine ax ?_
      refine aaf 7 ( .bool false) 56 rfl rfl hH (fun W hW=>by obtain ⟨_,_,hW3,lW⟩:=hW;go_simp) ?_
      refine ax ?_
      refine aaf 8 ( .bool false) 57 rfl rfl hH (fun W hW=>by obtain ⟨_,_,hW3,lW⟩:=hW;go_simp) ?_
      refine ax ?_
      refine aaf 9 ( .slice (some ⟨cb,co,none⟩) m cc) 58 rfl rfl hH (fun W hW=>by obtain ⟨_,_,hW3,lW⟩:=hW;go_simp) ?_
      refine ax ?_
      refine aaf 10 (I m) 59 rfl rfl hH (fun W hW=>by obtain ⟨_,_,hW3,lW⟩:=hW;go_simp) ?_
      refine ax ?_
      refine aaf 11 (I k) 60 rfl rfl hH (fun W hW=>by obtain ⟨_,_,hW3,lW⟩:=hW;go_simp) ?_
      refine ax ?_
      refine aaf 12 ( .pointer (some ⟨cb,co+k*68,none⟩)) 61 rfl rfl hH (fun W hW=>by obtain ⟨_,_,hW3,lW⟩:=hW;go_simp) ?_
      refine ax ?_
      refine aaf 13 ( .pointer (some ⟨cb,co+k*68,none⟩)) 62 rfl rfl hH (fun W hW=>by obtain ⟨_,_,hW3,lW⟩:=hW;go_simp) ?_
      refine ax ?_
      refine aaf 14 (I x.t.aW) 63 rfl rfl hH (fun W hW=>by obtain ⟨_,_,hW3,lW⟩:=hW;go_simp) ?_
      refine ax ?_
      refine aaf 15 ( .pointer (some ⟨w.heap.size+1,0,none⟩)) 64 rfl rfl hH (fun W hW=>by obtain ⟨_,_,hW3,lW⟩:=hW;go_simp) ?_
      refine ax ?_
      refine aaf 16 (I t.aW) 65 rfl rfl hH (fun W hW=>by obtain ⟨_,_,hW3,lW⟩:=hW;go_simp) ?_
      refine ax ?_
      refine aaf 17 ( .bool true) 66 rfl rfl hH (fun W hW=>by obtain ⟨_,_,hW3,lW⟩:=hW;go_simp) ?_
      refine ax ?_
      refine aaf 18 ( .bool true) 67 rfl rfl hH (fun W hW=>by obtain ⟨_,_,hW3,lW⟩:=hW;go_simp) ?_
      refine ax ?_
      clear hH
      refine wpAnyH_done (by kernel_rfl) ?_ _
      clear hud hi3 hi4 hq hl1 hl2
      go_wp2_with fail
      go_ret
      exact ⟨rfl,qW.out.drew⟩
  ·have hr2:r=9:=by rw [←HR.out];unfold fH;rw [HM.out,HB0.out,jw.out,if_neg (by decide),if_pos hv]
   subst hr2
   obtain ⟨V,hV⟩:∃V,t.version=V:=⟨_,rfl⟩
   rw [hV] at cv hv
   have e1:(V !=(m:Int)+1)=true:=by simp;exact hv
   clear hV
   go_wp2_with fail
   go_ret
   exact ⟨rfl,H3.out.lo⟩
end Go.Proofs.YtdibbemgpikgjaaGreatDoor
namespace Go.Proofs.YtdibbemgpikgjaaGreatDoor
open Go Go.RowKit
theorem zY:(Tryz.prog.info? 37).map (fun i=>(i.zero,i.size,i.bytes))=some (some (.agg (ai bJ (.slice none 0 0))),68,112):=by kernel_rfl
section
variable {ops:Array Oper} {rest:List Oper} {o:Oper} {a:Act} {Q:Exit→Act→World→Prop} {w:World}
theorem qh (hgd:o.guard=none) (x:Operand) (ho:o.op= .buildSlice 28 1 #[(0,x)]) (cs:Array Value) (hcs:cs.size=68)
  (hx:a.eval x= .agg cs) (h:wpList Tryz.prog ops Q rest (a.put o.dst (.slice (some ⟨w.heap.size,0,none⟩) 1 1)) (w.alloc (.cells cs 37))):wpList Tryz.prog ops Q (o::rest) a w:=by
 obtain ⟨i0,hi,hz0,hz1,hz2⟩:=info_parts zY
 refine wpList_buildSlice hgd 28 37 1 _ ho cs i0 (.agg (ai bJ (.slice none 0 0))) Tryz.underlying28 hi hz0 (by rw [hz1];decide) (by rw [hz1];decide) ?_ h
 rw [hz1]
 simp only [List.map_toArray,List.map_cons,List.map_nil,hx]
 have h:=Go.Great.fill_whole (s:=68) (by omega) [.agg cs] ((Array.range (1*68)).map ((Value.agg (ai bJ (.slice none 0 0))).cells[· %(Value.agg (ai bJ (.slice none 0 0))).cells.size]!)) (fun v hv=>by simp at hv;subst hv;exact hcs) (by simp)
 have e:([Value.agg cs].flatMap fun v=>v.cells.toList).toArray=cs:=by simp [Value.cells]
 rw [e] at h
 exact h
theorem C9 {P:Program} (ty:TypeId) {n:Nat} {x:Array (Nat×Operand)} {d:Option Tmp} {t:TypeId} {pos:String} {af:Array Edge} {g:Option (Nat×Bool)} (h:wpList P ops Q (⟨d, .buildSlice ty n x,t,pos,af,g⟩::rest) a w):wpList P ops Q (⟨d, .buildSlice ty n x,t,pos,af,g⟩::rest) a w:=h
end
end Go.Proofs.YtdibbemgpikgjaaGreatDoor
namespace Go.Proofs.YtdibbemgpikgjaaGreatDoor
open Go Go.RowKit
def LV (lo:Nat) (v:Value) (W:World) (A:Option Addr) (cs:List Value):Prop:=
 cs.length=0∨∃b off,A=some ⟨b,off,none⟩∧lo≤b∧b<W.heap.size∧some b≠v.ownBlock∧∀j u,cs[j]? =some u→W.cell? ⟨b,off+j,none⟩=some u
theorem LV.keep {lo:Nat} {v v':Value} {W W':World} {A:Option Addr} {cs:List Value} (h:LV lo v W A cs) (hs:W.heap.size≤W'.heap.size) (hb:∀b,lo≤b→b<W.heap.size→some b≠v.ownBlock→W'.heap[b]? =W.heap[b]? ∧some b≠v'.ownBlock):LV lo v' W' A cs:=by
 rcases h with h|⟨b,off,h1,h2,h3,h4,h5⟩
 ·exact .inl h
 ·exact .inr ⟨b,off,h1,h2,by omega,(hb b h2 h3 h4).2,fun j u hu=>(World.cell?_of_block (a:=⟨b,off+j,none⟩) (hb b h2 h3 h4).1).trans (h5 j u hu)⟩
theorem LV.at {lo:Nat} {v:Value} {W:World} {A:Option Addr} {cs:List Value} (h:LV lo v W A cs):az W W.heap.size A cs:=by
 rcases h with h|⟨b,off,h1,h2,h3,h4,h5⟩
 ·exact .inl h
 ·exact .inr ⟨b,off,h1,h3,h5⟩
def fG (lo:Nat) (v:Value) (W:World) (s:Zs) (z:Zn):Prop:=LV lo v W s.A (z.cal.au.map I)∧LV lo v W s.B (z.cal.rules.flatMap Lr.cells)∧LV lo v W s.C (z.trans.flatMap Tr.cells)∧LV lo v W s.D (z.aB.flatMap Yr.cells)
theorem fG.keep {lo:Nat} {v v':Value} {W W':World} {s:Zs} {z:Zn} (h:fG lo v W s z) (hs:W.heap.size≤W'.heap.size) (hb:∀b,lo≤b→b<W.heap.size→some b≠v.ownBlock→W'.heap[b]? =W.heap[b]? ∧some b≠v'.ownBlock):fG lo v' W' s z:=
 ⟨h.1.keep hs hb,h.2.1.keep hs hb,h.2.2.1.keep hs hb,h.2.2.2.keep hs hb⟩
theorem fG.at {lo:Nat} {v:Value} {W:World} {s:Zs} {z:Zn} (h:fG lo v W s z):jb W W.heap.size s z:=⟨h.1.at,h.2.1.at,h.2.2.1.at,h.2.2.2.at⟩
def eH (lo:Nat) (v:Value) (W:World) (y:di):Prop:=LV lo v W y.A (aQ y.zs)∧∀z∈y.zs,fG lo v W z.s z.e.z
theorem eH.keep {lo:Nat} {v v':Value} {W W':World} {y:di} (h:eH lo v W y) (hs:W.heap.size≤W'.heap.size) (hb:∀b,lo≤b→b<W.heap.size→some b≠v.ownBlock→W'.heap[b]? =W.heap[b]? ∧some b≠v'.ownBlock):eH lo v' W' y:=
 ⟨h.1.keep hs hb,fun z hz=>(h.2 z hz).keep hs hb⟩
end Go.Proofs.YtdibbemgpikgjaaGreatDoor
namespace Go.Proofs.YtdibbemgpikgjaaGreatDoor
open Go Go.RowKit
theorem LJ (y:di):∀u∈y.cells,u.oneCell'=true:=by
 have h:=bf y.t y.A y.zs.length y.c
 rw [Array.all_eq_true_iff_forall_mem] at h
 intro u hu
 exact h u (by simpa [ai,di.cells] using hu)
end Go.Proofs.YtdibbemgpikgjaaGreatDoor
