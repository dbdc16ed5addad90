/- The texts Fh, in this order. -/
import Derived.Test.YtdibbemgpikgjaaGreatDoorY00
import Derived.Test.YtdibbemgpikgjaaGreatDoorY40
import Derived.Test.YtdibbemgpikgjaaGreatDoorY42
import Derived.Test.YtdibbemgpikgjaaGreatDoorY43
set_option maxRecDepth 10000
set_option maxHeartbeats 8000000
namespace Go.Proofs.YtdibbemgpikgjaaGreatDoor
open Go Go.RowKit
theorem SB (w:World) (r r':List UInt8) (h:r.length=32) (h':r'.length=32):(binOp .eql 23 (.agg (aj r).toArray) (.agg (aj r').toArray)).run Tryz.prog w= .ok (.bool (r==r')) w:=
 run_eql_bytes (P:=Tryz.prog) w 23 5 32 Tryz.underlying23 Tryz.underlying5 (fun w=>Aq w) r r' h h'
def yc (W:World) (v:Value) (bs:List UInt8):Prop:=∃g c,v= .slice (some ⟨g,0,none⟩) bs.length c∧g<W.heap.size∧∀j,j<bs.length→W.cell? ⟨g,0+j,none⟩=some (Extern.Stop.cell (bs[j]?.getD 0))
theorem yc.keep {W W':World} {v:Value} {bs:List UInt8} (h:yc W v bs) (hb:Below W.heap.size W W'):yc W' v bs:=by
 obtain ⟨g,c,rfl,hg,hc⟩:=h;exact ⟨g,c,rfl,dP hg hb.size,fun j hj=>(hb.cell (p:=⟨g,0+j,none⟩) hg).trans (hc j hj)⟩
def LkQ (w:World) (bs:List UInt8) (e:Ending) (w':World):Prop:=∃v,e= .returned v∧yc w' v bs∧Below w.heap.size w w'
theorem Ot {x:bI} {w:World} (h:jr x) (hx:jE w w.heap.size x):Calls Tryz.prog 13 #[.agg x.cells.toArray] w (LkQ w (jb x.t)):=by
 refine (LW x.t x.A x.zs.length x.c x.zs w h.1 hx.names rfl hx.aK h.2).mono ?_;rintro e w' ⟨⟨g,c,rfl,ho⟩,hb⟩;exact ⟨_,rfl,⟨g,c,rfl,(Gs ho).1,wB ho⟩,hb⟩
theorem TK {x:bI} (h:jr x):0<(jb x.t).length∧(jb x.t).length≤1000000:=by
 have h1:=uK x.t h.1;unfold jb;rw [aZ,h.1.bn];omega
theorem Gy (KR:List Int) (hK:KR.length=64) {W:World} (hG:fD W 0 (au KR)) {x:bI} (h:jr x) {v:Value} (hv:yc W v (jb x.t)) {d:List UInt8} (hd:fH KR (jb x.t)=d):Calls Tryz.prog 12 #[v] W (Gives (.agg (aj d).toArray) W):=by
 obtain ⟨g,c,rfl,hg,hc⟩:=hv;have hl:=TK h;have h1:=Jo KR hK W hG (jb x.t) hl.1 (by omega) g 0 c hg hc;rw [hd] at h1;exact h1
theorem Xh {W:World} {x y:bI} (h:jr x) {v u:Value} (hv:yc W v (jb x.t)) (hu:yc W u (jb y.t)):Calls Tryz.prog 14 #[v,u] W (SbP W (jb x.t) (jb y.t)):=by
 obtain ⟨g,c,rfl,hg,hc⟩:=hv;obtain ⟨g2,c2,rfl,hg2,hc2⟩:=hu;have e:∀(bs:List UInt8) (g:Nat),g<W.heap.size→(∀j,j<bs.length→W.cell? ⟨g,0+j,none⟩=some (Extern.Stop.cell (bs[j]?.getD 0)))→aA W W.heap.size (some ⟨g,0,none⟩) (bs.map Extern.Stop.cell):=fun bs g hg hc=> .inr ⟨g,0,rfl,hg,fun j u hu=>by
  rw [List.getElem?_map] at hu;have hj:j<bs.length:=by
   rcases Nat.lt_or_ge j bs.length with h|h
   ·exact h
   ·rw [List.getElem?_eq_none h] at hu;cases hu
  rw [hc j hj];rw [bZ hj] at hu ⊢;exact hu⟩
 exact D9 _ _ _ _ c c2 _ _ W rfl rfl (TK h).2 (e _ _ hg hc) (e _ _ hg2 hc2)
theorem Jp {KR:List Int} {key:List UInt8} {ts os:List bI} {n:Nat} (ha:jT KR key ts) (hb:jT KR key os) (ht:ts.length=n) (hg:∀x∈ts,jr x) (hg2:∀x∈os,jr x) (hn:∀x∈ts,x.t.aK=x.zs.map (·.e)) (hbt:wW ts os)
  (hlast:∀x y:bI,ts[n - 1]? =some x→os[n - 1]? =some y→fH KR (jb x.t)=fH KR (jb y.t))
  (Wn:∀(i:Nat) (x y:bI),ts[i]? =some x→os[i]? =some y→fH KR (jb x.t)=fH KR (jb y.t)→jb x.t=jb y.t):os=ts:=
 hbt.same hg hn (tamper ha hb ht (hbt.len.trans ht) (fun x hx=>(hg x hx).1.prev) (fun x hx=>(hg2 x hx).1.prev) hlast Wn)
structure PrA (W0:World) (cb co db BN k:Nat) (x y:bI):Prop where
 gx:jr x
 gy:jr y
 row:∀W,Below W0.heap.size W0 W→W.rangeAt cb (co+k*68) x.cells∧W.rangeAt db (BN+k*68) y.cells
 sx:(Tryz.prog.info? 37).map (·.size)=some x.cells.length
 sy:(Tryz.prog.info? 37).map (·.size)=some y.cells.length
 lx:∀W,Below W0.heap.size W0 W→Calls Tryz.prog 13 #[.agg x.cells.toArray] W (LkQ W (jb x.t))
 ly:∀W,Below W0.heap.size W0 W→Calls Tryz.prog 13 #[.agg y.cells.toArray] W (LkQ W (jb y.t))
theorem pairs {W:World} {A A':Option Addr} {ts os:List bI} {n:Nat} (hC:gq W W.heap.size A ts) (hC2:gq W W.heap.size A' os) (ht:ts.length=n) (ho:os.length=n) (hn:¬n=0) (hg:∀x∈ts,jr x) (hg2:∀x∈os,jr x):
  ∃cb co db BN,A=some ⟨cb,co,none⟩∧A'=some ⟨db,BN,none⟩∧∀k,k<n→∃x y,ts[k]? =some x∧os[k]? =some y∧PrA W cb co db BN k x y:=by
 obtain ⟨cb,co,e1,hcb,hTA⟩:∃b off,A=some ⟨b,off,none⟩∧b<W.heap.size∧mf W b off ts:=by
  rcases oz hC with h1|h1
  ·omega
  ·exact h1
 obtain ⟨db,BN,e2,hdb,hTB⟩:∃b off,A'=some ⟨b,off,none⟩∧b<W.heap.size∧mf W b off os:=by
  rcases oz hC2 with h1|h1
  ·omega
  ·exact h1
 refine ⟨cb,co,db,BN,e1,e2,fun k hk=>?_⟩;obtain ⟨x,hx⟩:∃x,ts[k]? =some x:=⟨_,bZ (by omega)⟩;obtain ⟨y,hy⟩:∃y,os[k]? =some y:=⟨_,bZ (by omega)⟩;have hxm:=dS hx;have hym:=dS hy;exact ⟨x,y,hx,hy,hg x hxm,hg2 y hym,fun W' hb=>⟨aQ (hTA k x hx).1 hb hcb,aQ (hTB k y hy).1 hb hdb⟩,by rw [(hTA k x hx).2];kernel_rfl,by rw [(hTB k y hy).2];kernel_rfl,fun W' hb=>Ot (hg x hxm) ((hC.each x hxm).grow hb),fun W' hb=>Ot (hg2 y hym) ((hC2.each y hym).grow hb)⟩
theorem Ec (w:World) (hG:fD w 0 (au um)) (hw1:0<w.heap.size) (r:l9) (hr:vw w w.heap.size r) (wh y0 y1:Nat) (hwh:wh<256) (hy0:y0<256) (hy1:y1<256):
  Calls Tryz.prog 4 #[.agg r.cells.toArray, .int .u8 (wh:Int), .agg #[.int .u8 (y0:Int), .int .u8 (y1:Int)]] w (Gives (.bool true) w):=by
 have oJ:=ae hr.key;have H0:=ae (V2.start w 26 r.cells.toArray 40 #[.int .u8 (y0:Int), .int .u8 (y1:Int)]);have HUD:Hid (Tryz.prog.underlying 23=some (.array 32 5)):=ae Tryz.underlying23;have HRI:Hid ((Tryz.prog.info? 26).map (·.size)=some r.cells.toArray.size):=ae (by rw [show r.cells.toArray.size=34 by simpa using l9.len r hr.key];kernel_rfl);have HYI:Hid ((Tryz.prog.info? 40).map (·.size)=some (#[.int .u8 (y0:Int), .int .u8 (y1:Int)]:Array Value).size):=ae (by kernel_rfl);have Q5:Hid ((Tryz.prog.info? 23).map (·.size)=some (aj r.key).length):=ae (by have:=lG r.key hr.key;rw [this];simp [cellsB]);have HVI:Hid (∀W,Below w.heap.size w W→fD W 0 (au um)∧0<W.heap.size):=ae fun W hb=>⟨hG.via hb hw1,dP hw1 hb.size⟩;have HK:Hid (um.length=64):=ae (by rfl);obtain ⟨KR,hKR⟩:∃l,um=l:=⟨_,rfl⟩;have Zg:Hid (∀W,Below w.heap.size w W→Calls Tryz.prog 7 #[.agg r.cells.toArray] W (Rz W r)):=ae fun W h=>TN r W ((hr.keep h).more h.size);unfold Rz at Zg;have ZE:=ae (And.intro hwh (And.intro hy0 hy1));clear hr hG hw1 hwh hy0 hy1;go_enter Tryz.func4,Tryz.ntmps4;go_upto_region 1 with fail;generalize (w.alloc (.cells r.cells.toArray 26)).alloc (.cells #[.int .u8 (y0:Int), .int .u8 (y1:Int)] 40)=W0 at H0 ⊢;go_wp2_with fail;refine (ML W0).mono ?_;rintro e w1 ⟨rfl,b1⟩;have H1:=ae (H0.out.grow b1);clear b1 H0;go_wp2_with ((with_reducible refine fU 26 ?_);go_must (refine aT rfl _ _ rfl w.heap.size rfl r.cells.toArray H1.out.s.iY _ Tryz.underlying26 rfl HRI.out ?_));refine (Zg.out w1 H1.out.lo).mono ?_;rintro e w2 ⟨A,n,c,ts,rfl,htl,YB,hnc,hca,hcx,⟨_,hform⟩,hb2⟩;have H2:=ae (H1.out.grow hb2);have wP:=ae htl;have HCA:=ae hca;have Ej:=ae hcx;rw [hKR] at HK HVI;have HADM:Hid (jT KR r.key ts):=ae (by rw [←hKR];exact hcx.adm);have HGO:=ae hcx.good;have Y5:=ae hform;clear hca hcx hb2 H1 Zg hKR hform;go_wp2_with ((with_reducible refine fU 40 ?_);go_must (refine aT rfl _ _ rfl (w.heap.size+1) rfl #[.int .u8 (y0:Int), .int .u8 (y1:Int)] H2.out.r.iY _ Tryz.underlying40 rfl HYI.out ?_));refine (RV w2 A n c ts htl YB Y5.out HCA.out Ej.out.shape wh y0 y1 ZE.out.1 ZE.out.2.1 ZE.out.2.2).mono ?_;rintro e w3 ⟨A',n',c',os,rfl,hb3,hcase⟩;have HB3:=ae hb3;have H3:=ae (H2.out.grow hb3);have QH:=ae hcase;clear htl hb3 H2 hcase;by_cases hn0:n=0
 ·have t0:((n:Int)==0)=true:=by simp [hn0]
  have t1:(n==0)=true:=by simp [hn0]
  clear QH;go_wp2_with fail;go_ret;exact ⟨rfl,H3.out.lo⟩
 have t0:((n:Int)==0)=false:=by simp;omega
 have t1:(n==0)=false:=by simp;omega
 by_cases hnn:n'=n
 ·subst hnn;obtain ⟨hnc',hco,hbt⟩:n'≤c'∧gq w3 w3.heap.size A' os∧wW ts os:=by
   rcases QH.out with h|⟨_,h⟩
   ·exact absurd rfl h
   ·exact h
  have HBT:=ae hbt;have HCO:=ae hco;have NQ:Hid (os.length=n'):=ae (hbt.len.trans wP.out);have u0:((n':Int) !=(n':Int))=false:=by rw [oq];exact decide_eq_false (by omega)
  have HCK:Hid (∀W,Below w3.heap.size w3 W→Calls Tryz.prog 8 #[.slice A' n' c', .agg (aj r.key).toArray] W (fun e w'=>∃r',e= .returned (I r')∧(r'=0→(∀x∈os,jr x)∧jT KR r.key os)∧Below W.heap.size W w')):=ae fun W hb=>by
   have hvv:=HVI.out W (H3.out.grow hb).lo;exact KY KR HK.out W hvv.1 hvv.2 r.key oJ.out A' n' c' ts os NQ.out YB hnc' (HCO.out.grow hb) HGO.out HADM.out HBT.out
  have Rl:Hid (w3.rangeAt w.heap.size 1 (aj r.key)):=ae (OE H3.out.s.iY);clear hco hbt QH;go_wp2_with ((with_reducible refine fU 23 ?_);go_must (refine bP rfl _ _ rfl w.heap.size 1 rfl (aj r.key) Rl.out _ Tryz.underlying23 rfl Q5.out ?_));refine (HCK.out w3 (Below.refl _ _)).mono ?_;rintro e w4 ⟨u,rfl,hu,hb4⟩;have H4:=ae (H3.out.grow hb4);have HB4:=ae hb4;by_cases hu0:u=0
  ·obtain ⟨hgo,had⟩:=hu hu0;subst hu0;have HGX:=ae hgo;have HADX:=ae had;have Y8:Hid (∀W,Below w4.heap.size w4 W→Below w.heap.size w W):=ae fun W hb=>ah H4.out.lo hb;have YY:=ae (HCA.out.grow (ah HB3.out HB4.out));have HCO4:=ae (HCO.out.grow HB4.out);clear hu hb4 hgo had Rl HCK HCO HCA H3 HB3 HB4 u0;obtain ⟨cb,co,db,BN,rfl,rfl,hall⟩:=pairs YY.out HCO4.out wP.out NQ.out hn0 HGO.out HGX.out;have jX:=ae hall;obtain ⟨p,hp⟩:∃p,n' - 1=p:=⟨_,rfl⟩;have hpl:p<n':=by omega
   have hpn:(n':Int) - 1=(p:Int):=by omega
   have hwp:IntKind.i64.wrap (p:Int)=(p:Int):=by rw [IntKind.wrap_i64];omega
   have j0:(0:Int)≤(p:Int):=by omega
   have j1:(p:Int)<(n':Int):=by omega
   obtain ⟨x,y,hx,hy,hpr⟩:=hall p hpl;have HLA:Hid (∀x' y':bI,ts[n' - 1]? =some x'→os[n' - 1]? =some y'→x'=x∧y'=y):=ae fun x' y' h1 h2=>by
    rw [hp] at h1 h2;exact ⟨Option.some.inj (h1.symm.trans hx),Option.some.inj (h2.symm.trans hy)⟩
   have Bc:=ae hpr;obtain ⟨D1,hd1⟩:∃d,fH KR (jb x.t)=d:=⟨_,rfl⟩;obtain ⟨D2,hd2⟩:∃d,fH KR (jb y.t)=d:=⟨_,rfl⟩;have HD1:=ae hd1;have HD2:=ae hd2;have Rh:Hid (D1.length=32):=ae (by rw [←hd1];exact dV _ _);have QJ:Hid (D2.length=32):=ae (by rw [←hd2];exact dV _ _);have iq:Hid (∀W,Below w4.heap.size w4 W→∀v,yc W v (jb x.t)→Calls Tryz.prog 12 #[v] W (Gives (.agg (aj D1).toArray) W)):=ae fun W hb v hv=>Gy KR HK.out (HVI.out W (Y8.out W hb)).1 Bc.out.gx hv hd1;have HS2:Hid (∀W,Below w4.heap.size w4 W→∀v,yc W v (jb y.t)→Calls Tryz.prog 12 #[v] W (Gives (.agg (aj D2).toArray) W)):=ae fun W hb v hv=>Gy KR HK.out (HVI.out W (Y8.out W hb)).1 Bc.out.gy hv hd2;obtain ⟨q,hq⟩:∃q,(!(D1==D2))=q:=⟨_,rfl⟩;have HQ:=ae hq;clear hall hx hy hpr hd1 hd2 hq hp hpl;go_upto_region 7 with fail
   go_cut [55] (fun s wx=>s= .bool q∧Below w4.heap.size w4 wx)
   case first=>
    have hi3:=Bc.out.sx;have hi4:=Bc.out.sy;have hq:∀W,(binOp .neq 23 (.agg (aj D1).toArray) (.agg (aj D2).toArray)).run Tryz.prog W= .ok (.bool q) W:=fun W=>by rw [Ap W _ _ Rh.out QJ.out,HQ.out]
    refine wp_region_held_drew (S:=fun w'=>w'.rangeAt cb (co+p*68) x.cells∧w'.rangeAt db (BN+p*68) y.cells) (by kernel_rfl) (Bc.out.row _ ((Below.refl _ w4).drew)) (fun hH=>?_);refine aJ 0 (.slice (some ⟨cb,co,none⟩) n' c) 41 hH (fun W hW=>?_) ?_
    ·go_simp
    refine ax ?_;refine aJ 1 (I n') 42 hH (fun W hW=>?_) ?_
    ·go_simp
    refine ax ?_;refine aJ 2 (I p) 43 hH (fun W hW=>?_) ?_
    ·go_simp
    refine ax ?_;refine aJ 3 (.pointer (some ⟨cb,co+p*68,none⟩)) 44 hH (fun W hW=>?_) ?_
    ·go_simp
    refine ax ?_;refine gI 4 (.agg (x.cells).toArray) 45 rfl rfl hH (yieldsIf_load_mid (by rfl) _ _ rfl cb (co+p*68) rfl (x.cells) _ (fun _ hW=>hW.1) Tryz.underlying37 rfl hi3) ?_;refine ax ?_;refine aJ 7 (.slice (some ⟨db,BN,none⟩) n' c') 48 hH (fun W hW=>?_) ?_
    ·go_simp
    refine ax ?_;refine aJ 8 (I n') 49 hH (fun W hW=>?_) ?_
    ·go_simp
    refine ax ?_;refine aJ 9 (I p) 50 hH (fun W hW=>?_) ?_
    ·go_simp
    refine ax ?_;refine aJ 10 (.pointer (some ⟨db,BN+p*68,none⟩)) 51 hH (fun W hW=>?_) ?_
    ·go_simp
    refine ax ?_;refine gI 11 (.agg (y.cells).toArray) 52 rfl rfl hH (yieldsIf_load_mid (by rfl) _ _ rfl db (BN+p*68) rfl (y.cells) _ (fun _ hW=>hW.2) Tryz.underlying37 rfl hi4) ?_;refine ax ?_;clear hH;refine aW 5 (fun K hK=>?_);go_simp;go_at_call 13;refine (Bc.out.lx _ ((Below.refl _ w4).drew)).mono ?_;rintro e Wa ⟨va,rfl,ha,hb⟩;have Zb:=ae ha;have YW:Hid (Below w4.heap.size w4 Wa):=ae (ah (((Below.refl _ w4).drew)) hb);clear ha hb;refine hK.out _ _ (Bc.out.row _ YW.out) (fun hH=>?_);clear hK K;refine ax ?_;refine aW 6 (fun K hK=>?_);go_simp;go_at_call 12;refine (iq.out _ (YW.out) _ Zb.out).mono ?_;rintro e Wab ⟨rfl,hb⟩;have YX:Hid (Below w4.heap.size w4 Wab):=ae (ah (YW.out) hb);clear hb;refine hK.out _ _ (Bc.out.row _ YX.out) (fun hH=>?_);clear hK K;refine ax ?_;refine aW 12 (fun K hK=>?_);go_simp;go_at_call 13;refine (Bc.out.ly _ YX.out).mono ?_;rintro e Wabc ⟨vc,rfl,ha,hb⟩;have Zc:=ae ha;have QV:Hid (Below w4.heap.size w4 Wabc):=ae (ah (YX.out) hb);clear ha hb;refine hK.out _ _ (Bc.out.row _ QV.out) (fun hH=>?_);clear hK K;refine ax ?_;refine aW 13 (fun K hK=>?_);go_simp;go_at_call 12;refine (HS2.out _ (QV.out) _ Zc.out).mono ?_;rintro e Wabcd ⟨rfl,hb⟩;have QW:Hid (Below w4.heap.size w4 Wabcd):=ae (ah (QV.out) hb);clear hb;refine hK.out _ _ (Bc.out.row _ QW.out) (fun hH=>?_);clear hK K;refine ax ?_;refine aJ 14 (.bool q) 55 hH (fun W hW=>?_) ?_
    ·go_simp
    refine ax ?_;clear hH;refine wpAnyH_done (by kernel_rfl) ?_ _;clear hi3 hi4 hq;go_wp2_with fail;go_meet;exact ⟨rfl,QW.out⟩
   case rest=>
    obtain ⟨rfl,hbc⟩:=hcut;have UN:=ae hbc;clear hbc;cases q with
    |true=>
     go_wp2_with fail;go_ret;exact ⟨rfl,Y8.out _ UN.out⟩
    |false=>
     have HLAST:Hid (∀x' y':bI,ts[n' - 1]? =some x'→os[n' - 1]? =some y'→fH KR (jb x'.t)=fH KR (jb y'.t)):=ae fun x' y' h1 h2=>by
      obtain ⟨rfl,rfl⟩:=HLA.out x' y' h1 h2;have h3:(D1==D2)=true:=by simpa using HQ.out
      rw [HD1.out,HD2.out];exact eq_of_beq h3
     clear HLA HQ HD1 HD2 Rh QJ iq HS2 Bc hpn hwp j0 j1;go_wp2_with fail
     go_loopw [11] (fun i wr=>∃k:Nat,k≤n'∧i=I k∧(∀(j:Nat) (x y:bI),j<k→ts[j]? =some x→os[j]? =some y→fH KR (jb x.t)=fH KR (jb y.t)→jb x.t=jb y.t)∧Below w4.heap.size w4 wr) (fun i _=>n' - (intOf i).toNat)
     case atStart=>exact ⟨0,Nat.zero_le _,rfl,fun _ _ _ h=>absurd h (Nat.not_lt_zero _),UN.out⟩
     case round=>
      clear UN;obtain ⟨k,hk,rfl,hz,hb⟩:=hrel;have HZ:=ae hz;have HB:=ae hb;clear hz hb;by_cases hlt:k<n'
      ·have i0:(0:Int)≤(k:Int):=by omega
       have i1:(k:Int)<(n':Int):=by omega
       obtain ⟨x,y,hx,hy,hpr⟩:=jX.out k hlt;have HXY:=ae (And.intro hx hy);have Bc:=ae hpr;obtain ⟨D1,hd1⟩:∃d,fH KR (jb x.t)=d:=⟨_,rfl⟩;obtain ⟨D2,hd2⟩:∃d,fH KR (jb y.t)=d:=⟨_,rfl⟩;have HD1:=ae hd1;have HD2:=ae hd2;have Rh:Hid (D1.length=32):=ae (by rw [←hd1];exact dV _ _);have QJ:Hid (D2.length=32):=ae (by rw [←hd2];exact dV _ _);have iq:Hid (∀W,Below w4.heap.size w4 W→∀v,yc W v (jb x.t)→Calls Tryz.prog 12 #[v] W (Gives (.agg (aj D1).toArray) W)):=ae fun W hb v hv=>Gy KR HK.out (HVI.out W (Y8.out W hb)).1 Bc.out.gx hv hd1;have HS2:Hid (∀W,Below w4.heap.size w4 W→∀v,yc W v (jb y.t)→Calls Tryz.prog 12 #[v] W (Gives (.agg (aj D2).toArray) W)):=ae fun W hb v hv=>Gy KR HK.out (HVI.out W (Y8.out W hb)).1 Bc.out.gy hv hd2;obtain ⟨q,hq⟩:∃q,(D1==D2)=q:=⟨_,rfl⟩;have HQ:=ae hq;clear hx hy hpr hd1 hd2 hq;go_upto_block 1 with fail
       go_cut [11] (fun s wx=>s=I (k:Nat)∧(fH KR (jb x.t)=fH KR (jb y.t)→jb x.t=jb y.t)∧Below w4.heap.size w4 wx)
       case first=>
        go_upto_region 12 with fail
        go_cut [12,13] (fun a b wx=>yc wx a (jb x.t)∧yc wx b (jb y.t)∧Below w4.heap.size w4 wx)
        case first=>
         have hi3:=Bc.out.sx;have hi4:=Bc.out.sy;refine wp_region_held_drew (S:=fun w'=>w'.rangeAt cb (co+k*68) x.cells∧w'.rangeAt db (BN+k*68) y.cells) (by kernel_rfl) (Bc.out.row _ HB.out.drew) (fun hH=>?_);refine aJ 0 (.slice (some ⟨cb,co,none⟩) n' c) 62 hH (fun W hW=>?_) ?_
         ·go_simp
         refine ax ?_;refine aJ 1 (I k) 63 hH (fun W hW=>?_) ?_
         ·go_simp
         refine ax ?_;refine aJ 2 (.pointer (some ⟨cb,co+k*68,none⟩)) 64 hH (fun W hW=>?_) ?_
         ·go_simp
         refine ax ?_;refine gI 3 (.agg (x.cells).toArray) 65 rfl rfl hH (yieldsIf_load_mid (by rfl) _ _ rfl cb (co+k*68) rfl (x.cells) _ (fun _ hW=>hW.1) Tryz.underlying37 rfl hi3) ?_;refine ax ?_;refine aJ 5 (.slice (some ⟨db,BN,none⟩) n' c') 67 hH (fun W hW=>?_) ?_
         ·go_simp
         refine ax ?_;refine aJ 6 (I k) 68 hH (fun W hW=>?_) ?_
         ·go_simp
         refine ax ?_;refine aJ 7 (.pointer (some ⟨db,BN+k*68,none⟩)) 69 hH (fun W hW=>?_) ?_
         ·go_simp
         refine ax ?_;refine gI 8 (.agg (y.cells).toArray) 70 rfl rfl hH (yieldsIf_load_mid (by rfl) _ _ rfl db (BN+k*68) rfl (y.cells) _ (fun _ hW=>hW.2) Tryz.underlying37 rfl hi4) ?_;refine ax ?_;clear hH;refine aW 4 (fun K hK=>?_);go_simp;go_at_call 13;refine (Bc.out.lx _ HB.out.drew).mono ?_;rintro e Wa ⟨va,rfl,ha,hb⟩;have Zb:=ae ha;have YW:Hid (Below w4.heap.size w4 Wa):=ae (ah (HB.out.drew) hb);clear ha hb;refine hK.out _ _ (Bc.out.row _ YW.out) (fun hH=>?_);clear hK K;refine ax ?_;refine aW 9 (fun K hK=>?_);go_simp;go_at_call 13;refine (Bc.out.ly _ YW.out).mono ?_;rintro e Wac ⟨vc,rfl,ha,hb⟩;have HLaac:=ae (Zb.out.keep hb);have HLcac:=ae ha;have HBac:Hid (Below w4.heap.size w4 Wac):=ae (ah (YW.out) hb);clear ha hb;refine hK.out _ _ (Bc.out.row _ HBac.out) (fun hH=>?_);clear hK K;refine ax ?_;refine aJ 10 (va) 12 hH (fun W hW=>?_) ?_
         ·go_simp
         refine ax ?_;refine aJ 11 (vc) 13 hH (fun W hW=>?_) ?_
         ·go_simp
         refine ax ?_;clear hH;refine wpAnyH_done (by kernel_rfl) ?_ _;clear hi3 hi4;go_wp2_with fail;go_meet;exact ⟨HLaac.out,HLcac.out,HBac.out⟩
        case rest=>
         obtain ⟨ha,hb,hbc⟩:=hcut;have HA:=ae ha;have HBB:=ae hb;have UN:=ae hbc;clear ha hb hbc;go_wp2_with fail;have hq:∀W,(binOp .eql 23 (.agg (aj D1).toArray) (.agg (aj D2).toArray)).run Tryz.prog W= .ok (.bool q) W:=fun W=>by rw [SB W _ _ Rh.out QJ.out,HQ.out]
         refine (iq.out _ UN.out _ HA.out).mono ?_;rintro e w6 ⟨rfl,hb6⟩;have G8:Hid (Below w4.heap.size w4 w6):=ae (ah UN.out hb6);have HA6:=ae (HA.out.keep hb6);have HBB6:=ae (HBB.out.keep hb6);clear hb6;go_wp2_with fail;refine (HS2.out _ G8.out _ HBB6.out).mono ?_;rintro e w7 ⟨rfl,hb7⟩;have qC:Hid (Below w4.heap.size w4 w7):=ae (ah G8.out hb7);have HA7:=ae (HA6.out.keep hb7);have HBB7:=ae (HBB6.out.keep hb7);clear hb7;cases q with
         |true=>
          go_wp2_with fail;refine (Xh Bc.out.gx HA7.out HBB7.out).mono ?_;rintro e w8 ⟨b,rfl,hbe,hb8⟩;have O1:Hid (Below w4.heap.size w4 w8):=ae (ah qC.out hb8);have O3:=ae hbe;clear hb8 hbe;cases b with
          |true=>
           go_wp2_with fail;go_meet;exact ⟨rfl,fun _=>(by first|exact O3.out trivial|exact O3.out rfl),O1.out⟩
          |false=>
           go_wp2_with fail;go_ret;exact ⟨rfl,Y8.out _ O1.out⟩
         |false=>
          go_wp2_with fail;go_meet;exact ⟨rfl,fun h=>absurd (show (D1==D2)=true by rw [←HD1.out,←HD2.out,h,beq_self_eq_true]) (by rw [HQ.out];decide),qC.out⟩
       case rest=>
        obtain ⟨rfl,he,hbc⟩:=hcut;have HE:=ae he;have UN:=ae hbc;clear he hbc;go_wp2_with fail;go_roundw
        case rel=>exact ⟨k+1,by omega,by go_num,fun j x' y' hj h1 h2=>by
         by_cases hjk:j<k
         ·exact HZ.out j x' y' hjk h1 h2
         ·obtain rfl:j=k:=by omega
          obtain rfl:x'=x:=Option.some.inj (h1.symm.trans HXY.out.1);obtain rfl:y'=y:=Option.some.inj (h2.symm.trans HXY.out.2);exact HE.out,UN.out⟩
        case measure=>simp [intOf];omega
      ·have i1:¬(k:Int)<(n':Int):=by omega
       have hos:os=ts:=Jp HADM.out HADX.out wP.out HGO.out HGX.out (fun x hx=>(YY.out.each x hx).names) HBT.out HLAST.out fun i x y hx hy he=>HZ.out i x y (by have:=(eG.1 hx).1;have:=wP.out;omega) hx hy he;have Vx:Hid (Calls Tryz.prog 15 #[.slice (some ⟨cb,co,none⟩) n' c, .slice (some ⟨db,BN,none⟩) n' c'] wr (Gives (.bool true) wr)):=ae (Jg _ _ n' c c' ts wr wP.out (YY.out.grow HB.out) ((hos▸HCO4.out:gq w4 w4.heap.size (some ⟨db,BN,none⟩) ts).grow HB.out) HGO.out YB);clear hos;go_wp2_with fail;refine Vx.out.mono ?_;rintro e w9 ⟨rfl,EO⟩;have HB9:=ae (ah HB.out EO);clear EO;go_wp2_with fail;go_ret;exact ⟨rfl,Y8.out _ HB9.out⟩
  ·clear hu hb4;go_wp2_with fail;go_ret;exact ⟨rfl,H4.out.lo⟩
 ·have u0:((n':Int) !=(n:Int))=true:=by rw [oq];exact decide_eq_true (by omega)
  clear QH;go_wp2_with fail;go_ret;exact ⟨rfl,H3.out.lo⟩
end Go.Proofs.YtdibbemgpikgjaaGreatDoor
