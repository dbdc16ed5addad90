/- The texts Ej, in this order. -/
import Derived.Test.YtdibbemgpikgjaaGreatDoorW00
import Derived.Test.YtdibbemgpikgjaaGreatDoorW39
import Derived.Test.YtdibbemgpikgjaaGreatDoorW40
import Derived.Test.YtdibbemgpikgjaaGreatDoorW43
set_option maxRecDepth 10000
set_option maxHeartbeats 8000000
namespace Go.Proofs.YtdibbemgpikgjaaGreatDoor
open Go Go.RowKit
theorem Vz (w:World) (r r':List UInt8) (h:r.length=32) (h':r'.length=32):(binOp .eql 23 (.agg (aj r).toArray) (.agg (aj r').toArray)).run Tryz.prog w= .ok (.bool (r==r')) w:=
 run_eql_bytes (P:=Tryz.prog) w 23 5 32 Tryz.underlying23 Tryz.underlying5 (fun w=>Ai w) r r' h h'
theorem Zq {KR:List Int} {key:List UInt8} {r:Int} (h:CkF KR key [] r):r=0:=by
 rcases h with ⟨h,_⟩|⟨_,k,x,hx,_⟩
 ·exact h
 ·exact nomatch hx
theorem Vl {KR:List Int} {key:List UInt8} {ts:List dI} {z:dI} {r:Int} (h:CkF KR key ts r) (hz:ts[0]? =some z) (hs:(z.t.bz==nS KR key (nV z.t))=false):r=8:=by
 have ha:∀xs,iW KR key xs z.t=8:=fun xs=>by
  unfold iW;rw [hs];rfl
 rcases h with ⟨_,h⟩|⟨_,k,x,hx,hr,hk⟩
 ·have:=h 0 z hz;rw [ha] at this;exact absurd this (by decide)
 ·by_cases h0:k=0
  ·subst h0;have h2:z=x:=Option.some.inj (hz.symm.trans hx);rw [←hr,←h2,ha]
  ·have:=hk 0 z (by omega) hz;rw [ha] at this;exact absurd this (by decide)
theorem Rj {KR:List Int} {key:List UInt8} {ts:List dI} {z:dI} (h:oN KR key ts) (hz:ts[0]? =some z):nS KR key (nV z.t)=z.t.bz:=by
 have h1:=h 0 z hz;unfold iW at h1;split at h1
 ·cases h1
 ·rename_i h2;have h3:(z.t.bz==nS KR key (nV z.t))=true:=by simpa using h2
  exact (eq_of_beq h3).symm
theorem DZ (w:World) (hG:fH w 0 (au uy)) (hw1:0<w.heap.size) (r:l9) (ky:List UInt8) (hky:ky.length=32) (hr:vH w w.heap.size r):
  Calls Tryz.prog 3 #[.agg r.cells.toArray, .agg (cellsB ky)] w (Gives (.bool true) w):=by
 have XA:=ae hky;have oP:=ae hr.key;have HRR:=ae hr;have H0:=ae (V2.start w 26 r.cells.toArray 23 (cellsB ky));have YV:Hid (Tryz.prog.underlying 23=some (.array 32 5)):=ae Tryz.underlying23;have HRI:Hid ((Tryz.prog.info? 26).map (·.size)=some r.cells.toArray.size):=ae (by rw [show r.cells.toArray.size=34 by simpa using l9.len r hr.key];kernel_rfl);have Ns:Hid (∀d:List UInt8,d.length=32→(Tryz.prog.info? 23).map (·.size)=some (aj d).length):=ae (fun d hd=>by have:=jZ d hd;rw [this];simp [cellsB]);have HKI:=ae (jZ ky hky);have HVI:Hid (∀W,Below w.heap.size w W→fH W 0 (au uy)∧0<W.heap.size):=ae fun W hb=>⟨hG.via hb hw1,dQ hw1 hb.size⟩;have HK:Hid (uy.length=64):=ae (by rfl);obtain ⟨KR,hKR⟩:∃l,uy=l:=⟨_,rfl⟩;have Yz:Hid (∀W,Below w.heap.size w W→Calls Tryz.prog 7 #[.agg r.cells.toArray] W (QS W r)):=ae fun W h=>SX r W ((hr.keep h).more h.size);unfold QS at Yz;clear hr hky hG hw1;go_enter Tryz.func3,Tryz.ntmps3;go_upto_region 1 with fail;generalize (w.alloc (.cells r.cells.toArray 26)).alloc (.cells (cellsB ky) 23)=W0 at H0 ⊢;go_wp2_with fail;refine (Md W0).mono ?_;rintro e w1 ⟨rfl,b1⟩;have H1:=ae (H0.out.grow b1);clear b1 H0;go_wp2_with ((with_reducible refine fA 26 ?_);go_must (refine aQ rfl _ _ rfl w.heap.size rfl r.cells.toArray H1.out.s.jg _ Tryz.underlying26 rfl HRI.out ?_));refine (Yz.out w1 H1.out.lo).mono ?_;rintro e w2 ⟨A,n,c,ts,rfl,htl,hn5,hnc,hca,hcx,_,hb2⟩;have H2:=ae (H1.out.grow hb2);have xg:=ae htl;have HCA:=ae hca;have E5:=ae hcx;rw [hKR] at HK HVI;have HADM:Hid (oN KR r.key ts):=ae (by rw [←hKR];exact hcx.adm);have HGO:=ae hcx.good;have Xv:Hid (∀key:List UInt8,key.length=32→∀W,Below w2.heap.size w2 W→Calls Tryz.prog 8 #[.slice A n c, .agg (aj key).toArray] W (CkP W KR key ts)):=ae fun key hk W hb=>by
  have hvv:=HVI.out W (H2.out.grow hb).lo;exact KJ KR HK.out W hvv.1 hvv.2 key hk A n c ts xg.out (by omega) hnc (HCA.out.grow hb) HGO.out
 unfold CkP at Xv;clear htl hca hcx hb2 H1 Yz hKR;by_cases hn0:n=0
 ·have t0:((n:Int)==0)=true:=by simp [hn0]
  have t1:(n==0)=true:=by simp [hn0]
  have HNIL:Hid (ts= []):=ae (List.eq_nil_of_length_eq_zero (by rw [xg.out];exact hn0));clear hn0;go_wp2_with ((with_reducible refine fA 23 ?_);go_must (refine aQ rfl _ _ rfl (w.heap.size+1) rfl (cellsB ky) H2.out.r.jg _ Tryz.underlying23 rfl HKI.out ?_));refine (Xv.out ky XA.out w2 (Below.refl _ _)).mono ?_;rintro e w3 ⟨u,rfl,hu,hb3⟩;obtain rfl:u=0:=Zq (KR:=KR) (key:=ky) (by rw [←HNIL.out];exact hu);have H3:=ae (H2.out.grow hb3);clear hu hb3 H2 Xv;go_wp2_with fail;go_ret;exact ⟨rfl,H3.out.lo⟩
 ·have t0:((n:Int)==0)=false:=by simp;omega
  have t1:(n==0)=false:=by simp;omega
  obtain ⟨z,hz⟩:∃z,ts[0]? =some z:=⟨_,dw (by rw [xg.out];omega)⟩;have hzm:=fZ hz;obtain ⟨cb,co,rfl,hcb,hTA⟩:∃b off,A=some ⟨b,off,none⟩∧b<w2.heap.size∧qC w2 b off ts:=by
   rcases uS HCA.out with h1|h1
   ·have:=xg.out;omega
   ·exact h1
  have hzr:w2.rangeAt cb co z.cells:=by have:=(hTA 0 z hz).1;rw [Nat.zero_mul,Nat.add_zero] at this;exact this
  have HZR:=ae hzr;have Zd:Hid ((Tryz.prog.info? 37).map (·.size)=some z.cells.length):=ae (by rw [(hTA 0 z hz).2];kernel_rfl);have HZA:=ae (HCA.out.each z hzm);have HZG:=ae (HGO.out z hzm);have HZ0:=ae hz;have wX:Hid (Calls Tryz.prog 9 #[.agg z.cells.toArray] w2 (Be w2 (nV z.t))):=ae (nU z.t z.A z.zs.length z.c z.zs w2 HZG.out.1 HZA.out.names rfl HZA.out.aS HZG.out.2);have yS:=ae (xE z.t HZG.out.1);obtain ⟨N,hN⟩:∃N,(nV z.t).length=N:=⟨_,rfl⟩;have HN:=ae hN;have hn1:(0:Int)<(n:Int):=by omega
  have hn2:0<n:=by omega
  have wY:Hid (nS KR r.key (nV z.t)=z.t.bz):=ae (Rj HADM.out hz);have Zf:=ae HZA.out.bz;obtain ⟨M2,hM2⟩:∃d,nS KR ky (nV z.t)=d:=⟨_,rfl⟩;have vk:M2.length=32:=by rw [←hM2];exact qg _ _ _
  have OL:=ae hM2;have vX:=ae vk;clear hz hzm hTA hzr hN hM2 vk hn0;go_wp2_with ((with_reducible refine fA 37 ?_);go_must (refine bY rfl _ _ rfl cb co rfl z.cells HZR.out _ Tryz.underlying37 rfl Zd.out ?_));refine wX.out.mono ?_;rintro e w3 ⟨⟨g1,c1,rfl,o3⟩,b3⟩;rw [HN.out] at o3 ⊢;have hg1:=Gg o3;have hcel:=wK o3;have H3:=ae (H2.out.grow b3);have HB3:=ae b3;have Yv:Hid (∀key:List UInt8,key.length=32→∀W,Below w3.heap.size w3 W→Calls Tryz.prog 10 #[.agg (aj key).toArray, .slice (some ⟨g1,0,none⟩) N c1] W (Gives (.agg (aj (nS KR key (nV z.t))).toArray) W)):=ae fun key hk W hb=>by
   have hl:=yS.out;have hvv:=HVI.out W (H3.out.grow hb).lo;have h1:=BN KR HK.out W hvv.1 key (nV z.t) hk (by omega) (by omega) g1 0 c1 (dQ hg1.1 hb.size) (fun j hj=>(hb.cell (p:=⟨g1,0+j,none⟩) hg1.1).trans (hcel j hj));rw [HN.out] at h1;exact h1
  have hsk:w3.rangeAt w.heap.size 1 (aj r.key):=Oj H3.out.s.jg;have hsm:w3.rangeAt cb (co+36) (aj z.t.bz):=WB HZA.out.prev (aN HZR.out b3 hcb);have hs2:w3.rangeAt (w.heap.size+1) 0 (aj ky):=fun j v hv=>by rw [Nat.zero_add];exact (H3.out.r.cell j).trans (by simpa [cellsB] using hv)
  have hcb3:cb<w3.heap.size:=dQ hcb b3.size;have HS:Hid (∀W,Below w3.heap.size w3 W→W.rangeAt cb (co+36) (aj z.t.bz)∧W.rangeAt w.heap.size 1 (aj r.key)∧W.rangeAt (w.heap.size+1) 0 (aj ky)):=ae fun W hb=>⟨aN hsm hb hcb3,aN hsk hb H3.out.s.lt,aN hs2 hb H3.out.r.lt⟩;clear o3 b3 hg1 hcel hsk hsm hs2 H2 wX HZR;go_upto_region 6 with fail
  go_cut [6,7,48] (fun p q s wx=>p= .slice (some ⟨cb,co,none⟩) n c∧q= .slice (some ⟨g1,0,none⟩) N c1∧s= .bool false∧Below w3.heap.size w3 wx)
  case first=>
   have hud:=YV.out;have hi1:=Ns.out _ Zf.out;have hi2:=Ns.out _ oP.out;have hl1:(aj z.t.bz).length=32:=by simp [aj,Zf.out]
   have RY:(aj r.key).length=32:=by simp [aj,oP.out]
   have hq:∀W,(binOp .neq 23 (.agg (aj z.t.bz).toArray) (.agg (aj z.t.bz).toArray)).run Tryz.prog W= .ok (.bool false) W:=fun W=>by rw [F6 W _ _ Zf.out Zf.out,beq_self_eq_true];rfl
   have HKC1:=ae (Yv.out r.key oP.out w3.drew ((Below.refl _ w3).drew));rw [wY.out] at HKC1;refine wp_region_held_drew (S:=fun w'=>w'.rangeAt cb (co+36) (aj z.t.bz)∧w'.rangeAt w.heap.size 1 (aj r.key)∧w'.rangeAt (w.heap.size+1) 0 (aj ky)) (by kernel_rfl) (HS.out _ ((Below.refl _ w3).drew)) (fun hH=>?_);refine aH 0 (I 0) 29 hH (fun W hW=>?_) ?_
   ·go_simp
   refine ax ?_;refine aH 1 (.bool false) 30 hH (fun W hW=>?_) ?_
   ·go_simp
   refine ax ?_;refine aH 2 (.bool false) 31 hH (fun W hW=>?_) ?_
   ·go_simp
   refine ax ?_;refine aH 3 (.slice (some ⟨cb,co,none⟩) n c) 32 hH (fun W hW=>?_) ?_
   ·go_simp
   refine ax ?_;refine aH 4 (.pointer (some ⟨cb,co,none⟩)) 33 hH (fun W hW=>?_) ?_
   ·go_simp
   refine ax ?_;refine aH 5 (.pointer (some ⟨cb,co+36,none⟩)) 34 hH (fun W hW=>?_) ?_
   ·go_simp
   refine ax ?_;refine gJ 6 (.agg (aj z.t.bz).toArray) 35 rfl rfl hH (yieldsIf_load_mid (by rfl) _ _ rfl cb (co+36) rfl (aj z.t.bz) _ (fun _ hW=>hW.1) hud rfl hi1) ?_;refine ax ?_;refine aH 7 (.pointer (some ⟨w.heap.size,1,none⟩)) 36 hH (fun W hW=>?_) ?_
   ·go_simp
   refine ax ?_;refine gJ 8 (.agg (aj r.key).toArray) 37 rfl rfl hH (yieldsIf_load_mid (by rfl) _ _ rfl w.heap.size 1 rfl (aj r.key) _ (fun _ hW=>hW.2.1) hud rfl hi2) ?_;refine ax ?_;refine aH 9 (.slice (some ⟨g1,0,none⟩) N c1) 38 hH (fun W hW=>?_) ?_
   ·go_simp
   refine ax ?_;clear hH;refine aU 10 (fun K hK=>?_);go_simp;go_at_call 10;refine HKC1.out.mono ?_;rintro e w4 ⟨rfl,hb4⟩;have HB4:Hid (Below w3.heap.size w3 w4):=ae (Below.trans ((Below.refl _ w3).drew) hb4);refine hK.out _ _ (HS.out _ HB4.out) (fun hH=>?_);clear hK K hb4;refine ax ?_;refine aH 11 (.bool false) 40 hH (fun W hW=>?_) ?_
   ·go_simp
   refine ax ?_;refine aH 12 (.bool false) 41 hH (fun W hW=>?_) ?_
   ·go_simp
   refine ax ?_;refine aH 13 (.bool false) 42 hH (fun W hW=>?_) ?_
   ·go_simp
   refine ax ?_;refine aH 14 (.slice (some ⟨cb,co,none⟩) n c) 43 hH (fun W hW=>?_) ?_
   ·go_simp
   refine ax ?_;refine aH 15 (.pointer (some ⟨w.heap.size,1,none⟩)) 44 hH (fun W hW=>?_) ?_
   ·go_simp
   refine ax ?_;refine gJ 16 (.agg (aj r.key).toArray) 45 rfl rfl hH (yieldsIf_load_mid (by rfl) _ _ rfl w.heap.size 1 rfl (aj r.key) _ (fun _ hW=>hW.2.1) hud rfl hi2) ?_;refine ax ?_;clear hH;refine aU 17 (fun K hK=>?_);go_simp;go_at_call 8;refine (Xv.out r.key oP.out w4 (HB3.out.trans (HB4.out.mono HB3.out.size))).mono ?_;rintro e w5 ⟨u,rfl,hu,hb5⟩;obtain rfl:u=0:=HADM.out.check hu;have oO:Hid (Below w3.heap.size w3 w5):=ae (ah HB4.out hb5);refine hK.out _ _ (HS.out _ oO.out) (fun hH=>?_);clear hK K hb5 hu;refine ax ?_;refine aH 18 (.bool false) 47 hH (fun W hW=>?_) ?_
   ·go_simp
   refine ax ?_;refine aH 19 (.bool false) 48 hH (fun W hW=>?_) ?_
   ·go_simp
   refine ax ?_;clear hH;refine wpAnyH_done (by kernel_rfl) ?_ _;clear hud hi1 hi2 hl1 RY hq;go_wp2_with fail;go_meet;exact ⟨rfl,rfl,rfl,oO.out⟩
  case rest=>
   obtain ⟨rfl,rfl,rfl,hbc⟩:=hcut;have HBC:=ae hbc;have H6:=ae (H3.out.grow hbc);clear hbc;obtain ⟨q,hq⟩:∃q,(M2==z.t.bz)=q:=⟨_,rfl⟩;have HQ:=ae hq;have hqe:∀W,(binOp .eql 23 (.agg (aj M2).toArray) (.agg (aj z.t.bz).toArray)).run Tryz.prog W= .ok (.bool q) W:=fun W=>by rw [Vz W _ _ vX.out Zf.out,hq]
   have hud:=YV.out;have hi1:=Ns.out _ Zf.out;have hi2:=Ns.out _ XA.out;have hl1:(aj z.t.bz).length=32:=by simp [aj,Zf.out]
   have RY:(aj ky).length=32:=by simp [aj,XA.out]
   have EZ:Hid (Below w3.heap.size w3 wc.drew):=ae HBC.out.drew;have Yw:=ae (Yv.out ky XA.out wc.drew EZ.out);rw [OL.out] at Yw;clear hq;go_upto_region 8 with fail;refine wp_region_held_drew (S:=fun w'=>w'.rangeAt cb (co+36) (aj z.t.bz)∧w'.rangeAt w.heap.size 1 (aj r.key)∧w'.rangeAt (w.heap.size+1) 0 (aj ky)) (by kernel_rfl) (HS.out _ EZ.out) (fun hH=>?_);refine gJ 0 (.agg (aj ky).toArray) 49 rfl rfl hH (yieldsIf_load_mid (by rfl) _ _ rfl (w.heap.size+1) 0 rfl (aj ky) _ (fun _ hW=>hW.2.2) hud rfl hi2) ?_;refine ax ?_;refine aH 1 (.slice (some ⟨g1,0,none⟩) N c1) 50 hH (fun W hW=>?_) ?_
   ·go_simp
   refine ax ?_;refine aH 3 (.slice (some ⟨cb,co,none⟩) n c) 52 hH (fun W hW=>?_) ?_
   ·go_simp
   refine ax ?_;refine aH 4 (.pointer (some ⟨cb,co,none⟩)) 53 hH (fun W hW=>?_) ?_
   ·go_simp
   refine ax ?_;refine aH 5 (.pointer (some ⟨cb,co+36,none⟩)) 54 hH (fun W hW=>?_) ?_
   ·go_simp
   refine ax ?_;refine gJ 6 (.agg (aj z.t.bz).toArray) 55 rfl rfl hH (yieldsIf_load_mid (by rfl) _ _ rfl cb (co+36) rfl (aj z.t.bz) _ (fun _ hW=>hW.1) hud rfl hi1) ?_;refine ax ?_;clear hH;refine aU 2 (fun K hK=>?_);go_simp;go_at_call 10;refine Yw.out.mono ?_;rintro e w7 ⟨rfl,hb7⟩;have qy:Hid (Below w3.heap.size w3 w7):=ae (ah EZ.out hb7);refine hK.out _ _ (HS.out _ qy.out) (fun hH=>?_);clear hK K hb7;refine ax ?_;refine aH 7 (.bool q) 56 hH (fun W hW=>?_) ?_
   ·go_simp
   refine ax ?_;clear hH;refine wpAnyH_done (by kernel_rfl) ?_ _;have H7:=ae (H3.out.grow qy.out);clear hud hi1 hi2 hl1 RY hqe Yw H6;cases q with
   |true=>
    go_wp2_with fail;go_ret;exact ⟨rfl,H7.out.lo⟩
   |false=>
    have yU:Hid ((z.t.bz==nS KR ky (nV z.t))=false):=ae (by
     rw [OL.out];have h1:=HQ.out;rw [beq_eq_false_iff_ne] at h1 ⊢;exact fun e=>h1 e.symm)
    have HCK7:=ae (Xv.out ky XA.out w7 (HB3.out.trans (qy.out.mono HB3.out.size)));go_wp2_with ((with_reducible refine fA 23 ?_);go_must (refine aQ rfl _ _ rfl (w.heap.size+1) rfl (cellsB ky) H7.out.r.jg _ Tryz.underlying23 rfl HKI.out ?_));refine HCK7.out.mono ?_;rintro e w8 ⟨u,rfl,hu,hb8⟩;obtain rfl:u=8:=Vl hu HZ0.out yU.out;have H8:=ae (H7.out.grow hb8);clear hu hb8 HCK7 H7;go_wp2_with fail;go_ret;exact ⟨rfl,H8.out.lo⟩
end Go.Proofs.YtdibbemgpikgjaaGreatDoor
