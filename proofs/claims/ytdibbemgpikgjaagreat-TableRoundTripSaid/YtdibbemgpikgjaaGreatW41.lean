/- The texts Jp, Uh, Ui, Oka, in this order. -/
import Derived.Test.YtdibbemgpikgjaaGreatW00
import Derived.Test.YtdibbemgpikgjaaGreatW20
import Derived.Test.YtdibbemgpikgjaaGreatW31
import Derived.Test.YtdibbemgpikgjaaGreatW33
import Derived.Test.YtdibbemgpikgjaaGreatW40
set_option maxRecDepth 10000
set_option maxHeartbeats 8000000
namespace Go.Proofs.YtdibbemgpikgjaaGreat
open Go Go.RowKit
attribute [local go_sem] jX kC jY kD nK nM jV ku jW kz
structure TbY (t:Tb):Prop where
 bC:0≤t.bC∧t.bC<16
 version:1≤t.version∧t.version≤64
 aH:0≤t.aH∧t.aH<t.version
 prev:t.prev.length=32
 bJ:t.bJ.length=32
 num:t.aK.length≤128
 good:∀e∈t.aK,Ja e.z
 short:∀e∈t.aK,e.name.size≤32
theorem zvF_0 {z:Zn} (h:QT z=0):Ja z:=by
 unfold QT at h;split at h
 ·omega
 ·split at h
  ·rename_i h2;exact (G7 z).1 h2
  ·omega
theorem OA:∀(es:List Ze) (last:ByteArray),lJ last es=0→∀e∈es,Ja e.z∧e.name.size≤32
 | [],_,_,_,h=>nomatch h
 |x::es,last,h,e,he=>by
  rw [wo] at h;split at h
  ·omega
  ·rename_i h1;split at h
   ·rename_i h2;rcases List.mem_cons.1 he with rfl|he
    ·exact ⟨zvF_0 h2,by omega⟩
    ·exact OA es _ h e he
   ·rename_i h2;exact absurd h h2
theorem Pm {t:Tb} (h:Bg t=0) (hp:t.prev.length=32) (hm:t.bJ.length=32):TbY t:=by
 unfold Bg at h;split at h
 ·omega
 ·rename_i h1;split at h
  ·omega
  ·rename_i h2;split at h
   ·omega
   ·unfold tv1 at h1;unfold tv2 at h2;simp only [decide_eq_true_eq] at h1 h2;have h3:=OA _ _ h;exact ⟨by omega,by omega,by omega,hp,hm,by omega,fun e he=>(h3 e he).1,fun e he=>(h3 e he).2⟩
theorem KG (zs:List Ze) (h:∀e∈zs,Ja e.z∧e.name.size≤32):(KF zs).length≤zs.length*5400:=by
 induction zs with
 |nil=>exact Nat.zero_le _
 |cons x zs ih=>
  have h1:=ih fun e he=>h e (List.mem_cons_of_mem _ he);have h2:=Vr (h x List.mem_cons_self).1 (h x List.mem_cons_self).2;unfold KF at h1 ⊢;rw [List.flatMap_cons,bF,List.length_cons];omega
theorem UW (t:Tb) (h:TbY t):36≤(pU t).length∧(pU t).length≤700000:=by
 have h1:=KG t.aK fun e he=>⟨h.good e he,h.short e he⟩;have h2:=h.num;have h3:=h.prev;simp only [pU,bF,aA];omega
theorem Ja.len {z:Zn} (h:Ja z):oU z:=by
 have h1:=h.cal.ml;have h2:=h.cal.rl;have h3:=h.Nw;have h4:=h.yr.len;exact ⟨by omega,by omega,by omega,by omega⟩
theorem Ig (w:World) (g lb lo zg zo n c:Nat) (zs:List dA) (v:Value) (bs:List UInt8) (hn:zs.length=n) (hn2:n≤128) (hp:w.cell? ⟨lb,lo,none⟩=some (.slice (some ⟨zg,zo,none⟩) n c)) (MC:lb<g) (hzg:zg<g)
  (hcl:∀j u,(aP zs)[j]? =some u→w.cell? ⟨zg,zo+j,none⟩=some u) (hfz:∀j,w.frozen? ⟨zg,zo+j,none⟩=false) (hfl:∀x∈zs,Ja x.e.z∧x.e.name.size≤32) (hI:∀x∈zs,jR w g x.s x.e.z)
  (hl:bs.length≤1000000) (hst:fG w g v bs):
  Calls Tryz.prog 42 #[.iface 71 (pt g), .pointer (some ⟨lb,lo,none⟩),I 1, .func (.func 43) #[] #[]] w (fJ w g v (bs++(le n 1++KF (zs.map (·.e))))):=by
 have HC:=ae (fP w.drew g v bs n 1 (by omega) (by omega) (by omega) (by omega) hst.drew);have HST:=ae hst;have HN:=ae hn;have HF:=ae hfl;have gJ:=ae hcl;have HFZ:=ae hfz;have HI:=ae hI;have HP:=ae hp;have hgl:=hst.lt;clear hst hn hfl hcl hfz hI;go_enter Tryz.func42,Tryz.ntmps42;go_wp2_with fail;go_still_tail 9,(by kernel_rfl);go_wp2_with fail;refine HC.out.mono ?_;rintro e w1 ⟨rfl,v1,hs1,hk1⟩;have kS:=ae hs1;have gK:=ae (aJ hk1);clear hs1 hk1 HC hp;go_wp2_with fail
 go_loopw [22] (fun i wr=>WyRel w g v bs n (zs.map (·.e)) i wr) (fun i _=>n - (intOf i).toNat)
 case atStart=>exact ⟨0,Nat.zero_le _,rfl,v1,by simpa [KF] using kS.out,gK.out⟩
 case round=>
  obtain ⟨k,hk,rfl,v2,hs2,hk2⟩:=hrel;have hb2:=bI HST.out hk2;have HB2:=ae hb2;have HS2:=ae hs2;have ja:=ae hk2;have hp2:wr.cell? ⟨lb,lo,none⟩=some (.slice (some ⟨zg,zo,none⟩) n c):=(hb2.cell (p:=⟨lb,lo,none⟩) MC).trans HP.out;clear hs2 hk2 hb2 kS gK;by_cases hlt:k<n
  ·have hkz:k<zs.length:=by rw [HN.out];exact hlt
   obtain ⟨x,hx⟩:∃x,zs[k]? =some x:=⟨_,dK hkz⟩;have hxm:=gz hx;have hlen:(bs++(le (n:Int) 1++KF ((zs.map (·.e)).take k))).length≤9000000:=by
    have h1:=KG ((zs.map (·.e)).take k) fun e he=>by
     obtain ⟨y,hy,rfl⟩:=List.mem_map.1 (List.mem_of_mem_take he);exact HF.out y hy
    have h2:((zs.map (·.e)).take k).length≤128:=by rw [List.length_take,List.length_map,HN.out];omega
    simp only [bF,aA];omega
   have HM:=ae (Ve wr g zg (zo+k*9) x v2 _ (HF.out x hxm).1 (HF.out x hxm).2 (aB.elem (w:=wr) (s:=9) (f:=fun x:dA=>x.cells.toList) (fun _ _=>rfl) (fun j u hu=>(HB2.out.cell (p:=⟨zg,zo+j,none⟩) hzg).trans (gJ.out j u hu)) k x hx) (by
    have hf:=(HB2.out.frozen (p:=⟨zg,zo+(k*9+3),none⟩) hzg).trans (HFZ.out (k*9+3));rw [show zo+k*9+1+2=zo+(k*9+3) by omega];exact hf) hzg ((HI.out x hxm).keep HB2.out) hlen HS2.out)
   have HX:=ae hx;have i0:(0:Int)≤(k:Int):=by omega
   have i1:(k:Int)<(n:Int):=by omega
   have i2:((k:Int)==(n:Int))=false:=by simp;omega
   clear hkz hx hlen hxm;go_wp2_with fail;refine HM.out.mono ?_;rintro e w3 ⟨rfl,v3,hs3,hk3⟩;have nS:=ae hs3;have kX:=ae (ja.out.trans hk3);clear hs3 hk3 hp2;go_wp2_with fail;go_roundw
   case rel=>exact ⟨k+1,by omega,by go_num,v3,by rw [jJ (zs.map (·.e)) k x.e (by rw [List.getElem?_map,HX.out];rfl),Vu,←List.append_assoc (le _ _),←List.append_assoc];exact nS.out,kX.out⟩
   case measure=>simp [intOf];omega
  ·have hkn:k=n:=by omega
   have kY:=ae hkn;clear hkn;go_wp2_with fail
   go_end0
   exact ⟨rfl,v2,by have h:=HS2.out;rwa [kY.out,List.take_of_length_le (by rw [List.length_map,HN.out];exact Nat.le_refl _)] at h,ja.out⟩
theorem Kz (w:World) (g lb lo n c:Nat) (A:Option Addr) (zs:List dA) (v:Value) (bs:List UInt8) (hn:zs.length=n) (hn2:n≤128) (hp:w.cell? ⟨lb,lo,none⟩=some (.slice A n c)) (MC:lb<g) (hz:Fb g w A zs) (hfl:∀x∈zs,Ja x.e.z∧x.e.name.size≤32)
  (hl:bs.length≤1000000) (hst:fG w g v bs):
  Calls Tryz.prog 42 #[.iface 71 (pt g), .pointer (some ⟨lb,lo,none⟩),I 1, .func (.func 43) #[] #[]] w (fJ w g v (bs++(le n 1++KF (zs.map (·.e))))):=by
 by_cases h0:n=0
 ·subst h0;have:=yf w g lb lo A c v bs hp (by omega) hst;rw [List.eq_nil_of_length_eq_zero hn];simpa [KF] using this
 ·rcases hz.row with h|⟨zg,zo,rfl,h2,h3,h4⟩
  ·omega
  ·exact Ig w g lb lo zg zo n c zs v bs hn hn2 hp MC h2 h3 h4 hfl hz.each hl hst
attribute [local go_sem] jm jo jq bK
theorem Vg (w:World) (g tb n c:Nat) (t:Tb) (A:Option Addr) (zs:List dA) (v:Value) (h:TbY t) (hzz:t.aK=zs.map (·.e)) (hn:zs.length=n) (htb:tb<g) (hr:Row w tb (ai t (.slice A n c))) (hz:Fb g w A zs) (hst:fG w g v []):
  Calls Tryz.prog 23 #[.iface 71 (pt g), .pointer (some ⟨tb,0,none⟩)] w (fJ w g v (pU t)):=by
 have hgl:=hst.lt;have c0:=hr.2 0;have c1:w.cell? ⟨tb,1,none⟩=some (I t.version):=(hr.2 1).trans (jo _ _);have c2:w.cell? ⟨tb,2,none⟩=some (I t.aH):=(hr.2 2).trans (jq _ _);have c3:w.cell? ⟨tb,3,none⟩=some (.slice A n c):=(hr.2 3).trans (bK _ _);have hn2:n≤128:=by have:=h.num;rw [hzz,List.length_map] at this;omega
 have q1:=h.bC;have q2:=h.version;have q3:=h.aH;have jO:=ae (cu w.drew g ⟨tb,0,none⟩ v [] t.bC 1 (by omega) (by omega) (by omega) (by decide) hst.lt hst.drew (c0.trans (jm _ _)));have HPV:=ae (qh t (.slice A n c) hr);have HST:=ae hst;have HF:=ae h;have HZ:=ae hz;have HZZ:=ae hzz;have HN:=ae hn;have Gi:Hid (∀j u,Below g w u→u.cell? ⟨tb,j,none⟩=w.cell? ⟨tb,j,none⟩):=ae fun j u hb=>hb.cell (p:=⟨tb,j,none⟩) htb;have Rx:Hid (∀x∈zs,Ja x.e.z∧x.e.name.size≤32):=ae fun x hx=>by
  have hm:x.e∈t.aK:=by rw [hzz];exact List.mem_map_of_mem hx
  exact ⟨h.good _ hm,h.short _ hm⟩
 clear h hr hst hz hzz hn c0;go_enter Tryz.func23,Tryz.ntmps23;go_wp2_with fail;go_still_tail 7,(by kernel_rfl);go_wp2_with fail;refine jO.out.mono ?_;rintro e w1 ⟨rfl,v1,hs1,hk1⟩;obtain ⟨B1,hB1⟩:∃B,[]++le t.bC 1=B:=⟨_,rfl⟩;have hl1:B1.length≤1:=by rw [←hB1];simp [aA]
 rw [hB1] at hs1;have hb1:=bI HST.out (aJ hk1);have HB1:=ae hb1;have kS:=ae hs1;have gK:=ae (aJ hk1);have jS:=ae hB1;have HC2:=ae (cu w1.drew g ⟨tb,1,none⟩ v1 B1 t.version 1 (by omega) (by omega) (by omega) (by omega) hs1.lt hs1.drew ((Gi.out _ _ hb1).trans c1));clear hs1 hk1 hb1 jO hB1 c1;go_wp2_with fail;go_still_tail 7,(by kernel_rfl);go_wp2_with fail;refine HC2.out.mono ?_;rintro e w2 ⟨rfl,v2,hs2,hk2⟩;obtain ⟨B2,hB2⟩:∃B,B1++le t.version 1=B:=⟨_,rfl⟩;have hl2:B2.length≤2:=by rw [←hB2,bF,aA];omega
 rw [hB2] at hs2;have hb2:=HB1.out.trans (bI kS.out (aJ hk2));have HB2:=ae hb2;have HS2:=ae hs2;have ja:=ae (gK.out.trans (aJ hk2));have jr:=ae hB2;have qy:=ae (cu w2.drew g ⟨tb,2,none⟩ v2 B2 t.aH 1 (by omega) (by omega) (by omega) (by omega) hs2.lt hs2.drew ((Gi.out _ _ hb2).trans c2));clear hs2 hk2 hb2 HC2 hB2 c2;go_wp2_with fail;go_still_tail 7,(by kernel_rfl);go_wp2_with fail;refine qy.out.mono ?_;rintro e w3 ⟨rfl,v3,hs3,hk3⟩;obtain ⟨B3,hB3⟩:∃B,B2++le t.aH 1=B:=⟨_,rfl⟩;have hl3:B3.length≤3:=by rw [←hB3,bF,aA];omega
 rw [hB3] at hs3;have hb3:=HB2.out.trans (bI HS2.out (aJ hk3));have HB3:=ae hb3;have nS:=ae hs3;have kX:=ae (ja.out.trans (aJ hk3));have xg:=ae hB3;have qH:=ae (zN w3.drew g tb 4 v3 B3 t.prev (by omega) (fun j u hu=>(Gi.out _ _ hb3).trans (HPV.out j u hu)) HF.out.prev hs3.drew);clear hs3 hk3 hb3 qy hB3;go_wp2_with fail;go_still_tail 7,(by kernel_rfl);go_wp2_with fail;refine qH.out.mono ?_;rintro e w4 ⟨rfl,v4,hs4,hk4⟩;obtain ⟨B4,hB4⟩:∃B,B3++t.prev=B:=⟨_,rfl⟩;have hl4:B4.length≤35:=by rw [←hB4,bF,HF.out.prev];omega
 rw [hB4] at hs4;have hb4:=HB3.out.trans (bI nS.out (aJ hk4));have yu:=ae hs4;have KL:=ae (kX.out.trans (aJ hk4));have PK:=ae hB4;have yt:=ae (Kz w4 g tb 3 n c A zs v4 B4 HN.out hn2 ((Gi.out _ _ hb4).trans c3) htb (HZ.out.keep hb4) Rx.out (by omega) hs4);clear hs4 hk4 hb4 qH hB4 c3;go_wp2_with fail;refine yt.out.mono ?_;rintro e w5 ⟨rfl,v5,hs5,hk5⟩;have vV:=ae hs5;have zq:=ae (KL.out.trans hk5);clear hs5 hk5 yt;go_wp2_with fail
 go_end0
 refine ⟨rfl,v5,?_,zq.out⟩;have hh:=vV.out;rw [←PK.out,←xg.out,←jr.out,←jS.out] at hh;unfold pU;rw [HZZ.out,List.length_map,HN.out];simpa only [List.append_assoc,List.nil_append] using hh
theorem mg (t:Tb) (A:Option Addr) (n c:Nat) (zs:List dA) (w:World) (h:TbY t) (hzz:t.aK=zs.map (·.e)) (hn:zs.length=n) (hA:oD w w.heap.size A zs) (hv:Bg t=0):
  Calls Tryz.prog 7 #[.agg (ai t (.slice A n c))] w (BN w (pU t)):=by
 have HR0:=ae (Row.new w (ai t (.slice A n c)) 32);have HB0:=ae (ag w (.cells (ai t (.slice A n c)) 32));have HH0:=ae (heap_alloc_last w (.cells (ai t (.slice A n c)) 32));have dR:Hid (∀v,(Tryz.prog.info? 32).map (·.size)=some (ai t v).size):=ae fun v=>bP t v h.prev h.bJ;have KZ:Hid (∀u v,(ai t u).size=(ai t v).size):=ae fun u v=>by rw [aZ _ _ h.prev h.bJ,aZ _ _ h.prev h.bJ]
 have HV:Hid (∀W,Below w.heap.size w W→Calls Tryz.prog 19 #[.agg (ai t (.slice A n c))] W (Gives (I 0) W)):=ae fun W hb=>
  by have h9:=uB t A n c zs W h.prev hzz hn (hA.grow hb);rw [hv] at h9;exact h9
 have gJ:Hid (∀W,Below w.heap.size w W→Calls Tryz.prog 22 #[.agg (ai t (.slice A n c))] W (ClV W ⟨t,A,c,zs⟩)):=ae fun W hb=>by
  have h2:zs.length≤128:=by have:=h.num;rw [hzz,List.length_map] at this;exact this
  exact Cm ⟨t,A,c,zs⟩ n W hn (by omega) (fun y hy=>(h.good _ (by rw [hzz];exact List.mem_map_of_mem hy)).len) ⟨hzz,h.prev,h.bJ,hA.grow hb⟩
 have HF:=ae h;have HZZ:=ae hzz;have HN:=ae hn;clear h hzz hn hA hv;go_enter Tryz.func7,Tryz.ntmps7;go_wp2_with (with_reducible refine dM 32 ?_;refine aV rfl _ _ rfl w.heap.size rfl (ai t (.slice A n c)) HR0.out _ Tryz.underlying32 rfl (dR.out _) ?_);refine (HV.out _ HB0.out).mono ?_;rintro e w1 ⟨rfl,hb1⟩;have HR1:=ae (HR0.out.keep hb1);have HB1:=ae (ah HB0.out hb1);have HH1:Hid (w1.heap[w.heap.size]? =some (.cells (ai t (.slice A n c)) 32 (0,0))):=ae ((hb1.block _ (by simp)).trans HH0.out);clear hb1 HR0 HB0 HH0 HV;go_wp2_with (with_reducible refine dM 32 ?_;refine aV rfl _ _ rfl w.heap.size rfl (ai t (.slice A n c)) HR1.out _ Tryz.underlying32 rfl (dR.out _) ?_);refine (gJ.out _ HB1.out).mono ?_;rintro e w2 ⟨⟨t2,A2,c2,zs2⟩,ht2,he2,rfl,hO2,hb2⟩;have ht3:t=t2:=ht2.symm;subst ht3;have he2:zs2.map (·.e)=zs.map (·.e):=he2;have mJ:=ae (show BP w1.heap.size w2 A2 zs2 from hO2.aK);have hy2:zs2.length=n:=by have:=congrArg List.length he2;simpa [HN.out] using this
 have HE2:=ae he2;have HH2:Hid (w2.heap[w.heap.size]? =some (.cells (ai t (.slice A n c)) 32 (0,0))):=ae ((hb2.block _ HR1.out.1).trans HH1.out);have HB2:=ae (ah HB1.out hb2);have hl1:w.heap.size<w1.heap.size:=HR1.out.1;dsimp only;rw [hy2];clear hO2 he2 hb2 gJ;go_wp2_with (with_reducible refine bV 32 ?_;refine wpList_store_row rfl _ _ _ rfl w.heap.size (ai t (.slice A2 n c2)) rfl rfl 32 (ai t (.slice A n c)) HH2.out (dR.out _) (KZ.out _ _) (aT _ _ _ _) ?_);have hw3:(w2.setRow w.heap.size (ai t (.slice A2 n c2))).heap[w.heap.size]? =some (.cells (ai t (.slice A2 n c2)) 32 (0,0)):=setRow_heap _ _ _ _ _ _ HH2.out;have hs3:(w2.setRow w.heap.size (ai t (.slice A2 n c2))).heap.size=w2.heap.size:=by simp [World.setRow]
 have hb3:Below w.heap.size w (w2.setRow w.heap.size (ai t (.slice A2 n c2))):=below_setRow HB2.out (Nat.le_refl _) _;have hz3:BP (w.heap.size+1) (w2.setRow w.heap.size (ai t (.slice A2 n c2))) A2 zs2:=
  (mJ.out.lower (by omega)).aQ (by rw [hs3];exact Nat.le_refl _) fun k hk _=>setRow_other _ _ k _ (by omega)
 generalize w2.setRow w.heap.size (ai t (.slice A2 n c2))=w3 at hw3 hs3 hb3 hz3 ⊢;rw [←hs3];have hba:=ag w3 (.cells #[.slice none 0 0] 73);have hst:fG (w3.alloc (.cells #[.slice none 0 0] 73)) w3.heap.size (.slice none 0 0) []:=⟨heap_alloc_last w3 _,World.ownsRow_nil _ _ _ _⟩;have hl3:w.heap.size<w3.heap.size:=(bY.1 hw3).1;refine (Vg (w3.alloc (.cells #[.slice none 0 0] 73)) w3.heap.size w.heap.size n c2 t A2 zs2 (.slice none 0 0) HF.out (by rw [HE2.out];exact HZZ.out) hy2 hl3 ⟨by simp;omega,fun i=>(hba.cell (p:=⟨w.heap.size,i,none⟩) hl3).trans (cell_of_row w3 _ i _ _ _ hw3)⟩ (hz3.low.keep hba) hst).mono ?_;rintro e w4 ⟨rfl,v4,hs4,hk4⟩;have hb4:Below w.heap.size w w4:=(ah hb3 hba).trans ((bI hst hk4).mono (by omega));have hc4:w4.cell? ⟨w3.heap.size,0,none⟩=some v4:=cell_of_row w4 _ 0 _ _ _ hs4.1;have hlen:=UW t HF.out;obtain ⟨g4,c4,rfl,hg4⟩:=eU hs4.2 (by omega);have HB4:=ae hb4;have uZ:=ae (aX hs4.2 (base':=w.heap.size) (by omega));clear hw3 hs3 hb3 hz3 hba hst hs4 hk4 hb4 hlen hg4;go_wp2_with fail;go_ret2;exact ⟨⟨g4,c4,rfl,uZ.out⟩,HB4.out⟩
theorem EG (t:Tb) (A:Option Addr) (n c:Nat) (zs:List dA) (w:World) (hp:t.prev.length=32) (hm:t.bJ.length=32) (hzz:t.aK=zs.map (·.e)) (hn:zs.length=n) (hA:oD w w.heap.size A zs) (hv:Bg t≠0):
  Calls Tryz.prog 7 #[.agg (ai t (.slice A n c))] w (Gives (.tuple #[.slice none 0 0,I (Bg t)]) w):=by
 have HR0:=ae (Row.new w (ai t (.slice A n c)) 32);have HB0:=ae (ag w (.cells (ai t (.slice A n c)) 32));have dR:Hid (∀v,(Tryz.prog.info? 32).map (·.size)=some (ai t v).size):=ae fun v=>bP t v hp hm;have HV:Hid (∀W,Below w.heap.size w W→Calls Tryz.prog 19 #[.agg (ai t (.slice A n c))] W (Gives (I (Bg t)) W)):=ae fun W hb=>uB t A n c zs W hp hzz hn (hA.grow hb);obtain ⟨v,hvv⟩:∃v,Bg t=v:=⟨_,rfl⟩;rw [hvv] at HV hv ⊢;have hv1:(v !=0)=true:=by simp [hv]
 clear hp hm hzz hn hA hvv;go_enter Tryz.func7,Tryz.ntmps7;go_wp2_with (with_reducible refine dM 32 ?_;refine aV rfl _ _ rfl w.heap.size rfl (ai t (.slice A n c)) HR0.out _ Tryz.underlying32 rfl (dR.out _) ?_);refine (HV.out _ HB0.out).mono ?_;rintro e w1 ⟨rfl,hb1⟩;have HB1:=ae (ah HB0.out hb1);clear hb1;go_wp2_with fail;go_ret2;exact ⟨rfl,HB1.out⟩
def TbAny (w:World) (t:Tb) (e:Ending) (w':World):Prop:=
 (Bg t=0∧BN w (pU t) e w')∨(Bg t≠0∧Gives (.tuple #[.slice none 0 0,I (Bg t)]) w e w')
theorem DC (t:Tb) (A:Option Addr) (n c:Nat) (zs:List dA) (w:World) (hp:t.prev.length=32) (hm:t.bJ.length=32) (hzz:t.aK=zs.map (·.e)) (hn:zs.length=n) (hA:oD w w.heap.size A zs):
  Calls Tryz.prog 7 #[.agg (ai t (.slice A n c))] w (TbAny w t):=by
 by_cases hv:Bg t=0
 ·exact (mg t A n c zs w (Pm hv hp hm) hzz hn hA hv).mono fun e w' h=> .inl ⟨hv,h⟩
 ·exact (EG t A n c zs w hp hm hzz hn hA hv).mono fun e w' h=> .inr ⟨hv,h⟩
end Go.Proofs.YtdibbemgpikgjaaGreat
namespace Go.Proofs.YtdibbemgpikgjaaGreat
open Go Go.RowKit
attribute [local go_sem] dD dH dE dI ed eu dB dF dC dG jA jB
def uf (B:List UInt8):Option Tb:=
 match Eb B with
 |some (t,[])=>if Bg t=0∧pU t=B then some t else none
 |_=>none
theorem Jb {B:List UInt8} {t:Tb} (h:Eb B=some (t,[])) (h1:Bg t=0) (h2:pU t=B):uf B=some t:=by
 unfold uf;rw [h];simp only;rw [if_pos ⟨h1,h2⟩]
theorem Ot {B:List UInt8} {t:Tb} (h:Eb B=some (t,[])) (h1:¬(Bg t=0∧pU t=B)):uf B=none:=by
 unfold uf;rw [h];simp only;rw [if_neg h1]
theorem yO {B:List UInt8} (h:∀t,Eb B≠some (t,[])):uf B=none:=by
 unfold uf;split
 ·rename_i t he;exact absurd he (h t)
 ·rfl
theorem SQ {B:List UInt8} {t:Tb} (h:uf B=some t):Eb B=some (t,[])∧Bg t=0∧pU t=B:=by
 unfold uf at h;split at h
 ·rename_i t2 he;split at h
  ·rename_i h2;injection h with h;rw [←h];exact ⟨he,h2⟩
  ·cases h
 ·cases h
def Om (w:World) (B:List UInt8) (e:Ending) (w':World):Prop:=
 (∃t A c ys,uf B=some t∧e= .returned (.tuple #[.agg (ai t (.slice A t.aK.length c)),I 0])∧I9 w.heap.size w' (.slice A t.aK.length c) ys∧ys.map (·.e)=t.aK∧Below w.heap.size w w')∨
 (uf B=none∧e= .returned (.tuple #[.agg (ai bn (.slice none 0 0)),I 3])∧Below w.heap.size w w')
theorem iL (w:World) (B:List UInt8) (A0:Option Addr) (N c:Nat) (hN:B.length=N) (hc1:N≤c) (hc2:c≤9223372036854775807) (hA:BytesAt w w.heap.size A0 B):
  Calls Tryz.prog 6 #[.slice A0 N c] w (Om w B):=by
 have Iz:Hid ((Tryz.prog.info? 32).map (·.size)=some (ai bn (.slice none 0 0)).size):=ae (bP bn _ rfl rfl);have Ir:=ae hN;have HBA:=ae hA;have vg:=ae (AV.new w (ai bn (.slice none 0 0)) 32);have HB0:=ae (ag w (.cells (ai bn (.slice none 0 0)) 32));have HC:=ae (fun (W:World) (hb:Below w.heap.size w W)=>QC W B A0 N c hN hc1 hc2 ((hA.keep hb).more hb.size));clear hN hA;go_enter Tryz.func6,Tryz.ntmps6;go_upto_region 1 with ((with_reducible refine bu 32 ?_);go_must (refine aN rfl _ rfl (ai bn (.slice none 0 0)) eP ?_));go_wp2_with fail;refine (HC.out _ HB0.out).mono ?_;intro e w2 h;rcases h with ⟨t,A,cz,ys,hpt,rfl,hz2,he2,hb2⟩|⟨hpt,C,hCs,hCo,rfl,hb2⟩
 ·obtain ⟨hpr,Ey⟩:=Dk hpt;have hml:t.bJ.length=32:=by rw [Ey];rfl
  have dR:Hid (∀v,(Tryz.prog.info? 32).map (·.size)=some (ai t v).size):=ae fun v=>bP _ v hpr hml;have rE:Hid (∀v,(ai bn (.slice none 0 0)).size=(ai t v).size):=ae fun v=>by exact (aZ bn _ rfl rfl).trans (aZ t v hpr hml).symm
  have HPT:=ae hpt;have HR2:=ae (vg.out.below hb2);have HB2:=ae (ah HB0.out hb2);obtain ⟨n,hn⟩:∃n,t.aK.length=n:=⟨_,rfl⟩;rw [hn] at hz2 ⊢;have HZ2:=ae hz2;have HE2:=ae he2;have HN:=ae hn;have hyl:ys.length=n:=by have:=congrArg List.length he2;simpa [hn] using this
  have tK:=ae (fun (W:World) (hb:Below w2.heap.size w2 W)=>DC t A n cz ys W hpr hml he2.symm hyl (hz2.below hb).zes);have hl2:w.heap.size<w2.heap.size:=HR2.out.lt;clear hz2 he2 hb2 HC HB0 vg hn hyl hpt hpr hml Ey;go_wp2_with (first
   |(with_reducible refine bu 32 ?_;refine bH rfl _ rfl (ai bn (.slice none 0 0)) fK ?_)
   |(with_reducible refine bV 32 ?_;refine cZ rfl _ _ _ rfl (ai t (.slice A n cz)) rfl rfl 32 (ai bn (.slice none 0 0)) rfl (dR.out _) (rE.out _) (aT _ _ _ _) ?_;intro W3 hb3 hl3 hr3;have HB3:=ae hb3;have HR3:=ae hr3;have HZ3:=ae (HZ2.out.below hb3);have tN:=ae (HR2.out.below hb3);clear hb3 hr3)
   |(with_reducible refine dM 32 ?_;refine aV rfl _ _ rfl w2.heap.size rfl (ai t (.slice A n cz)) HR3.out _ Tryz.underlying32 rfl (dR.out _) ?_))
  refine (tK.out W3 HB3.out).mono ?_;rintro e w4 (⟨hv0,⟨g4,c4,rfl,CS⟩,hb4⟩|⟨hv0,rfl,hb4⟩)
  ·have TZ:=HB2.out.trans (HB3.out.mono (by omega));have MB:=TZ.trans (hb4.mono (by omega));have HB4:=ae MB;have HR4:Hid (Row w4 w2.heap.size (ai t (.slice A n cz))):=ae (HR3.out.keep hb4);have Og:Hid (I9 (w.heap.size+1) w4 (.slice A n cz) ys):=ae ((HZ3.out.below hb4).lower (by simp));have Iu:=ae (tN.out.below hb4);have h1:BytesAt w4 w4.heap.size (some ⟨g4,0,none⟩) (pU t):=by
    obtain ⟨A',c',hv,_,_,_,hy⟩:=uh (bs:=pU t) CS;injection hv with e1 e2 e3;subst e1;exact hy
   have h2:BytesAt w4 w.heap.size A0 B:=HBA.out.keep MB;have KJ:=ae (ui w4 (some ⟨g4,0,none⟩) A0 (pU t) B c4 c _ _ h1 h2);rw [Ir.out] at KJ;obtain ⟨M,hM⟩:∃M,(pU t).length=M:=⟨_,rfl⟩;rw [hM] at KJ ⊢;obtain ⟨eq,heq⟩:∃b,decide (pU t=B)=b:=⟨_,rfl⟩;have hbe:(pU t==B)=eq:=by rw [←heq];by_cases h:pU t=B<;>simp [h]
   rw [hbe] at KJ;have HEB:=ae heq;have HV0':=ae hv0;clear CS hb4 TZ MB h1 h2 HB3 HR3 HZ3 HR2 HZ2 HB2 tK tN hM heq hv0 hbe;go_wp2_with fail;refine KJ.out.mono ?_;rintro e w5 ⟨rfl,rfl⟩;cases eq with
   |true=>
    go_wp2_with (first
     |(with_reducible refine dM 32 ?_;refine aV rfl _ _ rfl w2.heap.size rfl (ai t (.slice A n cz)) HR4.out _ Tryz.underlying32 rfl (dR.out _) ?_)
     |(with_reducible refine bV 32 ?_;refine wpList_store_row rfl _ _ _ rfl w.heap.size (ai t (.slice A n cz)) rfl rfl 32 (ai bn (.slice none 0 0)) Iu.out.var (dR.out _) (rE.out _) (aT _ _ _ _) ?_))
    refine bodyPost_ret (v:= .tuple #[.agg (ai t (.slice A n cz)),I 0]) (bQ rfl _ _ w.heap.size _ (ai t (.slice A n cz)) (0,0) _ rfl (setRow_heap _ _ _ _ _ _ Iu.out.var) Tryz.underlying32 rfl (dR.out _) _ rfl) rfl ?_;refine .inl ⟨t,A,cz,ys,Jb HPT.out HV0'.out (of_decide_eq_true HEB.out),by rw [HN.out],?_,HE2.out,aC HB4.out (Nat.le_refl _) _⟩;rw [HN.out];refine (Og.out.aQ ?_ fun k h1 h2=>setRow_other _ _ k _ (by omega)).lower (by omega);simp [World.setRow]
   |false=>
    have VP:Hid (uf B=none):=ae (Ot HPT.out fun h=>absurd h.2 (of_decide_eq_false HEB.out));go_wp2_with (first
     |((with_reducible refine gu 32 ?_);go_must (refine bW rfl _ rfl (ai bn (.slice none 0 0)) (by kernel_rfl) ?_))
     |((with_reducible refine eQ 32 ?_);go_must (refine wpList_store_row rfl _ _ _ rfl w.heap.size (ai bn (.slice none 0 0)) rfl rfl 32 (ai bn (.slice none 0 0)) Iu.out.var Iz.out rfl (aT _ _ _ _) ?_)))
    refine bodyPost_ret (v:= .tuple #[.agg (ai bn (.slice none 0 0)),I 3]) (bQ rfl _ _ w.heap.size _ (ai bn (.slice none 0 0)) (0,0) _ rfl (setRow_heap _ _ _ _ _ _ Iu.out.var) Tryz.underlying32 rfl Iz.out _ rfl) rfl ?_;exact .inr ⟨VP.out,rfl,aC HB4.out (Nat.le_refl _) _⟩
  ·have HB4:=ae ((HB2.out.trans (HB3.out.mono (by omega))).trans (hb4.mono (by omega)));have Iu:=ae (tN.out.below hb4);have VP:Hid (uf B=none):=ae (Ot HPT.out fun h=>hv0 h.1);obtain ⟨v,hv⟩:∃v,Bg t=v:=⟨_,rfl⟩;rw [hv] at hv0 ⊢;have hv1:(v !=0)=true:=by simp [hv0]
   clear hb4 HB3 HR3 HZ3 HR2 HZ2 HB2 tK tN hv;go_wp2_with (first
    |((with_reducible refine gu 32 ?_);go_must (refine bW rfl _ rfl (ai bn (.slice none 0 0)) (by kernel_rfl) ?_))
    |((with_reducible refine eQ 32 ?_);go_must (refine wpList_store_row rfl _ _ _ rfl w.heap.size (ai bn (.slice none 0 0)) rfl rfl 32 (ai bn (.slice none 0 0)) Iu.out.var Iz.out rfl (aT _ _ _ _) ?_)))
   refine bodyPost_ret (v:= .tuple #[.agg (ai bn (.slice none 0 0)),I 3]) (bQ rfl _ _ w.heap.size _ (ai bn (.slice none 0 0)) (0,0) _ rfl (setRow_heap _ _ _ _ _ _ Iu.out.var) Tryz.underlying32 rfl Iz.out _ rfl) rfl ?_;exact .inr ⟨VP.out,rfl,aC HB4.out (Nat.le_refl _) _⟩
 ·have HR2:=ae (vg.out.below hb2);have HB2:=ae (ah HB0.out hb2);have VP:=ae (yO hpt);have HSC:Hid ((Tryz.prog.info? 32).map (·.size)=some C.size):=ae (by rw [hCs];exact (bP bn (.slice none 0 0) rfl rfl).trans (by rw [aZ bn _ rfl rfl]));have yw:Hid ((ai bn (.slice none 0 0)).size=C.size):=ae (by rw [hCs];exact aZ bn _ rfl rfl);have HCO:=ae hCo;have hw2:w.heap.size<w2.heap.size:=HR2.out.lt;clear hb2 HC vg HB0 hpt hCs hCo;have HR3:Hid (AV w.heap.size 32 (ai bn (.slice none 0 0)) ((w2.alloc (.cells (ai bn (.slice none 0 0)) 32)).setRow w2.heap.size C)):=ae ((HR2.out.below (ag w2 _)).qW (by omega) _);have HB3:Hid (Below w.heap.size w ((w2.alloc (.cells (ai bn (.slice none 0 0)) 32)).setRow w2.heap.size C)):=ae (aC (ah HB2.out (ag w2 _)) (by omega) _);go_wp2_with (first
   |((with_reducible refine bu 32 ?_);go_must (refine aN rfl _ rfl (ai bn (.slice none 0 0)) eP ?_))
   |((with_reducible refine gu 32 ?_);go_must (refine bW rfl _ rfl (ai bn (.slice none 0 0)) (by kernel_rfl) ?_))
   |((with_reducible refine eQ 32 ?_);go_must (first
     |(refine wpList_store_row rfl _ _ _ rfl w2.heap.size C rfl rfl 32 (ai bn (.slice none 0 0)) (heap_alloc_last _ _) HSC.out yw.out HCO.out ?_)
     |(refine wpList_store_row rfl _ _ _ rfl w.heap.size (ai bn (.slice none 0 0)) rfl rfl 32 (ai bn (.slice none 0 0)) HR3.out.var Iz.out rfl (aT _ _ _ _) ?_))))
  refine bodyPost_ret (v:= .tuple #[.agg (ai bn (.slice none 0 0)),I 3]) (bQ rfl _ _ w.heap.size _ (ai bn (.slice none 0 0)) (0,0) _ rfl (setRow_heap _ _ _ _ _ _ HR3.out.var) Tryz.underlying32 rfl Iz.out _ rfl) rfl ?_;exact .inr ⟨VP.out,rfl,aC HB3.out (Nat.le_refl _) _⟩
end Go.Proofs.YtdibbemgpikgjaaGreat
namespace Go.Proofs.YtdibbemgpikgjaaGreat
open Go Go.RowKit
def vF {α:Type} (p:List UInt8→Option (α×List UInt8)):Prop:=∀(B:List UInt8) (a:α) (R X:List UInt8),p B=some (a,R)→p (B++X)=some (a,R++X)
theorem XU {s:Nat} {B:List UInt8} (X:List UInt8) (h:s≤B.length):AA (B++X) false s=AA B false s:=by
 have h1:tk (B++X) false s=tk B false s:=by
  unfold tk Zv;have e1:decide (B.length<s)=false:=decide_eq_false (by omega);have e2:decide ((B++X).length<s)=false:=decide_eq_false (by rw [bF];omega);rw [e1,e2];simp only [Bool.or_false,Bool.false_eq_true,if_false];rw [List.take_append_of_le_length h]
 unfold AA;rw [h1]
theorem jL (s:Nat):vF (pN s):=by
 intro B a R X h;obtain ⟨h1,h2,h3⟩:=OT h;rw [wJ (by rw [bF];omega),XU X h1,←h2,List.drop_append_of_le_length h1,←h3]
theorem Nb:vF pO:=by
 intro B a R X h;unfold pO at h ⊢;simp only [Option.map_eq_some_iff] at h;obtain ⟨⟨v,R1⟩,h1,h2⟩:=h;rw [jL 2 _ _ _ X h1];simp only [Prod.mk.injEq] at h2;simp only [Option.map_some,h2.1,h2.2]
theorem pF_app:vF pF:=by
 intro B a R X h;unfold pF at h ⊢;simp only [Option.map_eq_some_iff] at h;obtain ⟨⟨v,R1⟩,h1,h2⟩:=h;rw [jL 1 _ _ _ X h1];simp only [Prod.mk.injEq] at h2;simp only [Option.map_some,h2.1,h2.2]
theorem pD_app:vF pD:=by
 intro B a R X h;unfold pD at h ⊢;split at h
 ·rename_i h1;simp only [Option.some.injEq,Prod.mk.injEq] at h;rw [if_pos (by rw [bF];omega),List.take_append_of_le_length h1,List.drop_append_of_le_length h1,h.1,h.2]
 ·cases h
theorem pK_app (n:Nat):vF (pK n):=by
 intro B a R X h;unfold pK at h ⊢;split at h
 ·rename_i h1;simp only [Option.some.injEq,Prod.mk.injEq] at h;rw [if_pos (by rw [bF];omega),List.take_append_of_le_length h1,List.drop_append_of_le_length h1,h.1,h.2]
 ·cases h
theorem pT_app:vF pT:=by
 intro B a R X h;simp only [pT,Option.bind_eq_some_iff] at h;obtain ⟨⟨v,R1⟩,h1,h2⟩:=h;simp only [pT,jL 1 _ _ _ X h1,Option.bind_some];exact pK_app _ _ _ _ X h2
theorem Di {α:Type} {p:List UInt8→Option (α×List UInt8)} (hp:vF p):∀n,vF (eH p n)
 |0=>fun B a R X h=>by
  simp only [eH,Option.some.injEq,Prod.mk.injEq] at h ⊢;exact ⟨h.1,by rw [h.2]⟩
 |n+1=>fun B a R X h=>by
  simp only [eH,Option.bind_eq_some_iff,Option.map_eq_some_iff] at h;obtain ⟨⟨xs,R1⟩,h1,⟨y,R2⟩,h2,h3⟩:=h;simp only [eH,Di hp n _ _ _ X h1,Option.bind_some,hp _ _ _ X h2,Option.map_some];simp only [Prod.mk.injEq] at h3;simp only [h3.1,h3.2]
theorem qU {α:Type} {p:List UInt8→Option (α×List UInt8)} (hp:vF p) (s:Nat):vF (gY s p):=by
 intro B a R X h;simp only [gY,Option.bind_eq_some_iff] at h;obtain ⟨⟨v,R1⟩,h1,h2⟩:=h;simp only [gY,jL s _ _ _ X h1,Option.bind_some];exact Di hp _ _ _ _ X h2
theorem XC:vF Na:=by
 intro B x R X h;simp only [Na,Option.bind_eq_some_iff,Option.map_eq_some_iff] at h;obtain ⟨⟨a,R1⟩,h1,⟨b,R2⟩,h2,⟨c,R3⟩,h3,h4⟩:=h;simp only [Prod.mk.injEq] at h4;simp only [Na,jL 2 _ _ _ X h1,jL 2 _ _ _ X h2,pF_app _ _ _ X h3,Option.bind_some,Option.map_some,h4.1,h4.2]
theorem XI:vF OU:=by
 intro B x R X h;simp only [OU,Option.bind_eq_some_iff,Option.map_eq_some_iff] at h;obtain ⟨⟨a,R1⟩,h1,⟨c,R3⟩,h3,h4⟩:=h;simp only [Prod.mk.injEq] at h4;simp only [OU,jL 8 _ _ _ X h1,Nb _ _ _ X h3,Option.bind_some,Option.map_some,h4.1,h4.2]
theorem XK:vF JI:=by
 intro B x R X h;simp only [JI,Option.bind_eq_some_iff,Option.map_eq_some_iff] at h;obtain ⟨⟨a,R1⟩,h1,⟨b,R2⟩,h2,⟨c,R3⟩,h3,⟨d,R4⟩,h4,⟨e,R5⟩,h5,h6⟩:=h;simp only [Prod.mk.injEq] at h6;simp only [JI,jL 1 _ _ _ X h1,jL 1 _ _ _ X h2,jL 1 _ _ _ X h3,jL 2 _ _ _ X h4,Nb _ _ _ X h5,Option.bind_some,Option.map_some,h6.1,h6.2]
theorem UC:vF Au:=by
 intro B x R X h;simp only [Au,Option.bind_eq_some_iff,Option.map_eq_some_iff] at h;obtain ⟨⟨a,R1⟩,h1,⟨b,R2⟩,h2,⟨c,R3⟩,h3,⟨d,R4⟩,h4,h6⟩:=h;simp only [Prod.mk.injEq] at h6;simp only [Au,jL 4 _ _ _ X h1,qU (jL 1) 1 _ _ _ X h2,jL 1 _ _ _ X h3,qU XC 1 _ _ _ X h4,Option.bind_some,Option.map_some,h6.1,h6.2]
theorem XM:vF Ha:=by
 intro B x R X h;simp only [Ha,Option.bind_eq_some_iff,Option.map_eq_some_iff] at h;obtain ⟨⟨a,R1⟩,h1,⟨b,R2⟩,h2,⟨c,R3⟩,h3,⟨d,R4⟩,h4,⟨e,R5⟩,h5,⟨f,R6⟩,h7,h6⟩:=h;simp only [Prod.mk.injEq] at h6;simp only [Ha,pT_app _ _ _ X h1,UC _ _ _ X h2,Nb _ _ _ X h3,qU XI 2 _ _ _ X h4,jL 8 _ _ _ X h5,qU XK 1 _ _ _ X h7,Option.bind_some,Option.map_some,h6.1,h6.2]
theorem XH:vF Eb:=by
 intro B x R X h;simp only [Eb,Option.bind_eq_some_iff,Option.map_eq_some_iff] at h;obtain ⟨⟨a,R1⟩,h1,⟨b,R2⟩,h2,⟨c,R3⟩,h3,⟨d,R4⟩,h4,⟨e,R5⟩,h5,h6⟩:=h;simp only [Prod.mk.injEq] at h6;simp only [Eb,jL 1 _ _ _ X h1,jL 1 _ _ _ X h2,jL 1 _ _ _ X h3,pD_app _ _ _ X h4,qU XM 1 _ _ _ X h5,Option.bind_some,Option.map_some,h6.1,h6.2]
theorem kG (v:Int) (s:Nat) (R:List UInt8) (h:AA (le v s++R) false s=v):pN s (le v s++R)=some (v,R):=by
 rw [wJ (by rw [bF,aA];omega),h,Bc]
theorem Nc (v:Int) (R:List UInt8) (h0: -32768≤v) (h1:v≤32767):pO (le v 2++R)=some (v,R):=by
 unfold pO;rw [wJ (by rw [bF,aA];omega),O5,Bc];simp only [Option.map_some,uX];have e:(v%65536+32768)%65536 - 32768=v:=by omega
 rw [e]
theorem pF_fwd (b:Bool) (R:List UInt8):pF (le (uo b) 1++R)=some (b,R):=by
 unfold pF;rw [kG _ 1 R (iG _ (by cases b<;>decide) (by cases b<;>decide) _)];cases b<;>rfl
theorem pT_fwd (s:ByteArray) (R:List UInt8) (h:s.size<256):pT ((le s.size 1++s.data.toList)++R)=some (s,R):=by
 have hl:s.data.toList.length=s.size:=Array.length_toList;unfold pT;rw [List.append_assoc,kG _ 1 _ (iG _ (by omega) (by omega) _)];simp only [Option.bind_some,Int.toNat_natCast];unfold pK;rw [if_pos (by rw [bF,hl];omega),←hl,List.take_append_of_le_length (Nat.le_refl _),List.take_of_length_le (Nat.le_refl _),List.drop_append_of_le_length (Nat.le_refl _),List.drop_of_length_le (Nat.le_refl _)];rfl
theorem Dj {α:Type} {p:List UInt8→Option (α×List UInt8)} (enc:α→List UInt8):∀(n:Nat) (xs:List α) (R:List UInt8),xs.length=n→(∀x∈xs,∀R,p (enc x++R)=some (x,R))→eH p n (xs.flatMap enc++R)=some (xs,R)
 |0,xs,R,hn,_=>by
  rw [List.eq_nil_of_length_eq_zero hn];rfl
 |n+1,xs,R,hn,h=>by
  obtain ⟨ys,x,rfl⟩:∃ys x,xs=ys++ [x]:=by
   have hne:xs≠ []:=by intro e;rw [e] at hn;cases hn
   exact ⟨xs.dropLast,xs.getLast hne,(List.dropLast_concat_getLast hne).symm⟩
  rw [bF,List.length_singleton] at hn;rw [List.flatMap_append,List.flatMap_cons,List.flatMap_nil,List.append_nil,List.append_assoc];simp only [eH,Dj enc n ys (enc x++R) (by omega) (fun y hy=>h y (List.mem_append_left _ hy)),Option.bind_some,h x (List.mem_append_right _ List.mem_cons_self) R,Option.map_some]
theorem qV {α:Type} {p:List UInt8→Option (α×List UInt8)} (enc:α→List UInt8) (s:Nat) (xs:List α) (R:List UInt8) (hs:AA (le xs.length s++(xs.flatMap enc++R)) false s=xs.length) (h:∀x∈xs,∀R,p (enc x++R)=some (x,R)):gY s p ((le xs.length s++xs.flatMap enc)++R)=some (xs,R):=by
 unfold gY;rw [List.append_assoc,kG _ s _ hs];simp only [Option.bind_some,Int.toNat_natCast];exact Dj enc _ xs R rfl h
theorem XD (x:Lr) (hx:lrSm x) (R:List UInt8):Na (jP x++R)=some (x,R):=by
 unfold jP;simp only [List.append_assoc];simp only [Na,kG _ 2 _ (Dq _ hx.1.1 hx.1.2 _),kG _ 2 _ (Dq _ hx.2.1 hx.2.2 _),pF_fwd,Option.bind_some,Option.map_some]
theorem XJ (x:Tr) (hx:trSm x) (R:List UInt8):OU (iQ x++R)=some (x,R):=by
 unfold iQ;simp only [List.append_assoc];simp only [OU,kG _ 8 _ (O6 x.at_ (by have:=hx.1;unfold fits;omega) _),Nc _ _ hx.2.1 hx.2.2,Option.bind_some,Option.map_some]
theorem XL (x:Yr) (hx:Yl x) (R:List UInt8):JI (jQ x++R)=some (x,R):=by
 obtain ⟨h1,h2,h3,h4,h5⟩:=hx;unfold jQ;simp only [List.append_assoc];simp only [JI,kG _ 1 _ (iG _ h1.1 h1.2 _),kG _ 1 _ (iG _ h2.1 h2.2 _),kG _ 1 _ (iG _ h3.1 h3.2 _),kG _ 2 _ (Dq _ h4.1 h4.2 _),Nc _ _ h5.1 h5.2,Option.bind_some,Option.map_some]
theorem Cc (zs:List Int):dJ zs=zs.flatMap fun z=>le z 1:=by
 induction zs with
 |nil=>rfl
 |cons z zs ih=>rw [List.flatMap_cons,←ih];rfl
theorem UD (c:Cal) (hc:iR c) (R:List UInt8):Au (Cb c++R)=some (c,R):=by
 have h1:=hc.ep;have h2:=hc.mo;have h3:=hc.le;have h4:=hc.ru;have h5:=hc.all;unfold Cb;rw [Cc];simp only [List.append_assoc];rw [←List.append_assoc (le (c.aj.length:Int) 1),←List.append_assoc (le (c.rules.length:Int) 1)];simp only [Au,kG _ 4 _ (Zr _ h1.1 (by omega) _),qV (fun z=>le z 1) 1 c.aj _ (iG _ (by omega) (by omega) _) (fun z hz R=>kG _ 1 _ (iG _ (by have:=h5 z hz;omega) (by have:=h5 z hz;omega) _)),kG _ 1 _ (iG (c.aY+1) (by omega) (by omega) _),qV jP 1 c.rules _ (iG _ (by omega) (by omega) _) (fun z hz R=>XD z (hc.sm z hz) R),Option.bind_some,Option.map_some,Int.add_sub_cancel]
theorem XN (e:Ze) (h:tZ e.z) (hs:e.name.size≤32) (R:List UInt8):Ha (Vq e++R)=some (e,R):=by
 have h1:=h.start;have h2:=h.hor;have h3:=h.Nw;have h4:=h.yl;have h5:=h.sm;unfold Vq znB;simp only [List.append_assoc];rw [←List.append_assoc (le (e.name.size:Int) 1),←List.append_assoc (le (e.z.trans.length:Int) 2),←List.append_assoc (le (e.z.az.length:Int) 1)];simp only [Ha,pT_fwd e.name _ (by omega),UD e.z.cal h.cal,Nc e.z.start _ (by omega) (by omega),qV iQ 2 e.z.trans _ (Dq _ (by omega) (by omega) _) (fun z hz R=>XJ z (h5.1 z hz) R),kG _ 8 _ (O6 e.z.hor (by unfold fits;omega) _),qV jQ 1 e.z.az _ (iG _ (by omega) (by omega) _) (fun z hz R=>XL z (h5.2 z hz) R),Option.bind_some,Option.map_some]
theorem G9 (t:Tb) (h:TbG t) (R:List UInt8):Eb (pU t++R)=some ({t with bJ:=aS},R):=by
 have h1:=h.bC;have h2:=h.version;have h3:=h.aH;have h4:=h.num;have h5:pD (t.prev++((le (t.aK.length:Int) 1++KF t.aK)++R))=some (t.prev,(le (t.aK.length:Int) 1++KF t.aK)++R):=by
  unfold pD;rw [if_pos (by rw [bF,h.prev];omega),←h.prev,List.take_append_of_le_length (Nat.le_refl _),List.take_of_length_le (Nat.le_refl _),List.drop_append_of_le_length (Nat.le_refl _),List.drop_of_length_le (Nat.le_refl _)];rfl
 unfold pU;simp only [List.append_assoc];rw [←List.append_assoc (le (t.aK.length:Int) 1)];simp only [Eb,kG _ 1 _ (iG t.bC (by omega) (by omega) _),kG _ 1 _ (iG t.version (by omega) (by omega) _),kG _ 1 _ (iG t.aH (by omega) (by omega) _),h5,Option.bind_some];unfold KF;simp only [qV Vq 1 t.aK R (iG _ (by omega) (by omega) _) (fun z hz R=>XN z (h.good z hz).1 (h.short z hz) R),Option.map_some]
theorem Fe {t:Tb} (h:TbG t) {k:Nat} (hk:k<(pU t).length):uf ((pU t).take k)=none:=by
 refine yO fun t2 h2=>?_;have h3:=XH _ _ _ ((pU t).drop k) h2;rw [List.take_append_drop] at h3;have h4:=G9 t h [];rw [List.append_nil] at h4;rw [h4] at h3;injection h3 with h3;injection h3 with _ h3;have h5:((pU t).drop k).length=0:=by rw [←List.nil_append ((pU t).drop k),←h3];rfl
 rw [List.length_drop] at h5;omega
theorem Jc {t:Tb} (h:TbG t) (x:UInt8):uf (pU t++ [x])=none:=by
 refine yO fun t2 h2=>?_;rw [G9 t h [x]] at h2;injection h2 with h2;injection h2 with _ h2;cases h2
theorem IB.good {t:Tb} (h:IB t) (hp:t.prev.length=32) (hm:t.bJ.length=32):TbG t where
 bC:=⟨h.bC.1,by have:=h.bC.2;omega⟩
 version:=h.version
 aH:=h.aH
 prev:=hp
 bJ:=hm
 first:=h.first
 num:=by have:=h.num;omega
 good:=fun e he=>⟨(h.aK e he).made,(h.aK e he).ok⟩
 short:=fun e he=>by
  obtain ⟨k,hk⟩:=List.getElem?_of_mem he;rw [h.names k e hk,sF];omega
theorem IB.up {t:Tb} (h:IB t) {zs:List dA} (hz:t.aK=zs.map (·.e)):rF zs:=by
 intro k x hx;have hk:=(iP.1 hx).1;have hn:=h.num;rw [hz,List.length_map] at hn;have h1:∀j y,zs[j]? =some y→y.e.name=aU j:=fun j y hy=>h.names j y.e (by rw [hz,List.getElem?_map,hy];rfl);have hl:iF zs k=xM k:=by
  cases k with
  |zero=>rfl
  |succ k=>
   show (zs[k]?.map (·.e.name)).getD ⟨#[]⟩=aU k;rw [dK (by omega)];exact h1 k _ (dK (by omega))
 rw [h1 k x hx,hl];exact KC k (by omega)
end Go.Proofs.YtdibbemgpikgjaaGreat
