/- The texts Jp, Uh, Ui, Vj, in this order. -/
import Derived.Test.YtbaehbbonkljpaaGreatR00
import Derived.Test.YtbaehbbonkljpaaGreatR18
import Derived.Test.YtbaehbbonkljpaaGreatR19
import Derived.Test.YtbaehbbonkljpaaGreatR24
set_option maxRecDepth 10000
set_option maxHeartbeats 8000000
namespace Go.Proofs.YtbaehbbonkljpaaGreat
open Go Go.RowKit
attribute [local go_sem] kL kQ kM kR nZ og kJ kN kK kP
structure TbY (t:Tb):Prop where
 bV:0≤t.bV∧t.bV<16
 version:1≤t.version∧t.version≤64
 aO:0≤t.aO∧t.aO<t.version
 prev:t.prev.length=32
 dQ:t.dQ.length=32
 num:t.aG.length≤128
 good:∀e∈t.aG,yR e.z
 short:∀e∈t.aG,e.name.size≤32
theorem zvF_0 {z:Zn} (h:uA z=0):yR z:=by
 unfold uA at h;split at h
 ·omega
 ·split at h
  ·rename_i h2;exact (FD z).1 h2
  ·omega
theorem ND:∀(es:List Ze) (last:ByteArray),dY last es=0→∀e∈es,yR e.z∧e.name.size≤32
 | [],_,_,_,h=>nomatch h
 |x::es,last,h,e,he=>by
  rw [nX] at h;split at h
  ·omega
  ·rename_i h1;split at h
   ·rename_i h2;rcases List.mem_cons.1 he with rfl|he
    ·exact ⟨zvF_0 h2,by omega⟩
    ·exact ND es _ h e he
   ·rename_i h2;exact absurd h h2
theorem BI {t:Tb} (h:pM t=0) (hp:t.prev.length=32) (hm:t.dQ.length=32):TbY t:=by
 unfold pM at h;split at h
 ·omega
 ·rename_i h1;split at h
  ·omega
  ·rename_i h2;split at h
   ·omega
   ·unfold VE at h1;unfold VF at h2;simp only [decide_eq_true_eq] at h1 h2;have h3:=ND _ _ h;exact ⟨by omega,by omega,by omega,hp,hm,by omega,fun e he=>(h3 e he).1,fun e he=>(h3 e he).2⟩
theorem JC (zs:List Ze) (h:∀e∈zs,yR e.z∧e.name.size≤32):(JS zs).length≤zs.length*5400:=by
 induction zs with
 |nil=>exact Nat.zero_le _
 |cons x zs ih=>
  have h1:=ih fun e he=>h e (List.mem_cons_of_mem _ he);have h2:=U6 (h x List.mem_cons_self).1 (h x List.mem_cons_self).2;unfold JS at h1 ⊢;rw [List.flatMap_cons,bH,List.length_cons];omega
theorem wQ (t:Tb) (h:TbY t):36≤(xe t).length∧(xe t).length≤700000:=by
 have h1:=JC t.aG fun e he=>⟨h.good e he,h.short e he⟩;have h2:=h.num;have h3:=h.prev;simp only [xe,bH,aC];omega
theorem yR.len {z:Zn} (h:yR z):ni z:=by
 have h1:=h.cal.ml;have h2:=h.cal.rl;have h3:=h.Oq;have h4:=h.yr.len;exact ⟨by omega,by omega,by omega,by omega⟩
theorem Gl (w:World) (g lb lo zg zo n c:Nat) (zs:List dB) (v:Value) (bs:List UInt8) (hn:zs.length=n) (hn2:n≤128) (hp:w.cell? ⟨lb,lo,none⟩=some (.slice (some ⟨zg,zo,none⟩) n c)) (SL:lb<g) (hzg:zg<g)
  (hcl:∀j u,(aV zs)[j]? =some u→w.cell? ⟨zg,zo+j,none⟩=some u) (hfz:∀j,w.frozen? ⟨zg,zo+j,none⟩=false) (hfl:∀x∈zs,yR x.e.z∧x.e.name.size≤32) (hI:∀x∈zs,jy w g x.s x.e.z)
  (hl:bs.length≤1000000) (hst:gQ w g v bs):
  Calls Tryz.prog 47 #[.iface 73 (pt g), .pointer (some ⟨lb,lo,none⟩),I 1, .func (.func 48) #[] #[]] w (iQ w g v (bs++(le n 1++JS (zs.map (·.e))))):=by
 have HC:=ae (jG w.drew g v bs n 1 (by omega) (by omega) (by omega) (by omega) hst.drew);have HST:=ae hst;have HN:=ae hn;have HF:=ae hfl;have jb:=ae hcl;have HFZ:=ae hfz;have HI:=ae hI;have HP:=ae hp;have hgl:=hst.lt;clear hst hn hfl hcl hfz hI;go_enter Tryz.func47,Tryz.ntmps47;go_wp2_with fail;go_still_tail 9,(by kernel_rfl);go_wp2_with fail;refine HC.out.mono ?_;rintro e w1 ⟨rfl,v1,hs1,hk1⟩;have mr:=ae hs1;have jX:=ae (aT hk1);clear hs1 hk1 HC hp;go_wp2_with fail
 go_loopw [22] (fun i wr=>WyRel w g v bs n (zs.map (·.e)) i wr) (fun i _=>n - (intOf i).toNat)
 case atStart=>exact ⟨0,Nat.zero_le _,rfl,v1,by simpa [JS] using mr.out,jX.out⟩
 case round=>
  obtain ⟨k,hk,rfl,v2,hs2,hk2⟩:=hrel;have hb2:=di HST.out hk2;have HB2:=ae hb2;have HS2:=ae hs2;have jI:=ae hk2;have hp2:wr.cell? ⟨lb,lo,none⟩=some (.slice (some ⟨zg,zo,none⟩) n c):=(hb2.cell (p:=⟨lb,lo,none⟩) SL).trans HP.out;clear hs2 hk2 hb2 mr jX;by_cases hlt:k<n
  ·have hkz:k<zs.length:=by rw [HN.out];exact hlt
   obtain ⟨x,hx⟩:∃x,zs[k]? =some x:=⟨_,bZ hkz⟩;have hxm:=gU hx;have hlen:(bs++(le (n:Int) 1++JS ((zs.map (·.e)).take k))).length≤9000000:=by
    have h1:=JC ((zs.map (·.e)).take k) fun e he=>by
     obtain ⟨y,hy,rfl⟩:=List.mem_map.1 (List.mem_of_mem_take he);exact HF.out y hy
    have h2:((zs.map (·.e)).take k).length≤128:=by rw [List.length_take,List.length_map,HN.out];omega
    simp only [bH,aC];omega
   have HM:=ae (UN wr g zg (zo+k*9) x v2 _ (HF.out x hxm).1 (HF.out x hxm).2 (az.elem (w:=wr) (s:=9) (f:=fun x:dB=>x.cells.toList) (fun _ _=>rfl) (fun j u hu=>(HB2.out.cell (p:=⟨zg,zo+j,none⟩) hzg).trans (jb.out j u hu)) k x hx) (by
    have hf:=(HB2.out.frozen (p:=⟨zg,zo+(k*9+3),none⟩) hzg).trans (HFZ.out (k*9+3));rw [show zo+k*9+1+2=zo+(k*9+3) by omega];exact hf) hzg ((HI.out x hxm).keep HB2.out) hlen HS2.out)
   have HX:=ae hx;have i0:(0:Int)≤(k:Int):=by omega
   have i1:(k:Int)<(n:Int):=by omega
   have i2:((k:Int)==(n:Int))=false:=by simp;omega
   clear hkz hx hlen hxm;go_wp2_with fail;refine HM.out.mono ?_;rintro e w3 ⟨rfl,v3,hs3,hk3⟩;have qx:=ae hs3;have nG:=ae (jI.out.trans hk3);clear hs3 hk3 hp2;go_wp2_with fail;go_roundw
   case rel=>exact ⟨k+1,by omega,by go_num,v3,by rw [jR (zs.map (·.e)) k x.e (by rw [List.getElem?_map,HX.out];rfl),Vd,←List.append_assoc (le _ _),←List.append_assoc];exact qx.out,nG.out⟩
   case measure=>simp [intOf];omega
  ·have hkn:k=n:=by omega
   have nH:=ae hkn;clear hkn;go_wp2_with fail
   go_end0
   exact ⟨rfl,v2,by have h:=HS2.out;rwa [nH.out,List.take_of_length_le (by rw [List.length_map,HN.out];exact Nat.le_refl _)] at h,jI.out⟩
theorem Jw (w:World) (g lb lo n c:Nat) (A:Option Addr) (zs:List dB) (v:Value) (bs:List UInt8) (hn:zs.length=n) (hn2:n≤128) (hp:w.cell? ⟨lb,lo,none⟩=some (.slice A n c)) (SL:lb<g) (hz:DY g w A zs) (hfl:∀x∈zs,yR x.e.z∧x.e.name.size≤32)
  (hl:bs.length≤1000000) (hst:gQ w g v bs):
  Calls Tryz.prog 47 #[.iface 73 (pt g), .pointer (some ⟨lb,lo,none⟩),I 1, .func (.func 48) #[] #[]] w (iQ w g v (bs++(le n 1++JS (zs.map (·.e))))):=by
 by_cases h0:n=0
 ·subst h0;have:=Gj w g lb lo A c v bs hp (by omega) hst;rw [List.eq_nil_of_length_eq_zero hn];simpa [JS] using this
 ·rcases hz.row with h|⟨zg,zo,rfl,h2,h3,h4⟩
  ·omega
  ·exact Gl w g lb lo zg zo n c zs v bs hn hn2 hp SL h2 h3 h4 hfl hz.each hl hst
attribute [local go_sem] iY iZ ja bC
theorem UQ (w:World) (g tb n c:Nat) (t:Tb) (A:Option Addr) (zs:List dB) (v:Value) (h:TbY t) (hzz:t.aG=zs.map (·.e)) (hn:zs.length=n) (htb:tb<g) (hr:Row w tb (ah t (.slice A n c))) (hz:DY g w A zs) (hst:gQ w g v []):
  Calls Tryz.prog 26 #[.iface 73 (pt g), .pointer (some ⟨tb,0,none⟩)] w (iQ w g v (xe t)):=by
 have hgl:=hst.lt;have c0:=hr.2 0;have c1:w.cell? ⟨tb,1,none⟩=some (I t.version):=(hr.2 1).trans (iZ _ _);have c2:w.cell? ⟨tb,2,none⟩=some (I t.aO):=(hr.2 2).trans (ja _ _);have c3:w.cell? ⟨tb,3,none⟩=some (.slice A n c):=(hr.2 3).trans (bC _ _);have hn2:n≤128:=by have:=h.num;rw [hzz,List.length_map] at this;omega
 have q1:=h.bV;have q2:=h.version;have q3:=h.aO;have mZ:=ae (dC w.drew g ⟨tb,0,none⟩ v [] t.bV 1 (by omega) (by omega) (by omega) (by decide) hst.lt hst.drew (c0.trans (iY _ _)));have V6:=ae (qP t (.slice A n c) hr);have HST:=ae hst;have HF:=ae h;have HZ:=ae hz;have HZZ:=ae hzz;have HN:=ae hn;have VQ:Hid (∀j u,Below g w u→u.cell? ⟨tb,j,none⟩=w.cell? ⟨tb,j,none⟩):=ae fun j u hb=>hb.cell (p:=⟨tb,j,none⟩) htb;have HFL:Hid (∀x∈zs,yR x.e.z∧x.e.name.size≤32):=ae fun x hx=>by
  have hm:x.e∈t.aG:=by rw [hzz];exact List.mem_map_of_mem hx
  exact ⟨h.good _ hm,h.short _ hm⟩
 clear h hr hst hz hzz hn c0;go_enter Tryz.func26,Tryz.ntmps26;go_wp2_with fail;go_still_tail 7,(by kernel_rfl);go_wp2_with fail;refine mZ.out.mono ?_;rintro e w1 ⟨rfl,v1,hs1,hk1⟩;obtain ⟨B1,hB1⟩:∃B,[]++le t.bV 1=B:=⟨_,rfl⟩;have hl1:B1.length≤1:=by rw [←hB1];simp [aC]
 rw [hB1] at hs1;have hb1:=di HST.out (aT hk1);have HB1:=ae hb1;have mr:=ae hs1;have jX:=ae (aT hk1);have iM:=ae hB1;have HC2:=ae (dC w1.drew g ⟨tb,1,none⟩ v1 B1 t.version 1 (by omega) (by omega) (by omega) (by omega) hs1.lt hs1.drew ((VQ.out _ _ hb1).trans c1));clear hs1 hk1 hb1 mZ hB1 c1;go_wp2_with fail;go_still_tail 7,(by kernel_rfl);go_wp2_with fail;refine HC2.out.mono ?_;rintro e w2 ⟨rfl,v2,hs2,hk2⟩;obtain ⟨B2,hB2⟩:∃B,B1++le t.version 1=B:=⟨_,rfl⟩;have hl2:B2.length≤2:=by rw [←hB2,bH,aC];omega
 rw [hB2] at hs2;have hb2:=HB1.out.trans (di mr.out (aT hk2));have HB2:=ae hb2;have HS2:=ae hs2;have jI:=ae (jX.out.trans (aT hk2));have iH:=ae hB2;have yO:=ae (dC w2.drew g ⟨tb,2,none⟩ v2 B2 t.aO 1 (by omega) (by omega) (by omega) (by omega) hs2.lt hs2.drew ((VQ.out _ _ hb2).trans c2));clear hs2 hk2 hb2 HC2 hB2 c2;go_wp2_with fail;go_still_tail 7,(by kernel_rfl);go_wp2_with fail;refine yO.out.mono ?_;rintro e w3 ⟨rfl,v3,hs3,hk3⟩;obtain ⟨B3,hB3⟩:∃B,B2++le t.aO 1=B:=⟨_,rfl⟩;have hl3:B3.length≤3:=by rw [←hB3,bH,aC];omega
 rw [hB3] at hs3;have hb3:=HB2.out.trans (di HS2.out (aT hk3));have HB3:=ae hb3;have qx:=ae hs3;have nG:=ae (jI.out.trans (aT hk3));have vT:=ae hB3;have zl:=ae (Jh w3.drew g tb 4 v3 B3 t.prev (by omega) (fun j u hu=>(VQ.out _ _ hb3).trans (V6.out j u hu)) HF.out.prev hs3.drew);clear hs3 hk3 hb3 yO hB3;go_wp2_with fail;go_still_tail 7,(by kernel_rfl);go_wp2_with fail;refine zl.out.mono ?_;rintro e w4 ⟨rfl,v4,hs4,hk4⟩;obtain ⟨B4,hB4⟩:∃B,B3++t.prev=B:=⟨_,rfl⟩;have hl4:B4.length≤35:=by rw [←hB4,bH,HF.out.prev];omega
 rw [hB4] at hs4;have hb4:=HB3.out.trans (di qx.out (aT hk4));have CP:=ae hs4;have Vl:=ae (nG.out.trans (aT hk4));have DK:=ae hB4;have QN:=ae (Jw w4 g tb 3 n c A zs v4 B4 HN.out hn2 ((VQ.out _ _ hb4).trans c3) htb (HZ.out.keep hb4) HFL.out (by omega) hs4);clear hs4 hk4 hb4 zl hB4 c3;go_wp2_with fail;refine QN.out.mono ?_;rintro e w5 ⟨rfl,v5,hs5,hk5⟩;have Gv:=ae hs5;have Ce:=ae (Vl.out.trans hk5);clear hs5 hk5 QN;go_wp2_with fail
 go_end0
 refine ⟨rfl,v5,?_,Ce.out⟩;have hh:=Gv.out;rw [←DK.out,←vT.out,←iH.out,←iM.out] at hh;unfold xe;rw [HZZ.out,List.length_map,HN.out];simpa only [List.append_assoc,List.nil_append] using hh
theorem sZ (t:Tb) (A:Option Addr) (n c:Nat) (zs:List dB) (w:World) (h:TbY t) (hzz:t.aG=zs.map (·.e)) (hn:zs.length=n) (hA:kH w w.heap.size A zs) (hv:pM t=0):
  Calls Tryz.prog 8 #[.agg (ah t (.slice A n c))] w (Rn w (xe t)):=by
 have HR0:=ae (Row.new w (ah t (.slice A n c)) 39);have HB0:=ae (ag w (.cells (ah t (.slice A n c)) 39));have HH0:=ae (heap_alloc_last w (.cells (ah t (.slice A n c)) 39));have fG:Hid (∀v,(Tryz.prog.info? 39).map (·.size)=some (ah t v).size):=ae fun v=>bG t v h.prev h.dQ;have OL:Hid (∀u v,(ah t u).size=(ah t v).size):=ae fun u v=>by rw [bF _ _ h.prev h.dQ,bF _ _ h.prev h.dQ]
 have HV:Hid (∀W,Below w.heap.size w W→Calls Tryz.prog 17 #[.agg (ah t (.slice A n c))] W (Gives (I 0) W)):=ae fun W hb=>
  by have h9:=tu t A n c zs W h.prev hzz hn (hA.grow hb);rw [hv] at h9;exact h9
 have jb:Hid (∀W,Below w.heap.size w W→Calls Tryz.prog 25 #[.agg (ah t (.slice A n c))] W (ClV W ⟨t,A,c,zs⟩)):=ae fun W hb=>by
  have h2:zs.length≤128:=by have:=h.num;rw [hzz,List.length_map] at this;exact this
  exact Aq ⟨t,A,c,zs⟩ n W hn (by omega) (fun y hy=>(h.good _ (by rw [hzz];exact List.mem_map_of_mem hy)).len) ⟨hzz,h.prev,h.dQ,hA.grow hb⟩
 have HF:=ae h;have HZZ:=ae hzz;have HN:=ae hn;clear h hzz hn hA hv;go_enter Tryz.func8,Tryz.ntmps8;go_wp2_with (with_reducible refine fU 39 ?_;refine aX rfl _ _ rfl w.heap.size rfl (ah t (.slice A n c)) HR0.out _ Tryz.underlying39 rfl (fG.out _) ?_);refine (HV.out _ HB0.out).mono ?_;rintro e w1 ⟨rfl,hb1⟩;have HR1:=ae (HR0.out.keep hb1);have HB1:=ae (ai HB0.out hb1);have HH1:Hid (w1.heap[w.heap.size]? =some (.cells (ah t (.slice A n c)) 39 (0,0))):=ae ((hb1.block _ (by simp)).trans HH0.out);clear hb1 HR0 HB0 HH0 HV;go_wp2_with (with_reducible refine fU 39 ?_;refine aX rfl _ _ rfl w.heap.size rfl (ah t (.slice A n c)) HR1.out _ Tryz.underlying39 rfl (fG.out _) ?_);refine (jb.out _ HB1.out).mono ?_;rintro e w2 ⟨⟨t2,A2,c2,zs2⟩,ht2,he2,rfl,hO2,hb2⟩;have ht3:t=t2:=ht2.symm;subst ht3;have he2:zs2.map (·.e)=zs.map (·.e):=he2;have rF:=ae (show xx w1.heap.size w2 A2 zs2 from hO2.aG);have hy2:zs2.length=n:=by have:=congrArg List.length he2;simpa [HN.out] using this
 have HE2:=ae he2;have HH2:Hid (w2.heap[w.heap.size]? =some (.cells (ah t (.slice A n c)) 39 (0,0))):=ae ((hb2.block _ HR1.out.1).trans HH1.out);have HB2:=ae (ai HB1.out hb2);have hl1:w.heap.size<w1.heap.size:=HR1.out.1;dsimp only;rw [hy2];clear hO2 he2 hb2 jb;go_wp2_with (with_reducible refine dF 39 ?_;refine wpList_store_row rfl _ _ _ rfl w.heap.size (ah t (.slice A2 n c2)) rfl rfl 39 (ah t (.slice A n c)) HH2.out (fG.out _) (OL.out _ _) (aW _ _ _ _) ?_);have hw3:(w2.setRow w.heap.size (ah t (.slice A2 n c2))).heap[w.heap.size]? =some (.cells (ah t (.slice A2 n c2)) 39 (0,0)):=setRow_heap _ _ _ _ _ _ HH2.out;have hs3:(w2.setRow w.heap.size (ah t (.slice A2 n c2))).heap.size=w2.heap.size:=by simp [World.setRow]
 have hb3:Below w.heap.size w (w2.setRow w.heap.size (ah t (.slice A2 n c2))):=below_setRow HB2.out (Nat.le_refl _) _;have hz3:xx (w.heap.size+1) (w2.setRow w.heap.size (ah t (.slice A2 n c2))) A2 zs2:=
  (rF.out.lower (by omega)).aQ (by rw [hs3];exact Nat.le_refl _) fun k hk _=>setRow_other _ _ k _ (by omega)
 generalize w2.setRow w.heap.size (ah t (.slice A2 n c2))=w3 at hw3 hs3 hb3 hz3 ⊢;rw [←hs3];have hba:=ag w3 (.cells #[.slice none 0 0] 75);have hst:gQ (w3.alloc (.cells #[.slice none 0 0] 75)) w3.heap.size (.slice none 0 0) []:=⟨heap_alloc_last w3 _,World.ownsRow_nil _ _ _ _⟩;have hl3:w.heap.size<w3.heap.size:=(bK.1 hw3).1;refine (UQ (w3.alloc (.cells #[.slice none 0 0] 75)) w3.heap.size w.heap.size n c2 t A2 zs2 (.slice none 0 0) HF.out (by rw [HE2.out];exact HZZ.out) hy2 hl3 ⟨by simp;omega,fun i=>(hba.cell (p:=⟨w.heap.size,i,none⟩) hl3).trans (cell_of_row w3 _ i _ _ _ hw3)⟩ (hz3.low.keep hba) hst).mono ?_;rintro e w4 ⟨rfl,v4,hs4,hk4⟩;have hb4:Below w.heap.size w w4:=(ai hb3 hba).trans ((di hst hk4).mono (by omega));have hc4:w4.cell? ⟨w3.heap.size,0,none⟩=some v4:=cell_of_row w4 _ 0 _ _ _ hs4.1;have hlen:=wQ t HF.out;obtain ⟨g4,c4,rfl,hg4⟩:=fM hs4.2 (by omega);have HB4:=ae hb4;have zS:=ae (aK hs4.2 (base':=w.heap.size) (by omega));clear hw3 hs3 hb3 hz3 hba hst hs4 hk4 hb4 hlen hg4;go_wp2_with fail;go_ret2;exact ⟨⟨g4,c4,rfl,zS.out⟩,HB4.out⟩
theorem Dn (t:Tb) (A:Option Addr) (n c:Nat) (zs:List dB) (w:World) (hp:t.prev.length=32) (hm:t.dQ.length=32) (hzz:t.aG=zs.map (·.e)) (hn:zs.length=n) (hA:kH w w.heap.size A zs) (hv:pM t≠0):
  Calls Tryz.prog 8 #[.agg (ah t (.slice A n c))] w (Gives (.tuple #[.slice none 0 0,I (pM t)]) w):=by
 have HR0:=ae (Row.new w (ah t (.slice A n c)) 39);have HB0:=ae (ag w (.cells (ah t (.slice A n c)) 39));have fG:Hid (∀v,(Tryz.prog.info? 39).map (·.size)=some (ah t v).size):=ae fun v=>bG t v hp hm;have HV:Hid (∀W,Below w.heap.size w W→Calls Tryz.prog 17 #[.agg (ah t (.slice A n c))] W (Gives (I (pM t)) W)):=ae fun W hb=>tu t A n c zs W hp hzz hn (hA.grow hb);obtain ⟨v,hvv⟩:∃v,pM t=v:=⟨_,rfl⟩;rw [hvv] at HV hv ⊢;have hv1:(v !=0)=true:=by simp [hv]
 clear hp hm hzz hn hA hvv;go_enter Tryz.func8,Tryz.ntmps8;go_wp2_with (with_reducible refine fU 39 ?_;refine aX rfl _ _ rfl w.heap.size rfl (ah t (.slice A n c)) HR0.out _ Tryz.underlying39 rfl (fG.out _) ?_);refine (HV.out _ HB0.out).mono ?_;rintro e w1 ⟨rfl,hb1⟩;have HB1:=ae (ai HB0.out hb1);clear hb1;go_wp2_with fail;go_ret2;exact ⟨rfl,HB1.out⟩
def TbAny (w:World) (t:Tb) (e:Ending) (w':World):Prop:=
 (pM t=0∧Rn w (xe t) e w')∨(pM t≠0∧Gives (.tuple #[.slice none 0 0,I (pM t)]) w e w')
theorem BC (t:Tb) (A:Option Addr) (n c:Nat) (zs:List dB) (w:World) (hp:t.prev.length=32) (hm:t.dQ.length=32) (hzz:t.aG=zs.map (·.e)) (hn:zs.length=n) (hA:kH w w.heap.size A zs):
  Calls Tryz.prog 8 #[.agg (ah t (.slice A n c))] w (TbAny w t):=by
 by_cases hv:pM t=0
 ·exact (sZ t A n c zs w (BI hv hp hm) hzz hn hA hv).mono fun e w' h=> .inl ⟨hv,h⟩
 ·exact (Dn t A n c zs w hp hm hzz hn hA hv).mono fun e w' h=> .inr ⟨hv,h⟩
end Go.Proofs.YtbaehbbonkljpaaGreat
namespace Go.Proofs.YtbaehbbonkljpaaGreat
open Go Go.RowKit
attribute [local go_sem] dI dM dJ dN fJ fK dG dK dH dL jc jd
def mV (B:List UInt8):Option Tb:=
 match FI B with
 |some (t,[])=>if pM t=0∧xe t=B then some t else none
 |_=>none
theorem Hw {B:List UInt8} {t:Tb} (h:FI B=some (t,[])) (h1:pM t=0) (h2:xe t=B):mV B=some t:=by
 unfold mV;rw [h];simp only;rw [if_pos ⟨h1,h2⟩]
theorem Nw {B:List UInt8} {t:Tb} (h:FI B=some (t,[])) (h1:¬(pM t=0∧xe t=B)):mV B=none:=by
 unfold mV;rw [h];simp only;rw [if_neg h1]
theorem DZ {B:List UInt8} (h:∀t,FI B≠some (t,[])):mV B=none:=by
 unfold mV;split
 ·rename_i t he;exact absurd he (h t)
 ·rfl
theorem Rq {B:List UInt8} {t:Tb} (h:mV B=some t):FI B=some (t,[])∧pM t=0∧xe t=B:=by
 unfold mV at h;split at h
 ·rename_i t2 he;split at h
  ·rename_i h2;injection h with h;rw [←h];exact ⟨he,h2⟩
  ·cases h
 ·cases h
def Ri (w:World) (B:List UInt8) (e:Ending) (w':World):Prop:=
 (∃t A c ys,mV B=some t∧e= .returned (.tuple #[.agg (ah t (.slice A t.aG.length c)),I 0])∧Hu w.heap.size w' (.slice A t.aG.length c) ys∧ys.map (·.e)=t.aG∧Below w.heap.size w w')∨
 (mV B=none∧e= .returned (.tuple #[.agg (ah bz (.slice none 0 0)),I 3])∧Below w.heap.size w w')
theorem eF:(Tryz.prog.info? 39).map (fun i=>(i.zero,i.size))=some (some (.agg (ah bz (.slice none 0 0))),(ah bz (.slice none 0 0)).size):=by kernel_rfl
theorem pI (w:World) (B:List UInt8) (A0:Option Addr) (N c:Nat) (hN:B.length=N) (hc1:N≤c) (hc2:c≤9223372036854775807) (hA:BytesAt w w.heap.size A0 B):
  Calls Tryz.prog 10 #[.slice A0 N c] w (Ri w B):=by
 have QC:Hid ((Tryz.prog.info? 39).map (·.size)=some (ah bz (.slice none 0 0)).size):=ae (bG bz _ rfl rfl);have Vp:=ae hN;have HBA:=ae hA;have xm:=ae (AV.new w (ah bz (.slice none 0 0)) 39);have HB0:=ae (ag w (.cells (ah bz (.slice none 0 0)) 39));have HC:=ae (fun (W:World) (hb:Below w.heap.size w W)=>P8 W B A0 N c hN hc1 hc2 ((hA.keep hb).more hb.size));clear hN hA;go_enter Tryz.func10,Tryz.ntmps10;go_upto_region 1 with ((with_reducible refine bf 39 ?_);go_must (refine aI rfl _ rfl (ah bz (.slice none 0 0)) eF ?_));go_wp2_with fail;refine (HC.out _ HB0.out).mono ?_;intro e w2 h;rcases h with ⟨t,A,cz,ys,hpt,rfl,hz2,he2,hb2⟩|⟨hpt,C,hCs,hCo,rfl,hb2⟩
 ·obtain ⟨hpr,Pn⟩:=Bi hpt;have hml:t.dQ.length=32:=by rw [Pn];rfl
  have fG:Hid (∀v,(Tryz.prog.info? 39).map (·.size)=some (ah t v).size):=ae fun v=>bG _ v hpr hml;have xk:Hid (∀v,(ah bz (.slice none 0 0)).size=(ah t v).size):=ae fun v=>by exact (bF bz _ rfl rfl).trans (bF t v hpr hml).symm
  have HPT:=ae hpt;have HR2:=ae (xm.out.below hb2);have HB2:=ae (ai HB0.out hb2);obtain ⟨n,hn⟩:∃n,t.aG.length=n:=⟨_,rfl⟩;rw [hn] at hz2 ⊢;have HZ2:=ae hz2;have HE2:=ae he2;have HN:=ae hn;have hyl:ys.length=n:=by have:=congrArg List.length he2;simpa [hn] using this
  have DN:=ae (fun (W:World) (hb:Below w2.heap.size w2 W)=>BC t A n cz ys W hpr hml he2.symm hyl (hz2.below hb).zes);have hl2:w.heap.size<w2.heap.size:=HR2.out.lt;clear hz2 he2 hb2 HC HB0 xm hn hyl hpt hpr hml Pn;go_wp2_with (first
   |(with_reducible refine bf 39 ?_;refine dn rfl _ rfl (ah bz (.slice none 0 0)) uz ?_)
   |(with_reducible refine dF 39 ?_;refine fP rfl _ _ _ rfl (ah t (.slice A n cz)) rfl rfl 39 (ah bz (.slice none 0 0)) rfl (fG.out _) (xk.out _) (aW _ _ _ _) ?_;intro W3 hb3 hl3 hr3;have HB3:=ae hb3;have HR3:=ae hr3;have HZ3:=ae (HZ2.out.below hb3);have ng:=ae (HR2.out.below hb3);clear hb3 hr3)
   |(with_reducible refine fU 39 ?_;refine aX rfl _ _ rfl w2.heap.size rfl (ah t (.slice A n cz)) HR3.out _ Tryz.underlying39 rfl (fG.out _) ?_))
  refine (DN.out W3 HB3.out).mono ?_;rintro e w4 (⟨hv0,⟨g4,c4,rfl,SS⟩,hb4⟩|⟨hv0,rfl,hb4⟩)
  ·have hb3w:=HB2.out.trans (HB3.out.mono (by omega));have hb4w:=hb3w.trans (hb4.mono (by omega));have HB4:=ae hb4w;have HR4:Hid (Row w4 w2.heap.size (ah t (.slice A n cz))):=ae (HR3.out.keep hb4);have JL:Hid (Hu (w.heap.size+1) w4 (.slice A n cz) ys):=ae ((HZ3.out.below hb4).lower (by simp));have uF:=ae (ng.out.below hb4);have h1:BytesAt w4 w4.heap.size (some ⟨g4,0,none⟩) (xe t):=by
    obtain ⟨A',c',hv,_,_,_,hy⟩:=xY (bs:=xe t) SS;injection hv with e1 e2 e3;subst e1;exact hy
   have h2:BytesAt w4 w.heap.size A0 B:=HBA.out.keep hb4w;have uB:=ae (Ag w4 (some ⟨g4,0,none⟩) A0 (xe t) B c4 c _ _ h1 h2);rw [Vp.out] at uB;obtain ⟨M,hM⟩:∃M,(xe t).length=M:=⟨_,rfl⟩;rw [hM] at uB ⊢;obtain ⟨eq,heq⟩:∃b,decide (xe t=B)=b:=⟨_,rfl⟩;have hbe:(xe t==B)=eq:=by rw [←heq];by_cases h:xe t=B<;>simp [h]
   rw [hbe] at uB;have HEB:=ae heq;have HV0':=ae hv0;clear SS hb4 hb3w hb4w h1 h2 HB3 HR3 HZ3 HR2 HZ2 HB2 DN ng hM heq hv0 hbe;go_wp2_with fail;refine uB.out.mono ?_;rintro e w5 ⟨rfl,rfl⟩;cases eq with
   |true=>
    go_wp2_with (first
     |(with_reducible refine fU 39 ?_;refine aX rfl _ _ rfl w2.heap.size rfl (ah t (.slice A n cz)) HR4.out _ Tryz.underlying39 rfl (fG.out _) ?_)
     |(with_reducible refine dF 39 ?_;refine wpList_store_row rfl _ _ _ rfl w.heap.size (ah t (.slice A n cz)) rfl rfl 39 (ah bz (.slice none 0 0)) uF.out.var (fG.out _) (xk.out _) (aW _ _ _ _) ?_))
    refine bodyPost_ret (v:= .tuple #[.agg (ah t (.slice A n cz)),I 0]) (aZ rfl _ _ w.heap.size _ (ah t (.slice A n cz)) (0,0) _ rfl (setRow_heap _ _ _ _ _ _ uF.out.var) Tryz.underlying39 rfl (fG.out _) _ rfl) rfl ?_;refine .inl ⟨t,A,cz,ys,Hw HPT.out HV0'.out (of_decide_eq_true HEB.out),by rw [HN.out],?_,HE2.out,aB HB4.out (Nat.le_refl _) _⟩;rw [HN.out];refine (JL.out.aQ ?_ fun k h1 h2=>setRow_other _ _ k _ (by omega)).lower (by omega);simp [World.setRow]
   |false=>
    have YE:Hid (mV B=none):=ae (Nw HPT.out fun h=>absurd h.2 (of_decide_eq_false HEB.out));go_wp2_with (first
     |((with_reducible refine eu 39 ?_);go_must (refine bn rfl _ rfl (ah bz (.slice none 0 0)) (by kernel_rfl) ?_))
     |((with_reducible refine dS 39 ?_);go_must (refine wpList_store_row rfl _ _ _ rfl w.heap.size (ah bz (.slice none 0 0)) rfl rfl 39 (ah bz (.slice none 0 0)) uF.out.var QC.out rfl (aW _ _ _ _) ?_)))
    refine bodyPost_ret (v:= .tuple #[.agg (ah bz (.slice none 0 0)),I 3]) (aZ rfl _ _ w.heap.size _ (ah bz (.slice none 0 0)) (0,0) _ rfl (setRow_heap _ _ _ _ _ _ uF.out.var) Tryz.underlying39 rfl QC.out _ rfl) rfl ?_;exact .inr ⟨YE.out,rfl,aB HB4.out (Nat.le_refl _) _⟩
  ·have HB4:=ae ((HB2.out.trans (HB3.out.mono (by omega))).trans (hb4.mono (by omega)));have uF:=ae (ng.out.below hb4);have YE:Hid (mV B=none):=ae (Nw HPT.out fun h=>hv0 h.1);obtain ⟨v,hv⟩:∃v,pM t=v:=⟨_,rfl⟩;rw [hv] at hv0 ⊢;have hv1:(v !=0)=true:=by simp [hv0]
   clear hb4 HB3 HR3 HZ3 HR2 HZ2 HB2 DN ng hv;go_wp2_with (first
    |((with_reducible refine eu 39 ?_);go_must (refine bn rfl _ rfl (ah bz (.slice none 0 0)) (by kernel_rfl) ?_))
    |((with_reducible refine dS 39 ?_);go_must (refine wpList_store_row rfl _ _ _ rfl w.heap.size (ah bz (.slice none 0 0)) rfl rfl 39 (ah bz (.slice none 0 0)) uF.out.var QC.out rfl (aW _ _ _ _) ?_)))
   refine bodyPost_ret (v:= .tuple #[.agg (ah bz (.slice none 0 0)),I 3]) (aZ rfl _ _ w.heap.size _ (ah bz (.slice none 0 0)) (0,0) _ rfl (setRow_heap _ _ _ _ _ _ uF.out.var) Tryz.underlying39 rfl QC.out _ rfl) rfl ?_;exact .inr ⟨YE.out,rfl,aB HB4.out (Nat.le_refl _) _⟩
 ·have HR2:=ae (xm.out.below hb2);have HB2:=ae (ai HB0.out hb2);have YE:=ae (DZ hpt);have HSC:Hid ((Tryz.prog.info? 39).map (·.size)=some C.size):=ae (by rw [hCs];exact (bG bz (.slice none 0 0) rfl rfl).trans (by rw [bF bz _ rfl rfl]));have xR:Hid ((ah bz (.slice none 0 0)).size=C.size):=ae (by rw [hCs];exact bF bz _ rfl rfl);have HCO:=ae hCo;have hw2:w.heap.size<w2.heap.size:=HR2.out.lt;clear hb2 HC xm HB0 hpt hCs hCo;have HR3:Hid (AV w.heap.size 39 (ah bz (.slice none 0 0)) ((w2.alloc (.cells (ah bz (.slice none 0 0)) 39)).setRow w2.heap.size C)):=ae ((HR2.out.below (ag w2 _)).qO (by omega) _);have HB3:Hid (Below w.heap.size w ((w2.alloc (.cells (ah bz (.slice none 0 0)) 39)).setRow w2.heap.size C)):=ae (aB (ai HB2.out (ag w2 _)) (by omega) _);go_wp2_with (first
   |((with_reducible refine bf 39 ?_);go_must (refine aI rfl _ rfl (ah bz (.slice none 0 0)) eF ?_))
   |((with_reducible refine eu 39 ?_);go_must (refine bn rfl _ rfl (ah bz (.slice none 0 0)) (by kernel_rfl) ?_))
   |((with_reducible refine dS 39 ?_);go_must (first
     |(refine wpList_store_row rfl _ _ _ rfl w2.heap.size C rfl rfl 39 (ah bz (.slice none 0 0)) (heap_alloc_last _ _) HSC.out xR.out HCO.out ?_)
     |(refine wpList_store_row rfl _ _ _ rfl w.heap.size (ah bz (.slice none 0 0)) rfl rfl 39 (ah bz (.slice none 0 0)) HR3.out.var QC.out rfl (aW _ _ _ _) ?_))))
  refine bodyPost_ret (v:= .tuple #[.agg (ah bz (.slice none 0 0)),I 3]) (aZ rfl _ _ w.heap.size _ (ah bz (.slice none 0 0)) (0,0) _ rfl (setRow_heap _ _ _ _ _ _ HR3.out.var) Tryz.underlying39 rfl QC.out _ rfl) rfl ?_;exact .inr ⟨YE.out,rfl,aB HB3.out (Nat.le_refl _) _⟩
end Go.Proofs.YtbaehbbonkljpaaGreat
namespace Go.Proofs.YtbaehbbonkljpaaGreat
open Go Go.RowKit
theorem jF (v:Int) (s:Nat) (R:List UInt8) (h:Cj (le v s++R) false s=v):pN s (le v s++R)=some (v,R):=by
 rw [xH (by rw [bH,aC];omega),h,EY]
theorem LK (v:Int) (R:List UInt8) (h0: -32768≤v) (h1:v≤32767):pO (le v 2++R)=some (v,R):=by
 unfold pO;rw [xH (by rw [bH,aC];omega),Ue,EY];simp only [Option.map_some,uq];have e:(v%65536+32768)%65536 - 32768=v:=by omega
 rw [e]
theorem pT_fwd (s:ByteArray) (R:List UInt8) (h:s.size<256):pT ((le s.size 1++s.data.toList)++R)=some (s,R):=by
 have hl:s.data.toList.length=s.size:=Array.length_toList;unfold pT;rw [List.append_assoc,jF _ 1 _ (nC _ (by omega) (by omega) _)];simp only [Option.bind_some,Int.toNat_natCast];unfold pK;rw [if_pos (by rw [bH,hl];omega),←hl,List.take_append_of_le_length (Nat.le_refl _),List.take_of_length_le (Nat.le_refl _),List.drop_append_of_le_length (Nat.le_refl _),List.drop_of_length_le (Nat.le_refl _)];rfl
theorem Bh {α:Type} {p:List UInt8→Option (α×List UInt8)} (enc:α→List UInt8):∀(n:Nat) (xs:List α) (R:List UInt8),xs.length=n→(∀x∈xs,∀R,p (enc x++R)=some (x,R))→dR p n (xs.flatMap enc++R)=some (xs,R)
 |0,xs,R,hn,_=>by
  rw [List.eq_nil_of_length_eq_zero hn];rfl
 |n+1,xs,R,hn,h=>by
  obtain ⟨ys,x,rfl⟩:∃ys x,xs=ys++ [x]:=by
   have hne:xs≠ []:=by intro e;rw [e] at hn;cases hn
   exact ⟨xs.dropLast,xs.getLast hne,(List.dropLast_concat_getLast hne).symm⟩
  rw [bH,List.length_singleton] at hn;rw [List.flatMap_append,List.flatMap_cons,List.flatMap_nil,List.append_nil,List.append_assoc];simp only [dR,Bh enc n ys (enc x++R) (by omega) (fun y hy=>h y (List.mem_append_left _ hy)),Option.bind_some,h x (List.mem_append_right _ List.mem_cons_self) R,Option.map_some]
theorem qi {α:Type} {p:List UInt8→Option (α×List UInt8)} (enc:α→List UInt8) (s:Nat) (xs:List α) (R:List UInt8) (hs:Cj (le xs.length s++(xs.flatMap enc++R)) false s=xs.length) (h:∀x∈xs,∀R,p (enc x++R)=some (x,R)):fO s p ((le xs.length s++xs.flatMap enc)++R)=some (xs,R):=by
 unfold fO;rw [List.append_assoc,jF _ s _ hs];simp only [Option.bind_some,Int.toNat_natCast];exact Bh enc _ xs R rfl h
theorem XH (x:Yr) (hx:UY x) (R:List UInt8):GM (jv x++R)=some (x,R):=by
 obtain ⟨h1,h2,h3,h4,h5⟩:=hx;unfold jv;simp only [List.append_assoc];simp only [GM,jF _ 1 _ (nC _ h1.1 h1.2 _),jF _ 1 _ (nC _ h2.1 h2.2 _),jF _ 1 _ (nC _ h3.1 h3.2 _),jF _ 2 _ (xI _ h4.1 h4.2 _),LK _ _ h5.1 h5.2,Option.bind_some,Option.map_some]
theorem Aj (zs:List Int):fZ zs=zs.flatMap fun z=>le z 1:=by
 induction zs with
 |nil=>rfl
 |cons z zs ih=>rw [List.flatMap_cons,←ih];rfl
def pFW (f:Int→Bool) (B:List UInt8):Option (Bool×List UInt8):=(pN 1 B).map fun x=>(f x.1,x.2)
def XD (f:Int→Bool) (B:List UInt8):Option (Lr×List UInt8):=(pN 2 B).bind fun a=>(pN 2 a.2).bind fun b=>(pFW f b.2).map fun c=>(⟨a.1,b.1,c.1⟩,c.2)
def Ei (f:Int→Bool) (B:List UInt8):Option (Cal×List UInt8):=(pN 4 B).bind fun a=>(fO 1 (pN 1) a.2).bind fun b=>(pN 1 b.2).bind fun c=>(fO 1 (XD f) c.2).map fun d=>(⟨a.1,b.1,c.1 - 1,d.1⟩,d.2)
def LU (f:Int→Bool) (B:List UInt8):Option (Ze×List UInt8):=(pT B).bind fun n=>(Ei f n.2).bind fun c=>(pO c.2).bind fun s=>(fO 2 LQ s.2).bind fun t=>(pN 8 t.2).bind fun h=>(fO 1 GM h.2).map fun y=>(⟨n.1,⟨c.1,s.1,t.1,h.1,y.1⟩⟩,y.2)
def LM (f:Int→Bool) (B:List UInt8):Option (Tb×List UInt8):=(pN 1 B).bind fun i=>(pN 1 i.2).bind fun v=>(pN 1 v.2).bind fun x=>(pD x.2).bind fun d=>(fO 1 (LU f) d.2).map fun z=>(⟨i.1,v.1,x.1,d.1,bU,z.1⟩,z.2)
def flP (x:Int):Bool:=decide (x=1)
def GK (x:Int):Bool:=x !=0
structure GX (f:Int→Bool):Prop where
 zero:f 0=false
 one:f 1=true
theorem Sj:GX flP:=⟨rfl,rfl⟩
theorem Sl:GX GK:=⟨rfl,rfl⟩
theorem XC {f:Int→Bool} (hf:GX f) (b:Bool) (R:List UInt8):pFW f (le (sK b) 1++R)=some (b,R):=by
 unfold pFW;rw [jF _ 1 R (nC _ (by cases b<;>decide) (by cases b<;>decide) _)];cases b
 ·exact congrArg (fun x=>some (x,R)) hf.zero
 ·exact congrArg (fun x=>some (x,R)) hf.one
theorem TR {f:Int→Bool} (hf:GX f) (x:Lr) (hx:Xv x) (R:List UInt8):XD f (jr x++R)=some (x,R):=by
 unfold jr;simp only [List.append_assoc];simp only [XD,jF _ 2 _ (xI _ hx.1.1 hx.1.2 _),jF _ 2 _ (xI _ hx.2.1 hx.2.2 _),XC hf,Option.bind_some,Option.map_some]
theorem TW (x:Tr) (h1:fits x.at_) (h2: -1080≤x.off∧x.off≤1080) (R:List UInt8):LQ (iI x++R)=some (x,R):=by
 unfold iI;simp only [List.append_assoc];simp only [LQ,jF _ 8 _ (Uf x.at_ h1 _),LK x.off _ (by omega) (by omega),Option.bind_some,Option.map_some]
theorem eH.sm {c:Cal} (hc:eH c):∀x∈c.rules,Xv x:=fun x hx=>by
 obtain ⟨h1,h2,h3⟩:=qj c.rules 1 hc.per x hx;exact ⟨⟨by omega,by omega⟩,⟨by omega,by omega⟩⟩
theorem PK {f:Int→Bool} (hf:GX f) (c:Cal) (hc:eH c) (R:List UInt8):Ei f (Ai c++R)=some (c,R):=by
 have h1:=hc.ep;have h2:=hc.ml;have h3:=hc.lp;have h4:=hc.rl;have h5:=hc.mo;unfold Ai;rw [Aj];simp only [List.append_assoc];rw [←List.append_assoc (le (c.aj.length:Int) 1),←List.append_assoc (le (c.rules.length:Int) 1)];simp only [Ei,jF _ 4 _ (Zy _ h1.1 (by omega) _),qi (fun z=>le z 1) 1 c.aj _ (nC _ (by omega) (by omega) _) (fun z hz R=>jF _ 1 _ (nC _ (by have:=h5 z hz;omega) (by have:=h5 z hz;omega) _)),jF _ 1 _ (nC (c.aY+1) (by omega) (by omega) _),qi jr 1 c.rules _ (nC _ (by omega) (by omega) _) (fun z hz R=>TR hf z (hc.sm z hz) R),Option.bind_some,Option.map_some,Int.add_sub_cancel]
theorem rM.sm {n:Nat} {y:Yr} (h:rM n y) (hn:n≤16):UY y:=by
 have h1:=h.mo;have h2:=h.wk;have h3:=h.wd;have h4:=h.mi;have h5:=h.of;exact ⟨⟨by omega,by omega⟩,⟨by omega,by omega⟩,⟨by omega,by omega⟩,⟨by omega,by omega⟩,⟨by omega,by omega⟩⟩
theorem TY {f:Int→Bool} (hf:GX f) (e:Ze) (h:yR e.z) (hs:e.name.size≤32) (R:List UInt8):LU f (Qo e++R)=some (e,R):=by
 have h1:=h.st;have h2:=h.ho;have h3:=h.Oq;have h4:=h.yr.len;have h6:=h.cal.ml;unfold Qo znB;simp only [List.append_assoc];rw [←List.append_assoc (le (e.name.size:Int) 1),←List.append_assoc (le (e.z.trans.length:Int) 2),←List.append_assoc (le (e.z.ax.length:Int) 1)];simp only [LU,pT_fwd e.name _ (by omega),PK hf e.z.cal h.cal,LK e.z.start _ (by omega) (by omega),qi iI 2 e.z.trans _ (xI _ (by omega) (by omega) _) (fun z hz R=>TW z (by have:=h.trs z hz;unfold fits;omega) (h.trs z hz).1 R),jF _ 8 _ (Uf e.z.hor (by unfold fits;omega) _),qi jv 1 e.z.ax _ (nC _ (by omega) (by omega) _) (fun z hz R=>XH z ((h.yr.mem z hz).sm (by omega)) R),Option.bind_some,Option.map_some]
theorem TU {f:Int→Bool} (hf:GX f) (t:Tb) (h:TbY t) (R:List UInt8):LM f (xe t++R)=some ({t with dQ:=bU},R):=by
 have h1:=h.bV;have h2:=h.version;have h3:=h.aO;have h4:=h.num;have h5:pD (t.prev++((le (t.aG.length:Int) 1++JS t.aG)++R))=some (t.prev,(le (t.aG.length:Int) 1++JS t.aG)++R):=by
  unfold pD;rw [if_pos (by rw [bH,h.prev];omega),←h.prev,List.take_append_of_le_length (Nat.le_refl _),List.take_of_length_le (Nat.le_refl _),List.drop_append_of_le_length (Nat.le_refl _),List.drop_of_length_le (Nat.le_refl _)];rfl
 unfold xe;simp only [List.append_assoc];rw [←List.append_assoc (le (t.aG.length:Int) 1)];simp only [LM,jF _ 1 _ (nC t.bV (by omega) (by omega) _),jF _ 1 _ (nC t.version (by omega) (by omega) _),jF _ 1 _ (nC t.aO (by omega) (by omega) _),h5,Option.bind_some];unfold JS;simp only [qi Qo 1 t.aG R (nC _ (by omega) (by omega) _) (fun z hz R=>TY hf z (h.good z hz) (h.short z hz) R),Option.map_some]
theorem LP {f:Int→Bool} {B R:List UInt8} {t:Tb} (h:LM f B=some (t,R)):t.prev.length=32∧t.dQ=bU:=by
 simp only [LM,Option.bind_eq_some_iff,Option.map_eq_some_iff] at h;obtain ⟨⟨a,R1⟩,h1,⟨b,R2⟩,h2,⟨c,R3⟩,h3,⟨d,R4⟩,h4,⟨e,R5⟩,h5,h6⟩:=h;simp only [Prod.mk.injEq] at h6;rw [←h6.1];refine ⟨?_,rfl⟩;unfold pD at h4;split at h4
 ·rename_i hl;simp only [Option.some.injEq,Prod.mk.injEq] at h4;show d.length=32;rw [←h4.1,List.length_take];simp only at hl;omega
 ·cases h4
def Hy (f:Int→Bool) (B:List UInt8):Option Tb:=
 match LM f B with
 |some (t,[])=>if pM t=0∧xe t=B then some t else none
 |_=>none
theorem vY {f:Int→Bool} (hf:GX f) (B:List UInt8) (t:Tb):Hy f B=some t↔(pM t=0∧xe t=B∧t.prev.length=32∧t.dQ=bU):=by
 constructor
 ·intro h;unfold Hy at h;split at h
  ·rename_i u hu;split at h
   ·rename_i hv;injection h with h;subst h;obtain ⟨h1,h2⟩:=LP hu;exact ⟨hv.1,hv.2,h1,h2⟩
   ·cases h
  ·cases h
 ·rintro ⟨h1,h2,h3,h4⟩;have hY:=BI h1 h3 (by rw [h4];rfl);have h5:=TU hf t hY [];rw [List.append_nil,h2] at h5;have h6:({t with dQ:=bU}:Tb)=t:=by rw [←h4]
  rw [h6] at h5;unfold Hy;rw [h5];simp only;rw [if_pos ⟨h1,h2⟩]
theorem accW_P (B:List UInt8):Hy flP B=mV B:=rfl
theorem Rt (B:List UInt8):Hy GK B=mV B:=by
 rw [←accW_P];cases h:Hy GK B with
 |some t=>exact ((vY Sj B t).2 ((vY Sl B t).1 h)).symm
 |none=>
  cases h2:Hy flP B with
  |none=>rfl
  |some t=>
   rw [(vY Sl B t).2 ((vY Sj B t).1 h2)] at h;cases h
end Go.Proofs.YtbaehbbonkljpaaGreat
