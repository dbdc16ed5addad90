/- The texts Od, TrA, RsP, TrN, in this order. -/
import Derived.Test.YtdibbemgpikgjaaGreatDoorY00
import Derived.Laws.BitsAllLaws
import Derived.Laws.Cover3
import Derived.MapKept
import Derived.Lib.ByteType
import Derived.Test.YtdibbemgpikgjaaGreatDoorY01
import Derived.Test.YtdibbemgpikgjaaGreatDoorY06
import Derived.Test.YtdibbemgpikgjaaGreatDoorY07
import Derived.Test.YtdibbemgpikgjaaGreatDoorY11
import Derived.Test.YtdibbemgpikgjaaGreatDoorY22
set_option maxRecDepth 10000
set_option maxHeartbeats 8000000
namespace Go.Proofs.YtdibbemgpikgjaaGreatDoor
open Go Go.RowKit
attribute [local go_sem] mF mO mG mP qN qO mr mJ mD mM
def QC (zs:List Ze):List UInt8:=zs.flatMap Vb
theorem UJ (zs:List Ze) (x:Ze):QC (zs++ [x])=QC zs++Vb x:=by simp [QC]
theorem O0 (zs:List Ze) (h:∀e∈zs,uS e.z∧e.name.size≤32):(QC zs).length≤zs.length*140:=by
 induction zs with
 |nil=>exact Nat.zero_le _
 |cons x zs ih=>
  have h1:=ih fun e he=>h e (List.mem_cons_of_mem _ he);have h2:=XF (h x List.mem_cons_self).1 (h x List.mem_cons_self).2;unfold QC at h1 ⊢;rw [List.flatMap_cons,aZ,List.length_cons];omega
def WyRel (w:World) (g:Nat) (v:Value) (bs:List UInt8) (n:Nat) (zs:List Ze) (i:Value) (wr:World):Prop:=
 ∃k:Nat,k≤n∧i= .int .i64 k∧∃v',fA wr g v' (bs++(le n 1++QC (zs.take k)))∧gX g v w v' wr
theorem GY (w:World) (g lb lo zg zo n c:Nat) (zs:List dB) (v:Value) (bs:List UInt8) (hn:zs.length=n) (hn2:n≤128) (hp:w.cell? ⟨lb,lo,none⟩=some (.slice (some ⟨zg,zo,none⟩) n c)) (Lu:lb<g) (hzg:zg<g)
  (hcl:∀j u,(aO zs)[j]? =some u→w.cell? ⟨zg,zo+j,none⟩=some u) (hfz:∀j,w.frozen? ⟨zg,zo+j,none⟩=false) (hfl:∀x∈zs,uS x.e.z∧x.e.name.size≤32) (hI:∀x∈zs,jG w g x.s x.e.z)
  (hl:bs.length≤1000000) (hst:fA w g v bs):
  Calls Tryz.prog 48 #[.iface 77 (pt g), .pointer (some ⟨lb,lo,none⟩),I 1, .func (.func 49) #[] #[]] w (fE w g v (bs++(le n 1++QC (zs.map (·.e))))):=by
 have HC:=ae (fP w.drew g v bs n 1 (by omega) (by omega) (by omega) (by omega) hst.drew);have HST:=ae hst;have HN:=ae hn;have HF:=ae hfl;have gu:=ae hcl;have HFZ:=ae hfz;have HI:=ae hI;have HP:=ae hp;have hgl:=hst.lt;clear hst hn hfl hcl hfz hI;go_enter Tryz.func48,Tryz.ntmps48;go_wp2_with fail;go_still_tail 9,(by kernel_rfl);go_wp2_with fail;refine HC.out.mono ?_;rintro e w1 ⟨rfl,v1,hs1,hk1⟩;have iq:=ae hs1;have iF:=ae (aI hk1);clear hs1 hk1 HC hp;go_wp2_with fail
 go_loopw [22] (fun i wr=>WyRel w g v bs n (zs.map (·.e)) i wr) (fun i _=>n - (intOf i).toNat)
 case atStart=>exact ⟨0,Nat.zero_le _,rfl,v1,by simpa [QC] using iq.out,iF.out⟩
 case round=>
  obtain ⟨k,hk,rfl,v2,hs2,hk2⟩:=hrel;have hb2:=bu HST.out hk2;have HB2:=ae hb2;have HS2:=ae hs2;have iO:=ae hk2;have hp2:wr.cell? ⟨lb,lo,none⟩=some (.slice (some ⟨zg,zo,none⟩) n c):=(hb2.cell (p:=⟨lb,lo,none⟩) Lu).trans HP.out;clear hs2 hk2 hb2 iq iF;by_cases hlt:k<n
  ·have hkz:k<zs.length:=by rw [HN.out];exact hlt
   obtain ⟨x,hx⟩:∃x,zs[k]? =some x:=⟨_,bZ hkz⟩;have hxm:=dS hx;have hlen:(bs++(le (n:Int) 1++QC ((zs.map (·.e)).take k))).length≤9000000:=by
    have h1:=O0 ((zs.map (·.e)).take k) fun e he=>by
     obtain ⟨y,hy,rfl⟩:=List.mem_map.1 (List.mem_of_mem_take he);exact HF.out y hy
    have h2:((zs.map (·.e)).take k).length≤128:=by rw [List.length_take,List.length_map,HN.out];omega
    simp only [aZ,aF];omega
   have HM:=ae (JF wr g zg (zo+k*9) x v2 _ (HF.out x hxm).1 (HF.out x hxm).2 (aA.elem (w:=wr) (s:=9) (f:=fun x:dB=>x.cells.toList) (fun _ _=>rfl) (fun j u hu=>(HB2.out.cell (p:=⟨zg,zo+j,none⟩) hzg).trans (gu.out j u hu)) k x hx) (by
    have hf:=(HB2.out.frozen (p:=⟨zg,zo+(k*9+3),none⟩) hzg).trans (HFZ.out (k*9+3));rw [show zo+k*9+1+2=zo+(k*9+3) by omega];exact hf) hzg ((HI.out x hxm).keep HB2.out) hlen HS2.out)
   have HX:=ae hx;have i0:(0:Int)≤(k:Int):=by omega
   have i1:(k:Int)<(n:Int):=by omega
   have i2:((k:Int)==(n:Int))=false:=by simp;omega
   clear hkz hx hlen hxm;go_wp2_with fail;refine HM.out.mono ?_;rintro e w3 ⟨rfl,v3,hs3,hk3⟩;have jU:=ae hs3;have mV:=ae (iO.out.trans hk3);clear hs3 hk3 hp2;go_wp2_with fail;go_roundw
   case rel=>exact ⟨k+1,by omega,by go_num,v3,by rw [lh (zs.map (·.e)) k x.e (by rw [List.getElem?_map,HX.out];rfl),UJ,←List.append_assoc (le _ _),←List.append_assoc];exact jU.out,mV.out⟩
   case measure=>simp [intOf];omega
  ·have hkn:k=n:=by omega
   have sW:=ae hkn;clear hkn;go_wp2_with fail
   go_end0
   exact ⟨rfl,v2,by have h:=HS2.out;rwa [sW.out,List.take_of_length_le (by rw [List.length_map,HN.out];exact Nat.le_refl _)] at h,iO.out⟩
structure Ez (g:Nat) (w:World) (A:Option Addr) (zs:List dB):Prop where
 row:zs.length=0∨∃zg zo,A=some ⟨zg,zo,none⟩∧zg<g∧(∀j u,(aO zs)[j]? =some u→w.cell? ⟨zg,zo+j,none⟩=some u)∧∀j,w.frozen? ⟨zg,zo+j,none⟩=false
 each:∀x∈zs,jG w g x.s x.e.z
theorem Ez.keep {g:Nat} {w w':World} {A:Option Addr} {zs:List dB} (h:Ez g w A zs) (hb:Below g w w'):Ez g w' A zs:=
 ⟨h.row.elim .inl fun ⟨zg,zo,h1,h2,h3,h4⟩=> .inr ⟨zg,zo,h1,h2,fun j u hu=>(hb.cell (p:=⟨zg,zo+j,none⟩) h2).trans (h3 j u hu),fun j=>(hb.frozen (p:=⟨zg,zo+j,none⟩) h2).trans (h4 j)⟩,fun x hx=>(h.each x hx).keep hb⟩
theorem Bo.low {lo:Nat} {w:World} {A:Option Addr} {zs:List dB} (h:Bo lo w A zs):Ez w.heap.size w A zs:=by
 refine ⟨?_,fun x hx=>(h.each x hx).at⟩;rcases h.free with h1|⟨b,off,h1,_,h2,h3⟩
 ·exact .inl h1
 ·rcases h.row with h4|⟨b',off',h4,_,_,h5⟩
  ·rw [dL] at h4;exact .inl (by omega)
  ·rw [h1] at h4;injection h4 with h4;injection h4 with e1 e2;subst e1 e2;exact .inr ⟨b,off,h1,h2,h5,h3⟩
def mQ (t:Tb):List UInt8:=le t.aP 1++(le t.version 1++(le t.aC 1++(t.prev++(le t.aK.length 1++QC t.aK))))
theorem uK (t:Tb) (h:VH t):36≤(mQ t).length∧(mQ t).length≤18000:=by
 have h1:=O0 t.aK fun e he=>⟨(h.good e he).1,h.short e he⟩;have h2:=h.num;have h3:=h.prev;simp only [mQ,aZ,aF];omega
theorem JH (w:World) (g lb lo n c:Nat) (A:Option Addr) (zs:List dB) (v:Value) (bs:List UInt8) (hn:zs.length=n) (hn2:n≤128) (hp:w.cell? ⟨lb,lo,none⟩=some (.slice A n c)) (Lu:lb<g) (hz:Ez g w A zs) (hfl:∀x∈zs,uS x.e.z∧x.e.name.size≤32)
  (hl:bs.length≤1000000) (hst:fA w g v bs):
  Calls Tryz.prog 48 #[.iface 77 (pt g), .pointer (some ⟨lb,lo,none⟩),I 1, .func (.func 49) #[] #[]] w (fE w g v (bs++(le n 1++QC (zs.map (·.e))))):=by
 by_cases h0:n=0
 ·subst h0;have:=xK w g lb lo A c v bs hp (by omega) hst;rw [List.eq_nil_of_length_eq_zero hn];simpa [QC] using this
 ·rcases hz.row with h|⟨zg,zo,rfl,h2,h3,h4⟩
  ·omega
  ·exact GY w g lb lo zg zo n c zs v bs hn hn2 hp Lu h2 h3 h4 hfl hz.each hl hst
attribute [local go_sem] jy jA jQ bD
theorem JJ (w:World) (g tb n c:Nat) (t:Tb) (A:Option Addr) (zs:List dB) (v:Value) (h:VH t) (hzz:t.aK=zs.map (·.e)) (hn:zs.length=n) (htb:tb<g) (hr:Row w tb (ai t (.slice A n c))) (hz:Ez g w A zs) (hst:fA w g v []):
  Calls Tryz.prog 30 #[.iface 77 (pt g), .pointer (some ⟨tb,0,none⟩)] w (fE w g v (mQ t)):=by
 have hgl:=hst.lt;have c0:=hr.2 0;have c1:w.cell? ⟨tb,1,none⟩=some (I t.version):=(hr.2 1).trans (jA _ _);have c2:w.cell? ⟨tb,2,none⟩=some (I t.aC):=(hr.2 2).trans (jQ _ _);have c3:w.cell? ⟨tb,3,none⟩=some (.slice A n c):=(hr.2 3).trans (bD _ _);have hn2:n≤128:=by have:=h.num;rw [hzz,List.length_map] at this;omega
 have q1:=h.aP;have q2:=h.version;have q3:=h.aC;have lV:=ae (bH w.drew g ⟨tb,0,none⟩ v [] t.aP 1 (by omega) (by omega) (by omega) (by decide) hst.lt hst.drew (c0.trans (jy _ _)));have HPV:=ae (mY t (.slice A n c) hr);have HST:=ae hst;have HF:=ae h;have HZ:=ae hz;have ZW:=ae hzz;have HN:=ae hn;have zZ:Hid (∀j u,Below g w u→u.cell? ⟨tb,j,none⟩=w.cell? ⟨tb,j,none⟩):=ae fun j u hb=>hb.cell (p:=⟨tb,j,none⟩) htb;have Em:Hid (∀x∈zs,uS x.e.z∧x.e.name.size≤32):=ae fun x hx=>by
  have hm:x.e∈t.aK:=by rw [hzz];exact List.mem_map_of_mem hx
  exact ⟨(h.good _ hm).1,h.short _ hm⟩
 clear h hr hst hz hzz hn c0;go_enter Tryz.func30,Tryz.ntmps30;go_wp2_with fail;go_still_tail 7,(by kernel_rfl);go_wp2_with fail;refine lV.out.mono ?_;rintro e w1 ⟨rfl,v1,hs1,hk1⟩;obtain ⟨B1,hB1⟩:∃B,[]++le t.aP 1=B:=⟨_,rfl⟩;have hl1:B1.length≤1:=by rw [←hB1];simp [aF]
 rw [hB1] at hs1;have hb1:=bu HST.out (aI hk1);have HB1:=ae hb1;have iq:=ae hs1;have iF:=ae (aI hk1);have nY:=ae hB1;have HC2:=ae (bH w1.drew g ⟨tb,1,none⟩ v1 B1 t.version 1 (by omega) (by omega) (by omega) (by omega) hs1.lt hs1.drew ((zZ.out _ _ hb1).trans c1));clear hs1 hk1 hb1 lV hB1 c1;go_wp2_with fail;go_still_tail 7,(by kernel_rfl);go_wp2_with fail;refine HC2.out.mono ?_;rintro e w2 ⟨rfl,v2,hs2,hk2⟩;obtain ⟨B2,hB2⟩:∃B,B1++le t.version 1=B:=⟨_,rfl⟩;have hl2:B2.length≤2:=by rw [←hB2,aZ,aF];omega
 rw [hB2] at hs2;have hb2:=HB1.out.trans (bu iq.out (aI hk2));have HB2:=ae hb2;have HS2:=ae hs2;have iO:=ae (iF.out.trans (aI hk2));have lC:=ae hB2;have sG:=ae (bH w2.drew g ⟨tb,2,none⟩ v2 B2 t.aC 1 (by omega) (by omega) (by omega) (by omega) hs2.lt hs2.drew ((zZ.out _ _ hb2).trans c2));clear hs2 hk2 hb2 HC2 hB2 c2;go_wp2_with fail;go_still_tail 7,(by kernel_rfl);go_wp2_with fail;refine sG.out.mono ?_;rintro e w3 ⟨rfl,v3,hs3,hk3⟩;obtain ⟨B3,hB3⟩:∃B,B2++le t.aC 1=B:=⟨_,rfl⟩;have hl3:B3.length≤3:=by rw [←hB3,aZ,aF];omega
 rw [hB3] at hs3;have hb3:=HB2.out.trans (bu HS2.out (aI hk3));have HB3:=ae hb3;have jU:=ae hs3;have mV:=ae (iO.out.trans (aI hk3));have Ac:=ae hB3;have sQ:=ae (zk w3.drew g tb 4 v3 B3 t.prev (by omega) (fun j u hu=>(zZ.out _ _ hb3).trans (HPV.out j u hu)) HF.out.prev hs3.drew);clear hs3 hk3 hb3 sG hB3;go_wp2_with fail;go_still_tail 7,(by kernel_rfl);go_wp2_with fail;refine sQ.out.mono ?_;rintro e w4 ⟨rfl,v4,hs4,hk4⟩;obtain ⟨B4,hB4⟩:∃B,B3++t.prev=B:=⟨_,rfl⟩;have hl4:B4.length≤35:=by rw [←hB4,aZ,HF.out.prev];omega
 rw [hB4] at hs4;have hb4:=HB3.out.trans (bu jU.out (aI hk4));have Ad:=ae hs4;have NJ:=ae (mV.out.trans (aI hk4));have Zk:=ae hB4;have zY:=ae (JH w4 g tb 3 n c A zs v4 B4 HN.out hn2 ((zZ.out _ _ hb4).trans c3) htb (HZ.out.keep hb4) Em.out (by omega) hs4);clear hs4 hk4 hb4 sQ hB4 c3;go_wp2_with fail;refine zY.out.mono ?_;rintro e w5 ⟨rfl,v5,hs5,hk5⟩;have sS:=ae hs5;have xP:=ae (NJ.out.trans hk5);clear hs5 hk5 zY;go_wp2_with fail
 go_end0
 refine ⟨rfl,v5,?_,xP.out⟩;have hh:=sS.out;rw [←Zk.out,←Ac.out,←lC.out,←nY.out] at hh;unfold mQ;rw [ZW.out,List.length_map,HN.out];simpa only [List.append_assoc,List.nil_append] using hh
theorem nS (t:Tb) (A:Option Addr) (n c:Nat) (zs:List dB) (w:World) (h:VH t) (hzz:t.aK=zs.map (·.e)) (hn:zs.length=n) (hA:lW w w.heap.size A zs) (hup:jv zs):
  Calls Tryz.prog 9 #[.agg (ai t (.slice A n c))] w (Bj w (mQ t)):=by
 have HR0:=ae (Row.new w (ai t (.slice A n c)) 37);have HB0:=ae (ag w (.cells (ai t (.slice A n c)) 37));have HH0:=ae (heap_alloc_last w (.cells (ai t (.slice A n c)) 37));have dR:Hid (∀v,(Tryz.prog.info? 37).map (·.size)=some (ai t v).size):=ae fun v=>bU t v h.prev h.bn;have Af:Hid (∀u v,(ai t u).size=(ai t v).size):=ae fun u v=>by rw [bF _ _ h.prev h.bn,bF _ _ h.prev h.bn]
 have HV:Hid (∀W,Below w.heap.size w W→Calls Tryz.prog 26 #[.agg (ai t (.slice A n c))] W (Gives (I 0) W)):=ae fun W hb=>
  zO t A n c zs W h hzz hn (hA.grow hb) hup
 have gu:Hid (∀W,Below w.heap.size w W→Calls Tryz.prog 29 #[.agg (ai t (.slice A n c))] W (ClV W ⟨t,A,c,zs⟩)):=ae fun W hb=>by
  have h2:zs.length≤128:=by have:=h.num;rw [hzz,List.length_map] at this;exact this
  exact BJ ⟨t,A,c,zs⟩ n W hn (by omega) (fun y hy=>(h.good _ (by rw [hzz];exact List.mem_map_of_mem hy)).1.len) ⟨hzz,h.prev,h.bn,hA.grow hb⟩
 have HF:=ae h;have ZW:=ae hzz;have HN:=ae hn;clear h hzz hn hA hup;go_enter Tryz.func9,Tryz.ntmps9;go_wp2_with (with_reducible refine dN 37 ?_;refine aY rfl _ _ rfl w.heap.size rfl (ai t (.slice A n c)) HR0.out _ Tryz.underlying37 rfl (dR.out _) ?_);refine (HV.out _ HB0.out).mono ?_;rintro e w1 ⟨rfl,hb1⟩;have HR1:=ae (HR0.out.keep hb1);have HB1:=ae (ah HB0.out hb1);have HH1:Hid (w1.heap[w.heap.size]? =some (.cells (ai t (.slice A n c)) 37 (0,0))):=ae ((hb1.block _ (by simp)).trans HH0.out);clear hb1 HR0 HB0 HH0 HV;go_wp2_with (with_reducible refine dN 37 ?_;refine aY rfl _ _ rfl w.heap.size rfl (ai t (.slice A n c)) HR1.out _ Tryz.underlying37 rfl (dR.out _) ?_);refine (gu.out _ HB1.out).mono ?_;rintro e w2 ⟨⟨t2,A2,c2,zs2⟩,ht2,he2,rfl,hO2,hb2⟩;have ht3:t=t2:=ht2.symm;subst ht3;have he2:zs2.map (·.e)=zs.map (·.e):=he2;have pI:=ae (show Bo w1.heap.size w2 A2 zs2 from hO2.aK);have hy2:zs2.length=n:=by have:=congrArg List.length he2;simpa [HN.out] using this
 have HE2:=ae he2;have HH2:Hid (w2.heap[w.heap.size]? =some (.cells (ai t (.slice A n c)) 37 (0,0))):=ae ((hb2.block _ HR1.out.1).trans HH1.out);have HB2:=ae (ah HB1.out hb2);have hl1:w.heap.size<w1.heap.size:=HR1.out.1;dsimp only;rw [hy2];clear hO2 he2 hb2 gu;go_wp2_with (with_reducible refine cZ 37 ?_;refine wpList_store_row rfl _ _ _ rfl w.heap.size (ai t (.slice A2 n c2)) rfl rfl 37 (ai t (.slice A n c)) HH2.out (dR.out _) (Af.out _ _) (bz _ _ _ _) ?_);have hw3:(w2.setRow w.heap.size (ai t (.slice A2 n c2))).heap[w.heap.size]? =some (.cells (ai t (.slice A2 n c2)) 37 (0,0)):=setRow_heap _ _ _ _ _ _ HH2.out;have hs3:(w2.setRow w.heap.size (ai t (.slice A2 n c2))).heap.size=w2.heap.size:=by simp [World.setRow]
 have hb3:Below w.heap.size w (w2.setRow w.heap.size (ai t (.slice A2 n c2))):=below_setRow HB2.out (Nat.le_refl _) _;have hz3:Bo (w.heap.size+1) (w2.setRow w.heap.size (ai t (.slice A2 n c2))) A2 zs2:=
  (pI.out.lower (by omega)).aS (by rw [hs3];exact Nat.le_refl _) fun k hk _=>setRow_other _ _ k _ (by omega)
 generalize w2.setRow w.heap.size (ai t (.slice A2 n c2))=w3 at hw3 hs3 hb3 hz3 ⊢;rw [←hs3];have hba:=ag w3 (.cells #[.slice none 0 0] 79);have hst:fA (w3.alloc (.cells #[.slice none 0 0] 79)) w3.heap.size (.slice none 0 0) []:=⟨heap_alloc_last w3 _,World.ownsRow_nil _ _ _ _⟩;have hl3:w.heap.size<w3.heap.size:=(bT.1 hw3).1;refine (JJ (w3.alloc (.cells #[.slice none 0 0] 79)) w3.heap.size w.heap.size n c2 t A2 zs2 (.slice none 0 0) HF.out (by rw [HE2.out];exact ZW.out) hy2 hl3 ⟨by simp;omega,fun i=>(hba.cell (p:=⟨w.heap.size,i,none⟩) hl3).trans (cell_of_row w3 _ i _ _ _ hw3)⟩ (hz3.low.keep hba) hst).mono ?_;rintro e w4 ⟨rfl,v4,hs4,hk4⟩;have hb4:Below w.heap.size w w4:=(ah hb3 hba).trans ((bu hst hk4).mono (by omega));have hc4:w4.cell? ⟨w3.heap.size,0,none⟩=some v4:=cell_of_row w4 _ 0 _ _ _ hs4.1;have hlen:=uK t HF.out;obtain ⟨g4,c4,rfl,hg4⟩:=dE hs4.2 (by omega);have HB4:=ae hb4;have He:=ae (bf hs4.2 (base':=w.heap.size) (by omega));clear hw3 hs3 hb3 hz3 hba hst hs4 hk4 hb4 hlen hg4;go_wp2_with fail;go_ret2;exact ⟨⟨g4,c4,rfl,He.out⟩,HB4.out⟩
end Go.Proofs.YtdibbemgpikgjaaGreatDoor
namespace Go.Proofs.YtdibbemgpikgjaaGreatDoor
open Go Go.RowKit
structure jV (M:Nat) (w:World) (rb:Nat) (rest:List UInt8):Prop where
 at_:∃bb off c,w.heap[rb]? =some (.cells #[.slice (some ⟨bb,off,none⟩) rest.length c] 135 (0,0))∧rest.length≤c∧c≤9223372036854775807∧bb<M∧∀j,j<rest.length→w.cell? ⟨bb,off+j,none⟩=some (Extern.Stop.cell (rest[j]?.getD 0))
 lo:M≤rb
theorem jV.lt {M:Nat} {w:World} {rb:Nat} {rest:List UInt8} (h:jV M w rb rest):rb<w.heap.size:=by
 obtain ⟨bb,off,c,h1,_⟩:=h.at_;exact (bT.1 h1).1
theorem jV.of {M:Nat} {w w':World} {rb:Nat} {rest:List UInt8} (h:jV M w rb rest) (h1:w'.heap[rb]? =w.heap[rb]?) (h2:∀k,k<M→w'.heap[k]? =w.heap[k]?):jV M w' rb rest:=by
 obtain ⟨bb,off,c,g1,g2,g3,g4,g5⟩:=h.at_;exact ⟨⟨bb,off,c,h1.trans g1,g2,g3,g4,fun j hj=>(World.cell?_of_block (a:=⟨bb,off+j,none⟩) (h2 bb g4)).trans (g5 j hj)⟩,h.lo⟩
theorem jV.below {M B:Nat} {w w':World} {rb:Nat} {rest:List UInt8} (h:jV M w rb rest) (hb:Below B w w') (hM:rb<B):jV M w' rb rest:=
 h.of (hb.block rb hM) fun k hk=>hb.block k (by have:=h.lo;omega)
theorem jV.drew {M:Nat} {w:World} {rb:Nat} {rest:List UInt8} (h:jV M w rb rest):jV M w.drew rb rest:=h.of rfl fun _ _=>rfl
def GotT (M:Nat) (w:World) (rb n:Nat) (rest:List UInt8) (e:Ending) (w':World):Prop:=
 ∃bb off c,e= .returned (.slice (some ⟨bb,off,none⟩) n c)∧n≤c∧c≤9223372036854775807∧bb<M∧(∀j,j<n→w'.cell? ⟨bb,off+j,none⟩=some (Extern.Stop.cell ((rest.take n)[j]?.getD 0)))∧jV M w' rb (rest.drop n)∧l7 rb w w'
theorem OL {M:Nat} {w:World} {rb bb off' c' n:Nat} {rest:List UInt8} {v:Value} (hM:M≤rb) (h1:w.heap[rb]? =some (.cells #[v] 135 (0,0))) (h2:rest.length - n≤c') (h3:c'≤9223372036854775807) (h4:bb<M)
  (h5:∀j,j<(rest.drop n).length→w.cell? ⟨bb,off'+j,none⟩=some (Extern.Stop.cell ((rest.drop n)[j]?.getD 0))):
  jV M (w.setCell ⟨rb,0,none⟩ (.slice (some ⟨bb,off',none⟩) (rest.length - n) c')) rb (rest.drop n)∧l7 rb w (w.setCell ⟨rb,0,none⟩ (.slice (some ⟨bb,off',none⟩) (rest.length - n) c')):=by
 have hd:(rest.drop n).length=rest.length - n:=List.length_drop;refine ⟨⟨⟨bb,off',c',?_,by omega,h3,h4,fun j hj=>?_⟩,hM⟩,⟨rfl,rfl,rfl,by simp [World.setCell],fun k _ hk=>heap_setCell_other w ⟨rb,0,none⟩ k _ hk⟩⟩
 ·rw [heap_setCell_same w rb 0 _ _ _ h1,hd];rfl
 ·exact (World.cell?_of_block (a:=⟨bb,off'+j,none⟩) (heap_setCell_other w ⟨rb,0,none⟩ bb _ (by show bb≠rb;omega))).trans (h5 j hj)
theorem wE (M:Nat) (w:World) (rb n:Nat) (rest:List UInt8) (hr:jV M w rb rest) (hn:n≤rest.length):
  Calls Tryz.prog 179 #[.pointer (some ⟨rb,0,none⟩),I n] w (GotT M w rb n rest):=by
 obtain ⟨⟨bb,off,c,h1,h2,h3,h4,h5⟩,hM⟩:=hr;have hc0:w.cell? ⟨rb,0,none⟩=some (.slice (some ⟨bb,off,none⟩) rest.length c):=cell_of_row w rb 0 _ _ _ h1;have hf0:=frozen_of_row w rb 0 _ _ h1;obtain ⟨m,hm⟩:∃m,rest.length=m:=⟨_,rfl⟩;have HM:=ae hm;have HT:Hid (∀j,j<n→w.cell? ⟨bb,off+j,none⟩=some (Extern.Stop.cell ((rest.take n)[j]?.getD 0))):=ae (fun j hj=>by rw [h5 j (by omega),List.getElem?_take_of_lt (by omega)]);have H5:=ae h5;have H1:=ae h1;rw [hm] at hc0 hn h2;clear h1 h5 hm;have n1:¬(m:Int)<(n:Int):=by omega
 have n2:(0:Int)≤(n:Int):=by omega
 by_cases hcn:c=n
 ·have hmn:m=n:=by omega
  subst hmn;subst hcn;have hS:=OL (off':=off) (c':=0) (n:=c) (v:= .slice (some ⟨bb,off,none⟩) rest.length c) hM H1.out (by rw [HM.out];omega) (by omega) h4 (fun j hj=>by rw [List.length_drop,HM.out] at hj;omega);rw [HM.out,Nat.sub_self] at hS;have rW:=ae hS;have HT2:Hid (∀j,j<c→(w.setCell ⟨rb,0,none⟩ (.slice (some ⟨bb,off,none⟩) 0 0)).cell? ⟨bb,off+j,none⟩=some (Extern.Stop.cell ((rest.take c)[j]?.getD 0))):=ae fun j hj=>(World.cell?_of_block (a:=⟨bb,off+j,none⟩) (heap_setCell_other w _ bb _ (by show bb≠rb;omega))).trans (HT.out j hj);clear hS;go_enter Tryz.func179,Tryz.ntmps179
  go_wp2
  go_ret;exact ⟨_,_,_,rfl,Nat.le_refl _,h3,h4,HT2.out,rW.out.1,rW.out.2⟩
 ·have hcn2:¬n=c:=fun h=>hcn h.symm;have hS:=OL (off':=off+n) (c':=c - n) (n:=n) (v:= .slice (some ⟨bb,off,none⟩) rest.length c) hM H1.out (by rw [HM.out];omega) (by omega) h4 (fun j hj=>by
   rw [List.length_drop,HM.out] at hj;rw [Nat.add_assoc,H5.out (n+j) (by rw [HM.out];omega),List.getElem?_drop])
  rw [HM.out] at hS;have rW:=ae hS;have HT2:Hid (∀j,j<n→(w.setCell ⟨rb,0,none⟩ (.slice (some ⟨bb,off+n,none⟩) (m - n) (c - n))).cell? ⟨bb,off+j,none⟩=some (Extern.Stop.cell ((rest.take n)[j]?.getD 0))):=ae fun j hj=>(World.cell?_of_block (a:=⟨bb,off+j,none⟩) (heap_setCell_other w _ bb _ (by show bb≠rb;omega))).trans (HT.out j hj);clear hS;go_enter Tryz.func179,Tryz.ntmps179
  go_wp2
  go_ret;exact ⟨_,_,_,rfl,by omega,h3,h4,HT2.out,rW.out.1,rW.out.2⟩
def hvs (s:Int) (l:List (Nat×UInt8)):Int:=l.foldl (fun s x=>s*256+(x.2.toNat:Int)) s
theorem or_mul (a b:Nat) (h:a<256):(b*256) ||| a=b*256+a:=by
 rw [show b*256=b <<< 8 from by rw [Nat.shiftLeft_eq],Nat.shiftLeft_add_eq_or_of_lt (by omega)]
theorem Qr (s:Int) (c:UInt8):Uz s c=(s*256+(c.toNat:Int))%18446744073709551616:=by
 unfold Uz;have hc:=c.toNat_lt;obtain ⟨b,hb⟩:∃b:Nat,IntKind.u64.wrap (s*256)=((b*256:Nat):Int):=by
  rw [show IntKind.u64.wrap (s*256)=(s*256)%18446744073709551616 by simp [IntKind.wrap,IntKind.bits,IntKind.signed]];exact ⟨((s*256)%18446744073709551616 / 256).toNat,by omega⟩
 have hw:((b*256:Nat):Int)=(s*256)%18446744073709551616:=by rw [←hb];simp [IntKind.wrap,IntKind.bits,IntKind.signed]
 rw [hb,u64_or_nat _ _ (by omega) (by omega),or_mul _ _ (by omega)];omega
theorem MK (s:Int) (c:UInt8):zf s c=wrap64 (s*256+(c.toNat:Int)):=by
 have hc:=c.toNat_lt;have h1:=Qr s c;unfold Uz at h1;have key:∀x y:Int,bits BinOp.or IntKind.i64 (wrap64 x) y=wrap64 (bits BinOp.or IntKind.u64 (IntKind.u64.wrap x) y):=by
  intro x y;have e:BitVec.ofInt 64 (wrap64 x)=BitVec.ofInt 64 (IntKind.u64.wrap x):=by
   apply BitVec.eq_of_toInt_eq;rw [BitVec.toInt_ofInt,BitVec.toInt_ofInt,show IntKind.u64.wrap x=x%18446744073709551616 by simp [IntKind.wrap,IntKind.bits,IntKind.signed]];unfold wrap64;simp only [Int.bmod];omega
  show IntKind.i64.wrap ((BitVec.ofInt 64 (wrap64 x) ||| BitVec.ofInt 64 y).toNat:Int)=wrap64 (IntKind.u64.wrap ((BitVec.ofInt 64 (IntKind.u64.wrap x) ||| BitVec.ofInt 64 y).toNat:Int));rw [e];have hb:=(BitVec.ofInt 64 (IntKind.u64.wrap x) ||| BitVec.ofInt 64 y).isLt;obtain ⟨n,hn⟩:∃n,(BitVec.ofInt 64 (IntKind.u64.wrap x) ||| BitVec.ofInt 64 y).toNat=n:=⟨_,rfl⟩;rw [hn] at hb ⊢;rw [IntKind.wrap_i64,show IntKind.u64.wrap (n:Int)=(n:Int)%18446744073709551616 by simp [IntKind.wrap,IntKind.bits,IntKind.signed]];unfold wrap64;omega
 unfold zf;rw [key,h1];unfold wrap64;omega
theorem Oj (l:List (Nat×UInt8)):∀s t:Int,s=wrap64 t→l.foldl (fun s x=>zf s x.2) s=wrap64 (hvs t l):=by
 induction l with
 |nil=>intro s t h;exact h
 |cons x l ih=>
  intro s t h;rw [List.foldl_cons];refine ih _ (t*256+(x.2.toNat:Int)) ?_;rw [MK];unfold wrap64 at*;omega
theorem rD (n:Int):((byteOf n).toNat:Int)=n%256:=by
 have h:=dF n;unfold Extern.Stop.cell at h;injection h
theorem hvs8 (x:Int) (hx:fits x):wrap64 (hvs 0 (upto (bk (le x 8)) 8))=x:=by
 have e:hvs 0 (upto (bk (le x 8)) 8)=(((((((((0*256+((byteOf (x / 256 / 256 / 256 / 256 / 256 / 256 / 256)).toNat:Int))*256+((byteOf (x / 256 / 256 / 256 / 256 / 256 / 256)).toNat:Int))*256+((byteOf (x / 256 / 256 / 256 / 256 / 256)).toNat:Int))*256+((byteOf (x / 256 / 256 / 256 / 256)).toNat:Int))*256+((byteOf (x / 256 / 256 / 256)).toNat:Int))*256+((byteOf (x / 256 / 256)).toNat:Int))*256+((byteOf (x / 256)).toNat:Int))*256+((byteOf x).toNat:Int))):=rfl;rw [e];simp only [rD];unfold fits at hx;unfold wrap64;omega
theorem hvs4 (x:Int) (h0:0≤x) (h1:x<4294967296):wrap64 (hvs 0 (upto (bk (le x 4)) 4))=x:=by
 have e:hvs 0 (upto (bk (le x 4)) 4)=((((0*256+((byteOf (x / 256 / 256 / 256)).toNat:Int))*256+((byteOf (x / 256 / 256)).toNat:Int))*256+((byteOf (x / 256)).toNat:Int))*256+((byteOf x).toNat:Int)):=rfl;rw [e];simp only [rD];unfold wrap64;omega
theorem hvs1 (x:Int) (h0:0≤x) (h1:x<256):wrap64 (hvs 0 (upto (bk (le x 1)) 1))=x:=by
 have e:hvs 0 (upto (bk (le x 1)) 1)=0*256+((byteOf x).toNat:Int):=rfl;rw [e];simp only [rD];unfold wrap64;omega
theorem Xt (x:Int) (n:Nat) (R:List UInt8):(le x n++R).take n=le x n:=by
 rw [List.take_append_of_le_length (by rw [aF];exact Nat.le_refl n),List.take_of_length_le (by rw [aF];exact Nat.le_refl n)]
theorem Oe (x:Int) (n:Nat) (R:List UInt8):(le x n++R).drop n=R:=by
 rw [List.drop_append_of_le_length (by rw [aF];exact Nat.le_refl n),List.drop_of_length_le (by rw [aF];exact Nat.le_refl n)];rfl
theorem GH (x:Int) (n:Nat) (R:List UInt8):tk (le x n++R) false n=le x n∧tkR (le x n++R) false n=R∧tkB (le x n++R) false n=false:=by
 have e:tkB (le x n++R) false n=false:=by
  unfold tkB;rw [Bool.false_or];exact decide_eq_false (by rw [aZ,aF];omega)
 unfold tk tkR;rw [e];exact ⟨Xt x n R,Oe x n R,rfl⟩
theorem YK (x:Int) (hx:fits x) (R:List UInt8):P9 (le x 8++R) false 8=x:=by
 unfold P9 wG;rw [(GH x 8 R).1,aF,Oj _ 0 0 (by unfold wrap64;omega)];exact hvs8 x hx
theorem rdN_4 (x:Int) (h0:0≤x) (h1:x<4294967296) (R:List UInt8):P9 (le x 4++R) false 4=x:=by
 unfold P9 wG;rw [(GH x 4 R).1,aF,Oj _ 0 0 (by unfold wrap64;omega)];exact hvs4 x h0 h1
theorem pX (x:Int) (h0:0≤x) (h1:x<256) (R:List UInt8):P9 (le x 1++R) false 1=x:=by
 unfold P9 wG;rw [(GH x 1 R).1,aF,Oj _ 0 0 (by unfold wrap64;omega)];exact hvs1 x h0 h1
end Go.Proofs.YtdibbemgpikgjaaGreatDoor
namespace Go.Proofs.YtdibbemgpikgjaaGreatDoor
open Go Go.RowKit Go.Shelf
attribute [local go_sem] Oper.semAt_some
structure jZ (w:World) (pb:Nat) (t:TypeId) (cs:Array Value) (W:World):Prop where
 os:W.os=w.os
 tape:W.tape=w.tape
 output:W.output=w.output
 size:w.heap.size≤W.heap.size
 block:∀k,k<w.heap.size→k≠pb→W.heap[k]? =w.heap[k]?
 tgt:W.heap[pb]? =some (.cells cs t (0,0))
 lt:pb<w.heap.size
theorem jZ.grow {w W W':World} {pb:Nat} {t:TypeId} {cs:Array Value} (h:jZ w pb t cs W) (hb:Below W.heap.size W W'):jZ w pb t cs W':=
 ⟨hb.os.trans h.os,hb.tape.trans h.tape,hb.output.trans h.output,Nat.le_trans h.size hb.size,fun k hk hp=>(hb.block k (dP hk h.size)).trans (h.block k hk hp),(hb.block pb (dP h.lt h.size)).trans h.tgt,h.lt⟩
theorem jZ.put {w W:World} {pb:Nat} {t:TypeId} {cs:Array Value} (h:jZ w pb t cs W) (o:Nat) (v:Value):jZ w pb t (cs.setIfInBounds o v) (W.setCell ⟨pb,o,none⟩ v):=
 ⟨h.os,h.tape,h.output,by simpa [World.setCell] using h.size,fun k hk hp=>(heap_setCell_other W _ k v hp).trans (h.block k hk hp),heap_setCell_same W pb o _ _ _ h.tgt,h.lt⟩
theorem jZ.drew {w W:World} {pb:Nat} {t:TypeId} {cs:Array Value} (h:jZ w pb t cs W):jZ w pb t cs W.drew:=⟨h.os,h.tape,h.output,h.size,h.block,h.tgt,h.lt⟩
theorem jZ.cell {w W:World} {pb:Nat} {t:TypeId} {cs:Array Value} (h:jZ w pb t cs W) (i:Nat):W.cell? ⟨pb,i,none⟩=cs[i]? :=cell_of_row W pb i _ _ _ h.tgt
theorem jZ.dZ {w W:World} {pb:Nat} {t:TypeId} {cs:Array Value} (h:jZ w pb t cs W) (i:Nat):W.frozen? ⟨pb,i,none⟩=false:=frozen_of_row W pb i _ _ h.tgt
theorem Xu {β:Type} {w:World} {pb B:Nat} {t:TypeId} (f:β→Array Value) (hB:w.heap.size≤B):OwnFrom B (fun s W=>jZ w pb t (f s) W):=
 fun s W W' row hs hg hr=>⟨hg.os.trans hs.os,hg.tape.trans hs.tape,hg.output.trans hs.output,Nat.le_trans hs.size hg.size,
  fun k hk hp=>(hg.block k (dP hk hs.size) (fun e=>by have:=(hr k e.symm).1;omega)).trans (hs.block k hk hp),
  (hg.block pb (dP hs.lt hs.size) (fun e=>by have:=(hr pb e.symm).1;have:=hs.lt;omega)).trans hs.tgt,hs.lt⟩
structure dU (w:World) (rb pb:Nat) (t:TypeId) (cs:Array Value) (w':World):Prop where
 os:w'.os=w.os
 tape:w'.tape=w.tape
 output:w'.output=w.output
 size:w.heap.size≤w'.heap.size
 block:∀k,k<w.heap.size→k≠pb→k≠rb→w'.heap[k]? =w.heap[k]?
 tgt:w'.heap[pb]? =some (.cells cs t (0,0))
theorem Us {w w2 W:World} {M pb po B:Nat} {t:TypeId} {cs:Array Value} {pre:List (Nat×UInt8)} {xi:Nat} {xc:UInt8} {v u:Int} (EM:M≤pb) (hpb:pb<w.heap.size) (hw2:w.heap.size<w2.heap.size)
  (hbx:Boxed W w.heap.size 109 (.pointer (some ⟨pb,po,none⟩))) (hB:jZ w2 pb t (cs.setIfInBounds po (I (wG pre))) W) (hu:wG pre=u) (hv:v=zf u xc):
  KeepsFrom B W (W.setCell ⟨pb,po,none⟩ (I v)).drew∧BK M w2.heap.size W (W.setCell ⟨pb,po,none⟩ (I v)).drew∧Boxed (W.setCell ⟨pb,po,none⟩ (I v)).drew w.heap.size 109 (.pointer (some ⟨pb,po,none⟩))∧jZ w2 pb t (cs.setIfInBounds po (I (wG (pre++ [(xi,xc)])))) (W.setCell ⟨pb,po,none⟩ (I v)).drew:=by
 have hk:KeepsOthers W (W.setCell ⟨pb,po,none⟩ (I v)):=KeepsOthers.setCell _ _ _;have hk2:KeepsOthers W (W.setCell ⟨pb,po,none⟩ (I v)).drew:=⟨hk.size,hk.same⟩;refine ⟨hk2.from _,⟨((Below.refl M W).setCell (p:=⟨pb,po,none⟩) EM _).drew,?_⟩,?_,?_⟩
 ·exact World.cell?_of_block (a:=⟨w2.heap.size,0,none⟩) (heap_setCell_other W _ _ _ (by show w2.heap.size≠pb;omega))
 ·exact (heap_setCell_other W _ _ _ (by show w.heap.size≠pb;omega)).trans hbx
 ·have h:=hB.put po (I v);rw [Array.setIfInBounds_setIfInBounds] at h;rw [Qp,hu,←hv];exact h.drew
def TNum (M:Nat) (w:World) (rb pb po:Nat) (t:TypeId) (cs:Array Value) (rest:List UInt8) (size:Nat) (e:Ending) (w':World):Prop:=
 e= .returned (.tuple #[])∧jV M w' rb (rest.drop size)∧dU w rb pb t (cs.setIfInBounds po (I (P9 rest false size))) w'
theorem GK (M:Nat) (w:World) (rb pb po size:Nat) (t:TypeId) (cs:Array Value) (rest:List UInt8) (hr:jV M w rb rest) (h8:size≤8) (hn:size≤rest.length) (hp:w.heap[pb]? =some (.cells cs t (0,0))) (hpo:po<cs.size) (EM:M≤pb) (hne:pb≠rb):
  Calls Tryz.prog 176 #[pt rb, .pointer (some ⟨pb,po,none⟩),I size] w (TNum M w rb pb po t cs rest size):=by
 refine (callsIn_wide (n:=3)).1 ?_;have hro:Fence.wide.round=none:=rfl;have h1:1≤3:=by omega
 have hlt:=hr.lt;have hpl:pb<w.heap.size:=(bT.1 hp).1;have hMl:=hr.lo;have hc0:w.cell? ⟨pb,po,none⟩=some cs[po]:=by rw [cell_of_row w pb po _ _ _ hp];exact Array.getElem?_eq_getElem hpo
 have hf0:w.frozen? ⟨pb,po,none⟩=false:=frozen_of_row w pb po _ _ hp;obtain ⟨WS,hWS⟩:∃W,w.setCell ⟨pb,po,none⟩ (I 0)=W:=⟨_,rfl⟩;have hsS:WS.heap.size=w.heap.size:=by rw [←hWS];simp [World.setCell]
 have hTS:jZ w pb t (cs.setIfInBounds po (I 0)) WS:=by
  rw [←hWS];exact ⟨rfl,rfl,rfl,by simp [World.setCell],fun k _ hk2=>heap_setCell_other _ _ k _ hk2,heap_setCell_same _ pb po _ _ _ hp,hpl⟩
 obtain ⟨W1,hW1⟩:∃W,WS.alloc (.cells #[.pointer (some ⟨pb,po,none⟩)] 109)=W:=⟨_,rfl⟩;have hs1:W1.heap.size=w.heap.size+1:=by rw [←hW1];simp [hsS]
 have hT1:jZ w pb t (cs.setIfInBounds po (I 0)) W1:=by rw [←hW1];exact hTS.grow (ag WS _)
 have Yx:Boxed W1 w.heap.size 109 (.pointer (some ⟨pb,po,none⟩)):=by
  rw [←hW1,←hsS];exact Boxed.new WS 109 (.pointer (some ⟨pb,po,none⟩))
 rw [←hWS] at hW1;have hr1:jV M W1 rb rest:=hr.of (hT1.block rb hlt (fun e=>hne e.symm)) fun k hk=>hT1.block k (by omega) (by omega);have HT0:=wE M W1 rb size rest hr1 hn;obtain ⟨bs,hbs⟩:∃bs,rest.take size=bs:=⟨_,rfl⟩;have hbl:bs.length=size:=by rw [←hbs,List.length_take];omega
 unfold GotT at HT0;rw [hbs] at HT0;have hrd:P9 rest false size=wG (upto (bk bs) bs.length):=by
  have e1:tkB rest false size=false:=by unfold tkB;simp;omega
  unfold P9 tk;rw [e1];simp only [Bool.false_eq_true,if_false,hbs]
 have HL:=ae hbl;have Zp:=ae hrd;have HT:=ae HT0;have HT1:=ae hT1;have HBOX:=ae Yx;have HW1:=ae hW1;have HP:=ae hp;clear hr hr1 HT0 hbs hbl hrd hT1 Yx hW1 hWS hsS hTS hp;refine callsIn_of_wp_marks Tryz.func176 rfl trivial ?_ hro;simp only [Tryz.ntmps176,List.size_toArray,List.length_cons,List.length_nil,Nat.reduceAdd,Nat.reduceSub,Array.replicate_succ,Array.replicate_zero,List.push_toArray,List.append_toArray,List.nil_append,List.cons_append]
 gi_wp2_with first
  |(refine ⟨trivial,?_⟩;gi_at_call 179;rw [HW1.out];refine (callsIn_wide.2 HT.out).mono ?_;rintro e w2 ⟨bb,off,c,rfl,hcl,hcc,hbM,hby,hrs,hk⟩;have uZ:=ae hby;have QL:=ae hrs;have HK:=ae hk;clear hby hrs hk)
  |(refine ⟨trivial,?_⟩;gi_at_call 180;refine (VK Fence.wide 2 trivial hro _ _ _ _).mono ?_;rintro e w' ⟨rfl,rfl⟩)
 have hsk:=HK.out.size;have hT2:jZ w2 pb t (cs.setIfInBounds po (I 0)) w2:=⟨rfl,rfl,rfl,Nat.le_refl _,fun _ _ _=>rfl,(HK.out.block pb (by omega) hne).trans HT1.out.tgt,by omega⟩;have Yy:Boxed w2 w.heap.size 109 (.pointer (some ⟨pb,po,none⟩)):=(HK.out.block w.heap.size (by omega) (by omega)).trans HBOX.out;have hB1:Below w.heap.size w2 (w2.alloc (.cells #[.slice (some ⟨bb,off,none⟩) size c] 32)):=((Below.refl _ w2).alloc (Nat.le_refl _) _).mono (by omega);have IW:BytesAt (w2.alloc (.cells #[.slice (some ⟨bb,off,none⟩) size c] 32)) M (some ⟨bb,off,none⟩) bs:= .inr ⟨bb,off,rfl,hbM,fun j hj=>(hB1.cell (p:=⟨bb,off+j,none⟩) (by show bb<w.heap.size;omega)).trans (uZ.out j (by have:=HL.out;omega))⟩;have bN:=Boxed.new w2 32 (.slice (some ⟨bb,off,none⟩) size c);have hcl2:(w2.alloc (.cells #[.slice (some ⟨bb,off,none⟩) size c] 32)).cell? ⟨w2.heap.size,0,none⟩=some (.slice (some ⟨bb,off,none⟩) size c):=bN.cell;have hst:=KP Fence.wide (3 - 1) trivial hro (by omega) w2.heap.size M (some ⟨bb,off,none⟩) c bs (by have:=HL.out;omega) (w2.alloc (.cells #[.slice (some ⟨bb,off,none⟩) size c] 32)) (by simp) (by simp;omega) (by rw [HL.out];exact hcl2) IW;have hI0:jZ w2 pb t (cs.setIfInBounds po (I 0)) (w2.alloc (.cells #[.slice (some ⟨bb,off,none⟩) size c] 32)):=hT2.grow (ag w2 _);refine wpIn_rangeFunc_ownG hro h1 (gf:=181) (lb:= #[.pointer (some ⟨w2.heap.size,0,none⟩)]) rfl trivial (enters_of Tryz.func181 (by kernel_rfl) rfl)
  hst (fun h k=>h.trans k) (Z5 (by simp;omega) (by simp)) (Below.refl _ _) (fun _=>rfl)
  (fun pre W=>Boxed W w.heap.size 109 (.pointer (some ⟨pb,po,none⟩))∧jZ w2 pb t (cs.setIfInBounds po (I (wG pre))) W)
  (fun _ _ _=>False)
  (OwnFrom.and (Own.from (boxed_own _ _ _) _) (Xu _ (by simp)))
  (fun _ _ _ _ _ hs _ _=>hs)
  ⟨Yy.alloc _,hI0⟩
  (fun x=> {tmps:= #[pt rb, .pointer (some ⟨pb,po,none⟩),I size,undef, .pointer (some ⟨w.heap.size,0,none⟩),undef,undef,Extern.Stop.cell x.2, .pointer (some ⟨pb,po,none⟩), .pointer (some ⟨pb,po,none⟩),pt rb,I size, .slice (some ⟨bb,off,none⟩) size c, .func (.func 181) #[] #[.pointer (some ⟨w2.heap.size,0,none⟩)], .int .i64 (x.1:Int),Extern.Stop.cell x.2,undef,undef,undef,undef,undef,undef,undef,undef,undef],defers:= []}) ?assign ?body ?done ?stop
 case assign=>
  intro l x W K hK
  gi_wp2
  exact hK
 case body=>
  rintro l pre ⟨xi,xc⟩ W ⟨hbx,hB⟩ _;have hc:=hbx.cell;have hx1:(xc.toNat:Int)<256:=by have:=xc.toNat_lt;omega
  have hx2:(0:Int)≤xc.toNat:=by omega
  simp only [Extern.Stop.cell];have hcp:W.cell? ⟨pb,po,none⟩=some (I (wG pre)):=(hB.cell po).trans (by simp [hpo]);have hfp:=hB.dZ po;have HBX:=ae hbx;have HBB:=ae hB;have hwl:w.heap.size<w2.heap.size:=by omega
  obtain ⟨u,hu⟩:∃u,wG pre=u:=⟨_,rfl⟩;rw [hu] at hcp;have HU:=ae hu;have HV:Hid (bits BinOp.or IntKind.i64 (IntKind.i64.wrap (u*256)) xc.toNat=zf u xc):=ae (by unfold zf;rw [show IntKind.i64.wrap (u*256)=wrap64 (u*256) from by rw [IntKind.wrap_i64];unfold wrap64;omega]);have hxw:IntKind.i64.wrap (xc.toNat:Int)=(xc.toNat:Int):=by rw [IntKind.wrap_i64];omega
  clear hbx hB hT2 Yy hB1 IW bN hcl2 hst hI0 hc0 hf0 hu uZ QL HT HT1 HBOX HW1 HP Zp HL
  gi_wp2
  gi_region
  all_goals exact Us EM hpl hwl HBX.out HBB.out HU.out HV.out
 case done=>
  rintro D ys W hD rfl ⟨hbx,hB⟩ hK;have hc:=hbx.cell
  gi_wp2
  refine ⟨by simp, .inl ⟨_,_,rfl,run_takeDeferred hK,?_⟩⟩;refine ⟨.tuple #[],by simp [results,Tryz.results176],?_⟩;have hD2:w2.heap.size+1≤D:=by simpa using hD
  have hpo:∀k,k<w2.heap.size→(W.putObj D (.deferred none)).heap[k]? =W.heap[k]? :=fun k hk=>World.putObj_heap_other (by omega);refine ⟨rfl,QL.out.of ((hpo rb (by omega)).trans (hB.block rb (by omega) (fun e=>hne e.symm))) (fun k hk=>(hpo k (by omega)).trans (hB.block k (by omega) (by omega))),?_⟩;rw [Zp.out];have hT1:=HT1.out;refine ⟨hB.os.trans (HK.out.os.trans hT1.os),hB.tape.trans (HK.out.tape.trans hT1.tape),hB.output.trans (HK.out.output.trans hT1.output),?_,fun k hk h2 h3=>?_,?_⟩
  ·have h1:=hB.size;simp only [World.putObj,Array.size_setIfInBounds];omega
  ·exact (hpo k (by omega)).trans ((hB.block k (by omega) h2).trans ((HK.out.block k (by omega) h3).trans (hT1.block k hk h2)))
  ·refine (hpo pb (by omega)).trans ?_;exact hB.tgt
 case stop=>
  rintro D c pre W _ _ h _;exact h.elim
end Go.Proofs.YtdibbemgpikgjaaGreatDoor
