/- The texts Od, Jp, Va, in this order. -/
import Derived.Test.YtbaehbbonkljpaaGreatDoorS00
import Derived.Test.YtbaehbbonkljpaaGreatDoorS03
import Derived.Test.YtbaehbbonkljpaaGreatDoorS05
import Derived.Test.YtbaehbbonkljpaaGreatDoorS07
import Derived.Test.YtbaehbbonkljpaaGreatDoorS17
import Derived.Test.YtbaehbbonkljpaaGreatDoorS18
set_option maxRecDepth 10000
set_option maxHeartbeats 8000000
namespace Go.Proofs.YtbaehbbonkljpaaGreatDoor
open Go Go.RowKit
attribute [local go_sem] kQ kU kR kV pq pG kN kS kP kT
def Rh (zs:List Ze):List UInt8:=zs.flatMap Wy
theorem VN (zs:List Ze) (x:Ze):Rh (zs++ [x])=Rh zs++Wy x:=by simp [Rh]
def WyRel (w:World) (g:Nat) (v:Value) (bs:List UInt8) (n:Nat) (zs:List Ze) (i:Value) (wr:World):Prop:=
 ∃k:Nat,k<=n/\i= .int .i64 k/\∃v',ig wr g v' (bs++(le n 1++Rh (zs.take k)))/\iL g v w v' wr
structure EJ (g:Nat) (w:World) (A:Option Addr) (zs:List dw):Prop where
 row:zs.length=0\/∃zg zo,A=some ⟨zg,zo,none⟩/\zg<g/\(∀j u,(aU zs)[j]? =some u->w.cell? ⟨zg,zo+j,none⟩=some u)/\∀j,w.frozen? ⟨zg,zo+j,none⟩=false
 each:∀x∈zs,iP w g x.s x.e.z
theorem EJ.keep {g:Nat} {w w':World} {A:Option Addr} {zs:List dw} (h:EJ g w A zs) (hb:Below g w w'):EJ g w' A zs:=
 ⟨h.row.elim .inl fun ⟨zg,zo,h1,h2,h3,h4⟩=> .inr ⟨zg,zo,h1,h2,fun j u hu=>(hb.cell (p:=⟨zg,zo+j,none⟩) h2).trans (h3 j u hu),fun j=>(hb.frozen (p:=⟨zg,zo+j,none⟩) h2).trans (h4 j)⟩,fun x hx=>(h.each x hx).keep hb⟩
theorem tq.low {lo:Nat} {w:World} {A:Option Addr} {zs:List dw} (h:tq lo w A zs):EJ w.heap.size w A zs:=by
 refine ⟨?_,fun x hx=>(h.each x hx).at⟩;rcases h.free with h1|⟨b,off,h1,_,h2,h3⟩
 ·exact .inl h1
 ·rcases h.row with h4|⟨b',off',h4,_,_,h5⟩
  ·rw [dX] at h4;exact .inl (by omega)
  ·rw [h1] at h4;injection h4 with h4;injection h4 with e1 e2;subst e1 e2;exact .inr ⟨b,off,h1,h2,h5,h3⟩
def lJ (t:Tb):List UInt8:=le t.bG 1++(le t.version 1++(le t.aO 1++(t.prev++(le t.aF.length 1++Rh t.aF))))
attribute [local go_sem] ja jb jc bC
end Go.Proofs.YtbaehbbonkljpaaGreatDoor
namespace Go.Proofs.YtbaehbbonkljpaaGreatDoor
open Go Go.RowKit
attribute [local go_sem] kQ kU kR kV pq pG kN kS kP kT
structure TbY (t:Tb):Prop where
 bG:0<=t.bG/\t.bG<16
 version:1<=t.version/\t.version<=64
 aO:0<=t.aO/\t.aO<t.version
 prev:t.prev.length=32
 bP:t.bP.length=32
 num:t.aF.length<=128
 good:∀e∈t.aF,Ag e.z
 short:∀e∈t.aF,e.name.size<=32
theorem zvF_0 {z:Zn} (h:vg z=0):Ag z:=by
 unfold vg at h;split at h
 ·omega
 ·split at h
  ·rename_i h2;exact (Gx z).1 h2
  ·omega
theorem Ou:∀(es:List Ze) (last:ByteArray),eu last es=0->∀e∈es,Ag e.z/\e.name.size<=32
 | [],_,_,_,h=>nomatch h
 |x::es,last,h,e,he=>by
  rw [oZ] at h;split at h
  ·omega
  ·rename_i h1;split at h
   ·rename_i h2;rcases List.mem_cons.1 he with rfl|he
    ·exact ⟨zvF_0 h2,by omega⟩
    ·exact Ou es _ h e he
   ·rename_i h2;exact absurd h h2
theorem JZ {t:Tb} (h:mg t=0) (hp:t.prev.length=32) (hm:t.bP.length=32):TbY t:=by
 unfold mg at h;split at h
 ·omega
 ·rename_i h1;split at h
  ·omega
  ·rename_i h2;split at h
   ·omega
   ·unfold Wq at h1;unfold Ws at h2;simp only [decide_eq_true_eq] at h1 h2;have h3:=Ou _ _ h;exact ⟨by omega,by omega,by omega,hp,hm,by omega,fun e he=>(h3 e he).1,fun e he=>(h3 e he).2⟩
theorem Dz (zs:List Ze) (h:∀e∈zs,Ag e.z/\e.name.size<=32):(Rh zs).length<=zs.length*5400:=by
 induction zs with
 |nil=>exact Nat.zero_le _
 |cons x zs ih=>
  have h1:=ih fun e he=>h e (List.mem_cons_of_mem _ he);have h2:=VG (h x List.mem_cons_self).1 (h x List.mem_cons_self).2;unfold Rh at h1 ⊢;rw [List.flatMap_cons,bF,List.length_cons];omega
theorem JK (t:Tb) (h:TbY t):36<=(lJ t).length/\(lJ t).length<=700000:=by
 have h1:=Dz t.aF fun e he=>⟨h.good e he,h.short e he⟩;have h2:=h.num;have h3:=h.prev;simp only [lJ,bF,aC];omega
theorem Ag.len {z:Zn} (h:Ag z):jB z:=by
 have h1:=h.cal.ml;have h2:=h.cal.rl;have h3:=h.QS;have h4:=h.yr.len;exact ⟨by omega,by omega,by omega,by omega⟩
theorem Hl (w:World) (g lb lo zg zo n c:Nat) (zs:List dw) (v:Value) (bs:List UInt8) (hn:zs.length=n) (hn2:n<=128) (hp:w.cell? ⟨lb,lo,none⟩=some (.slice (some ⟨zg,zo,none⟩) n c)) (TW:lb<g) (hzg:zg<g)
  (hcl:∀j u,(aU zs)[j]? =some u->w.cell? ⟨zg,zo+j,none⟩=some u) (hfz:∀j,w.frozen? ⟨zg,zo+j,none⟩=false) (hfl:∀x∈zs,Ag x.e.z/\x.e.name.size<=32) (hI:∀x∈zs,iP w g x.s x.e.z)
  (hl:bs.length<=1000000) (hst:ig w g v bs):
  Calls Tryz.prog 64 #[.iface 91 (pt g), .pointer (some ⟨lb,lo,none⟩),I 1, .func (.func 65) #[] #[]] w (iY w g v (bs++(le n 1++Rh (zs.map (·.e))))):=by
 have HC:=ae (jL w.drew g v bs n 1 (by omega) (by omega) (by omega) (by omega) hst.drew);have HST:=ae hst;have HN:=ae hn;have HF:=ae hfl;have iM:=ae hcl;have HFZ:=ae hfz;have HI:=ae hI;have HP:=ae hp;have hgl:=hst.lt;clear hst hn hfl hcl hfz hI;go_enter Tryz.func64,Tryz.ntmps64;go_wp2_with fail;go_still_tail 9,(by kernel_rfl);go_wp2_with fail;refine HC.out.mono ?_;rintro e w1 ⟨rfl,v1,hs1,hk1⟩;have lg:=ae hs1;have jP:=ae (aQ hk1);clear hs1 hk1 HC hp;go_wp2_with fail
 go_loopw [22] (fun i wr=>WyRel w g v bs n (zs.map (·.e)) i wr) (fun i _=>n - (intOf i).toNat)
 case atStart=>exact ⟨0,Nat.zero_le _,rfl,v1,by simpa [Rh] using lg.out,jP.out⟩
 case round=>
  obtain ⟨k,hk,rfl,v2,hs2,hk2⟩:=hrel;have hb2:=df HST.out hk2;have HB2:=ae hb2;have HS2:=ae hs2;have jA:=ae hk2;have hp2:wr.cell? ⟨lb,lo,none⟩=some (.slice (some ⟨zg,zo,none⟩) n c):=(hb2.cell (p:=⟨lb,lo,none⟩) TW).trans HP.out;clear hs2 hk2 hb2 lg jP;by_cases hlt:k<n
  ·have hkz:k<zs.length:=by rw [HN.out];exact hlt
   obtain ⟨x,hx⟩:∃x,zs[k]? =some x:=⟨_,bK hkz⟩;have hxm:=gZ hx;have hlen:(bs++(le (n:Int) 1++Rh ((zs.map (·.e)).take k))).length<=9000000:=by
    have h1:=Dz ((zs.map (·.e)).take k) fun e he=>by
     obtain ⟨y,hy,rfl⟩:=List.mem_map.1 (List.mem_of_mem_take he);exact HF.out y hy
    have h2:((zs.map (·.e)).take k).length<=128:=by rw [List.length_take,List.length_map,HN.out];omega
    simp only [bF,aC];omega
   have HM:=ae (Vq wr g zg (zo+k*9) x v2 _ (HF.out x hxm).1 (HF.out x hxm).2 (aA.elem (w:=wr) (s:=9) (f:=fun x:dw=>x.cells.toList) (fun _ _=>rfl) (fun j u hu=>(HB2.out.cell (p:=⟨zg,zo+j,none⟩) hzg).trans (iM.out j u hu)) k x hx) (by
    have hf:=(HB2.out.frozen (p:=⟨zg,zo+(k*9+3),none⟩) hzg).trans (HFZ.out (k*9+3));rw [show zo+k*9+1+2=zo+(k*9+3) by omega];exact hf) hzg ((HI.out x hxm).keep HB2.out) hlen HS2.out)
   have HX:=ae hx;have i0:(0:Int)<=(k:Int):=by omega
   have i1:(k:Int)<(n:Int):=by omega
   have i2:((k:Int)==(n:Int))=false:=by simp;omega
   clear hkz hx hlen hxm;go_wp2_with fail;refine HM.out.mono ?_;rintro e w3 ⟨rfl,v3,hs3,hk3⟩;have oz:=ae hs3;have nC:=ae (jA.out.trans hk3);clear hs3 hk3 hp2;go_wp2_with fail;go_roundw
   case rel=>exact ⟨k+1,by omega,by go_num,v3,by rw [jX (zs.map (·.e)) k x.e (by rw [List.getElem?_map,HX.out];rfl),VN,<-List.append_assoc (le _ _),<-List.append_assoc];exact oz.out,nC.out⟩
   case measure=>simp [intOf];omega
  ·have hkn:k=n:=by omega
   have oC:=ae hkn;clear hkn;go_wp2_with fail
   go_end0
   exact ⟨rfl,v2,by have h:=HS2.out;rwa [oC.out,List.take_of_length_le (by rw [List.length_map,HN.out];exact Nat.le_refl _)] at h,jA.out⟩
theorem J9 (w:World) (g lb lo n c:Nat) (A:Option Addr) (zs:List dw) (v:Value) (bs:List UInt8) (hn:zs.length=n) (hn2:n<=128) (hp:w.cell? ⟨lb,lo,none⟩=some (.slice A n c)) (TW:lb<g) (hz:EJ g w A zs) (hfl:∀x∈zs,Ag x.e.z/\x.e.name.size<=32)
  (hl:bs.length<=1000000) (hst:ig w g v bs):
  Calls Tryz.prog 64 #[.iface 91 (pt g), .pointer (some ⟨lb,lo,none⟩),I 1, .func (.func 65) #[] #[]] w (iY w g v (bs++(le n 1++Rh (zs.map (·.e))))):=by
 by_cases h0:n=0
 ·subst h0;have:=Hg w g lb lo A c v bs hp (by omega) hst;rw [List.eq_nil_of_length_eq_zero hn];simpa [Rh] using this
 ·rcases hz.row with h|⟨zg,zo,rfl,h2,h3,h4⟩
  ·omega
  ·exact Hl w g lb lo zg zo n c zs v bs hn hn2 hp TW h2 h3 h4 hfl hz.each hl hst
attribute [local go_sem] ja jb jc bC
theorem Vs (w:World) (g tb n c:Nat) (t:Tb) (A:Option Addr) (zs:List dw) (v:Value) (h:TbY t) (hzz:t.aF=zs.map (·.e)) (hn:zs.length=n) (htb:tb<g) (hr:Row w tb (ai t (.slice A n c))) (hz:EJ g w A zs) (hst:ig w g v []):
  Calls Tryz.prog 43 #[.iface 91 (pt g), .pointer (some ⟨tb,0,none⟩)] w (iY w g v (lJ t)):=by
 have hgl:=hst.lt;have c0:=hr.2 0;have c1:w.cell? ⟨tb,1,none⟩=some (I t.version):=(hr.2 1).trans (jb _ _);have c2:w.cell? ⟨tb,2,none⟩=some (I t.aO):=(hr.2 2).trans (jc _ _);have c3:w.cell? ⟨tb,3,none⟩=some (.slice A n c):=(hr.2 3).trans (bC _ _);have hn2:n<=128:=by have:=h.num;rw [hzz,List.length_map] at this;omega
 have q1:=h.bG;have q2:=h.version;have q3:=h.aO;have mG:=ae (dC w.drew g ⟨tb,0,none⟩ v [] t.bG 1 (by omega) (by omega) (by omega) (by decide) hst.lt hst.drew (c0.trans (ja _ _)));have HPV:=ae (uU t (.slice A n c) hr);have HST:=ae hst;have HF:=ae h;have HZ:=ae hz;have Xo:=ae hzz;have HN:=ae hn;have VT:Hid (∀j u,Below g w u->u.cell? ⟨tb,j,none⟩=w.cell? ⟨tb,j,none⟩):=ae fun j u hb=>hb.cell (p:=⟨tb,j,none⟩) htb;have HFL:Hid (∀x∈zs,Ag x.e.z/\x.e.name.size<=32):=ae fun x hx=>by
  have hm:x.e∈t.aF:=by rw [hzz];exact List.mem_map_of_mem hx
  exact ⟨h.good _ hm,h.short _ hm⟩
 clear h hr hst hz hzz hn c0;go_enter Tryz.func43,Tryz.ntmps43;go_wp2_with fail;go_still_tail 7,(by kernel_rfl);go_wp2_with fail;refine mG.out.mono ?_;rintro e w1 ⟨rfl,v1,hs1,hk1⟩;obtain ⟨B1,hB1⟩:∃B,[]++le t.bG 1=B:=⟨_,rfl⟩;have hl1:B1.length<=1:=by rw [<-hB1];simp [aC]
 rw [hB1] at hs1;have hb1:=df HST.out (aQ hk1);have HB1:=ae hb1;have lg:=ae hs1;have jP:=ae (aQ hk1);have kD:=ae hB1;have HC2:=ae (dC w1.drew g ⟨tb,1,none⟩ v1 B1 t.version 1 (by omega) (by omega) (by omega) (by omega) hs1.lt hs1.drew ((VT.out _ _ hb1).trans c1));clear hs1 hk1 hb1 mG hB1 c1;go_wp2_with fail;go_still_tail 7,(by kernel_rfl);go_wp2_with fail;refine HC2.out.mono ?_;rintro e w2 ⟨rfl,v2,hs2,hk2⟩;obtain ⟨B2,hB2⟩:∃B,B1++le t.version 1=B:=⟨_,rfl⟩;have hl2:B2.length<=2:=by rw [<-hB2,bF,aC];omega
 rw [hB2] at hs2;have hb2:=HB1.out.trans (df lg.out (aQ hk2));have HB2:=ae hb2;have HS2:=ae hs2;have jA:=ae (jP.out.trans (aQ hk2));have jr:=ae hB2;have xX:=ae (dC w2.drew g ⟨tb,2,none⟩ v2 B2 t.aO 1 (by omega) (by omega) (by omega) (by omega) hs2.lt hs2.drew ((VT.out _ _ hb2).trans c2));clear hs2 hk2 hb2 HC2 hB2 c2;go_wp2_with fail;go_still_tail 7,(by kernel_rfl);go_wp2_with fail;refine xX.out.mono ?_;rintro e w3 ⟨rfl,v3,hs3,hk3⟩;obtain ⟨B3,hB3⟩:∃B,B2++le t.aO 1=B:=⟨_,rfl⟩;have hl3:B3.length<=3:=by rw [<-hB3,bF,aC];omega
 rw [hB3] at hs3;have hb3:=HB2.out.trans (df HS2.out (aQ hk3));have HB3:=ae hb3;have oz:=ae hs3;have nC:=ae (jA.out.trans (aQ hk3));have yY:=ae hB3;have xZ:=ae (JO w3.drew g tb 4 v3 B3 t.prev (by omega) (fun j u hu=>(VT.out _ _ hb3).trans (HPV.out j u hu)) HF.out.prev hs3.drew);clear hs3 hk3 hb3 xX hB3;go_wp2_with fail;go_still_tail 7,(by kernel_rfl);go_wp2_with fail;refine xZ.out.mono ?_;rintro e w4 ⟨rfl,v4,hs4,hk4⟩;obtain ⟨B4,hB4⟩:∃B,B3++t.prev=B:=⟨_,rfl⟩;have hl4:B4.length<=35:=by rw [<-hB4,bF,HF.out.prev];omega
 rw [hB4] at hs4;have hb4:=HB3.out.trans (df oz.out (aQ hk4));have DT:=ae hs4;have NZ:=ae (nC.out.trans (aQ hk4));have PR:=ae hB4;have PK:=ae (J9 w4 g tb 3 n c A zs v4 B4 HN.out hn2 ((VT.out _ _ hb4).trans c3) htb (HZ.out.keep hb4) HFL.out (by omega) hs4);clear hs4 hk4 hb4 xZ hB4 c3;go_wp2_with fail;refine PK.out.mono ?_;rintro e w5 ⟨rfl,v5,hs5,hk5⟩;have ED:=ae hs5;have yX:=ae (NZ.out.trans hk5);clear hs5 hk5 PK;go_wp2_with fail
 go_end0
 refine ⟨rfl,v5,?_,yX.out⟩;have hh:=ED.out;rw [<-PR.out,<-yY.out,<-jr.out,<-kD.out] at hh;unfold lJ;rw [Xo.out,List.length_map,HN.out];simpa only [List.append_assoc,List.nil_append] using hh
theorem pW (t:Tb) (A:Option Addr) (n c:Nat) (zs:List dw) (w:World) (h:TbY t) (hzz:t.aF=zs.map (·.e)) (hn:zs.length=n) (hA:kz w w.heap.size A zs) (hv:mg t=0):
  Calls Tryz.prog 22 #[.agg (ai t (.slice A n c))] w (SQ w (lJ t)):=by
 have HR0:=ae (Row.new w (ai t (.slice A n c)) 26);have HB0:=ae (ag w (.cells (ai t (.slice A n c)) 26));have HH0:=ae (heap_alloc_last w (.cells (ai t (.slice A n c)) 26));have dU:Hid (∀v,(Tryz.prog.info? 26).map (·.size)=some (ai t v).size):=ae fun v=>bD t v h.prev h.bP;have EE:Hid (∀u v,(ai t u).size=(ai t v).size):=ae fun u v=>by rw [bf _ _ h.prev h.bP,bf _ _ h.prev h.bP]
 have HV:Hid (∀W,Below w.heap.size w W->Calls Tryz.prog 29 #[.agg (ai t (.slice A n c))] W (Gives (I 0) W)):=ae fun W hb=>
  by have h9:=pX t A n c zs W h.prev hzz hn (hA.grow hb);rw [hv] at h9;exact h9
 have iM:Hid (∀W,Below w.heap.size w W->Calls Tryz.prog 36 #[.agg (ai t (.slice A n c))] W (ClV W ⟨t,A,c,zs⟩)):=ae fun W hb=>by
  have h2:zs.length<=128:=by have:=h.num;rw [hzz,List.length_map] at this;exact this
  exact wJ ⟨t,A,c,zs⟩ n W hn (by omega) (fun y hy=>(h.good _ (by rw [hzz];exact List.mem_map_of_mem hy)).len) ⟨hzz,h.prev,h.bP,hA.grow hb⟩
 have HF:=ae h;have Xo:=ae hzz;have HN:=ae hn;clear h hzz hn hA hv;go_enter Tryz.func22,Tryz.ntmps22;go_wp2_with (with_reducible refine dY 26 ?_;refine aJ rfl _ _ rfl w.heap.size rfl (ai t (.slice A n c)) HR0.out _ Tryz.underlying26 rfl (dU.out _) ?_);refine (HV.out _ HB0.out).mono ?_;rintro e w1 ⟨rfl,hb1⟩;have HR1:=ae (HR0.out.keep hb1);have HB1:=ae (ah HB0.out hb1);have HH1:Hid (w1.heap[w.heap.size]? =some (.cells (ai t (.slice A n c)) 26 (0,0))):=ae ((hb1.block _ (by simp)).trans HH0.out);clear hb1 HR0 HB0 HH0 HV;go_wp2_with (with_reducible refine dY 26 ?_;refine aJ rfl _ _ rfl w.heap.size rfl (ai t (.slice A n c)) HR1.out _ Tryz.underlying26 rfl (dU.out _) ?_);refine (iM.out _ HB1.out).mono ?_;rintro e w2 ⟨⟨t2,A2,c2,zs2⟩,ht2,he2,rfl,hO2,hb2⟩;have ht3:t=t2:=ht2.symm;subst ht3;have he2:zs2.map (·.e)=zs.map (·.e):=he2;have rD:=ae (show tq w1.heap.size w2 A2 zs2 from hO2.aF);have hy2:zs2.length=n:=by have:=congrArg List.length he2;simpa [HN.out] using this
 have HE2:=ae he2;have HH2:Hid (w2.heap[w.heap.size]? =some (.cells (ai t (.slice A n c)) 26 (0,0))):=ae ((hb2.block _ HR1.out.1).trans HH1.out);have HB2:=ae (ah HB1.out hb2);have hl1:w.heap.size<w1.heap.size:=HR1.out.1;dsimp only;rw [hy2];clear hO2 he2 hb2 iM;go_wp2_with (with_reducible refine bY 26 ?_;refine wpList_store_row rfl _ _ _ rfl w.heap.size (ai t (.slice A2 n c2)) rfl rfl 26 (ai t (.slice A n c)) HH2.out (dU.out _) (EE.out _ _) (aT _ _ _ _) ?_);have hw3:(w2.setRow w.heap.size (ai t (.slice A2 n c2))).heap[w.heap.size]? =some (.cells (ai t (.slice A2 n c2)) 26 (0,0)):=setRow_heap _ _ _ _ _ _ HH2.out;have hs3:(w2.setRow w.heap.size (ai t (.slice A2 n c2))).heap.size=w2.heap.size:=by simp [World.setRow]
 have hb3:Below w.heap.size w (w2.setRow w.heap.size (ai t (.slice A2 n c2))):=below_setRow HB2.out (Nat.le_refl _) _;have hz3:tq (w.heap.size+1) (w2.setRow w.heap.size (ai t (.slice A2 n c2))) A2 zs2:=
  (rD.out.lower (by omega)).aK (by rw [hs3];exact Nat.le_refl _) fun k hk _=>setRow_other _ _ k _ (by omega)
 generalize w2.setRow w.heap.size (ai t (.slice A2 n c2))=w3 at hw3 hs3 hb3 hz3 ⊢;rw [<-hs3];have hba:=ag w3 (.cells #[.slice none 0 0] 93);have hst:ig (w3.alloc (.cells #[.slice none 0 0] 93)) w3.heap.size (.slice none 0 0) []:=⟨heap_alloc_last w3 _,World.ownsRow_nil _ _ _ _⟩;have hl3:w.heap.size<w3.heap.size:=(bV.1 hw3).1;refine (Vs (w3.alloc (.cells #[.slice none 0 0] 93)) w3.heap.size w.heap.size n c2 t A2 zs2 (.slice none 0 0) HF.out (by rw [HE2.out];exact Xo.out) hy2 hl3 ⟨by simp;omega,fun i=>(hba.cell (p:=⟨w.heap.size,i,none⟩) hl3).trans (cell_of_row w3 _ i _ _ _ hw3)⟩ (hz3.low.keep hba) hst).mono ?_;rintro e w4 ⟨rfl,v4,hs4,hk4⟩;have hb4:Below w.heap.size w w4:=(ah hb3 hba).trans ((df hst hk4).mono (by omega));have hc4:w4.cell? ⟨w3.heap.size,0,none⟩=some v4:=cell_of_row w4 _ 0 _ _ _ hs4.1;have hlen:=JK t HF.out;obtain ⟨g4,c4,rfl,hg4⟩:=gG hs4.2 (by omega);have HB4:=ae hb4;have Ey:=ae (aX hs4.2 (base':=w.heap.size) (by omega));clear hw3 hs3 hb3 hz3 hba hst hs4 hk4 hb4 hlen hg4;go_wp2_with fail;go_ret2;exact ⟨⟨g4,c4,rfl,Ey.out⟩,HB4.out⟩
theorem wB (t:Tb) (A:Option Addr) (n c:Nat) (zs:List dw) (w:World) (hp:t.prev.length=32) (hm:t.bP.length=32) (hzz:t.aF=zs.map (·.e)) (hn:zs.length=n) (hA:kz w w.heap.size A zs) (hv:mg t≠0):
  Calls Tryz.prog 22 #[.agg (ai t (.slice A n c))] w (Gives (.tuple #[.slice none 0 0,I (mg t)]) w):=by
 have HR0:=ae (Row.new w (ai t (.slice A n c)) 26);have HB0:=ae (ag w (.cells (ai t (.slice A n c)) 26));have dU:Hid (∀v,(Tryz.prog.info? 26).map (·.size)=some (ai t v).size):=ae fun v=>bD t v hp hm;have HV:Hid (∀W,Below w.heap.size w W->Calls Tryz.prog 29 #[.agg (ai t (.slice A n c))] W (Gives (I (mg t)) W)):=ae fun W hb=>pX t A n c zs W hp hzz hn (hA.grow hb);obtain ⟨v,hvv⟩:∃v,mg t=v:=⟨_,rfl⟩;rw [hvv] at HV hv ⊢;have hv1:(v !=0)=true:=by simp [hv]
 clear hp hm hzz hn hA hvv;go_enter Tryz.func22,Tryz.ntmps22;go_wp2_with (with_reducible refine dY 26 ?_;refine aJ rfl _ _ rfl w.heap.size rfl (ai t (.slice A n c)) HR0.out _ Tryz.underlying26 rfl (dU.out _) ?_);refine (HV.out _ HB0.out).mono ?_;rintro e w1 ⟨rfl,hb1⟩;have HB1:=ae (ah HB0.out hb1);clear hb1;go_wp2_with fail;go_ret2;exact ⟨rfl,HB1.out⟩
def TbAny (w:World) (t:Tb) (e:Ending) (w':World):Prop:=
 (mg t=0/\SQ w (lJ t) e w')\/(mg t≠0/\Gives (.tuple #[.slice none 0 0,I (mg t)]) w e w')
theorem uG (t:Tb) (A:Option Addr) (n c:Nat) (zs:List dw) (w:World) (hp:t.prev.length=32) (hm:t.bP.length=32) (hzz:t.aF=zs.map (·.e)) (hn:zs.length=n) (hA:kz w w.heap.size A zs):
  Calls Tryz.prog 22 #[.agg (ai t (.slice A n c))] w (TbAny w t):=by
 by_cases hv:mg t=0
 ·exact (pW t A n c zs w (JZ hv hp hm) hzz hn hA hv).mono fun e w' h=> .inl ⟨hv,h⟩
 ·exact (wB t A n c zs w hp hm hzz hn hA hv).mono fun e w' h=> .inr ⟨hv,h⟩
end Go.Proofs.YtbaehbbonkljpaaGreatDoor
namespace Go.Proofs.YtbaehbbonkljpaaGreatDoor
open Go Go.RowKit
theorem Jw (a b:Nat) (w:World) (ha:a<=1000) (hb:b<=1000):Calls Tryz.prog 95 #[I (a:Int),I (b:Int)] w fun e w'=>e= .returned (I (Nat.gcd a b:Int))/\w'=w:=by
 obtain ⟨G,hG⟩:∃G,Nat.gcd a b=G:=⟨_,rfl⟩;rw [hG];have HG:=ae hG;clear hG;go_enter Tryz.func95,Tryz.ntmps95;go_wp2_with fail
 go_loopw [0,1] (fun p q wr=>∃x y:Nat,p=I (x:Int)/\q=I (y:Int)/\x<=1000/\y<=1000/\Nat.gcd x y=G/\wr=w) (fun _ q _=>(intOf q).toNat)
 case atStart=>exact ⟨a,b,rfl,rfl,ha,hb,HG.out,rfl⟩
 case round=>
  obtain ⟨x,y,rfl,rfl,hx,hy,hg,rfl⟩:=hrel;have HGG:=ae hg;clear hg;by_cases h0:y=0
  ·subst h0;have HE:Hid (x=G):=ae (by have h:=HGG.out;rwa [Nat.gcd_zero_right] at h);go_wp2_with fail;go_ret;exact ⟨by rw [<-HE.out];rfl,rfl⟩
  ·have t0:((y:Int) !=0)=true:=by simp;omega
   have t1:¬(y:Int)=0:=by omega
   have t2:¬(y:Int)= -1:=by omega
   have t3:(y !=0)=true:=by simp;omega
   obtain ⟨q,hq⟩:∃q,x%y=q:=⟨_,rfl⟩;have ht:(x:Int).tmod (y:Int)=(q:Int):=by rw [<-hq];simp [Int.tmod_eq_emod_of_nonneg]
   have hql:q<y:=by rw [<-hq];exact Nat.mod_lt _ (by omega)
   have HN:Hid (Nat.gcd y q=G):=ae (by rw [<-hq,Nat.gcd_comm,<-Nat.gcd_rec,Nat.gcd_comm];exact HGG.out);clear hq;go_wp2_with fail;go_roundw
   case rel=>exact ⟨y,q,rfl,rfl,hy,by omega,HN.out,by first|trivial|rfl⟩
   case measure=>simp [intOf];omega
theorem lcm_div (Y E:Nat):Y / Nat.gcd Y E*E=Nat.lcm Y E:=by
 unfold Nat.lcm;rw [Nat.div_mul_right_comm (Nat.gcd_dvd_left Y E)]
theorem pU (c:Cal) (A R:Option Addr) (a r:Nat) (w:World) (h:qj w w.heap.size A R c):Calls Tryz.prog 74 #[.agg (aI c A a R r)] w (Gives (.bool (vC c)) w):=by
 obtain ⟨nr,hnr⟩:∃n,c.rules.length=n:=⟨_,rfl⟩;obtain ⟨n,hn⟩:∃n,c.au.length=n:=⟨_,rfl⟩;have e0:aI c A a R r= #[I c.bn, .slice A n a,I c.dA, .slice R nr r]:=by rw [<-hn,<-hnr];rfl
 rw [e0];have HV:=ae (jD.start w #[I c.bn, .slice A n a,I c.dA, .slice R nr r] 65);obtain ⟨lp,hlp⟩:∃l,c.dA=l:=⟨_,rfl⟩;obtain ⟨ep,mJ⟩:∃l,c.bn=l:=⟨_,rfl⟩;rw [hlp,mJ] at HV ⊢;have HM:=ae h.au;have WY:=ae h.rules;have FK:Hid ((c.rules.flatMap Lr.cells).length=nr*3):=ae (by rw [bZ (s:=3) Lr.cells c.rules (fun _ _=>rfl),hnr]);have vF:=ae (show c.au.length=n/\c.rules.length=nr/\c.dA=lp/\c.bn=ep from ⟨hn,hnr,hlp,mJ⟩);obtain ⟨vb,hvb⟩:∃b,vC c=b:=⟨_,rfl⟩;rw [hvb];have Ru:=ae hvb;clear hvb;by_cases hbad:ep<0\/1048576<ep\/n<1\/16<n\/16<nr\/lp< -1\/(n:Int)<=lp\/(lp= -1/\0<nr)
 ·have hF:false=vb:=(C9 fun hg=>by
   have h1:=hg.ep;have h2:=hg.ml;have h3:=hg.lp;have h4:=hg.rl;have h5:=hg.nl;omega).symm.trans Ru.out
  subst hF;have hb4:(ep<0)\/(¬ep<0/\(1048576:Int)<ep)\/(¬ep<0/\¬(1048576:Int)<ep/\(n:Int)<1)\/(¬ep<0/\¬(1048576:Int)<ep/\¬(n:Int)<1/\(16:Int)<(n:Int))\/(¬ep<0/\¬(1048576:Int)<ep/\¬(n:Int)<1/\¬(16:Int)<(n:Int)/\(16:Int)<(nr:Int))\/(¬ep<0/\¬(1048576:Int)<ep/\¬(n:Int)<1/\¬(16:Int)<(n:Int)/\¬(16:Int)<(nr:Int)/\lp< -1)\/(¬ep<0/\¬(1048576:Int)<ep/\¬(n:Int)<1/\¬(16:Int)<(n:Int)/\¬(16:Int)<(nr:Int)/\¬lp< -1/\(n:Int)<=lp)\/(¬ep<0/\¬(1048576:Int)<ep/\¬(n:Int)<1/\¬(16:Int)<(n:Int)/\¬(16:Int)<(nr:Int)/\¬lp< -1/\¬(n:Int)<=lp/\lp= -1/\(0:Int)<(nr:Int)):=by omega
  clear hbad h hnr hn hlp mJ e0 HM WY;rcases hb4 with g1|⟨g1,g2⟩|⟨g1,g2,g3⟩|⟨g1,g2,g3,g4⟩|⟨g1,g2,g3,g4,g5⟩|⟨g1,g2,g3,g4,g5,g6⟩|⟨g1,g2,g3,g4,g5,g6,g7⟩|⟨g1,g2,g3,g4,g5,g6,g7,g8,g9⟩
  all_goals
   try subst g8
   go_enter Tryz.func74,Tryz.ntmps74;go_wp2_with fail;go_ret;exact ⟨rfl,HV.out.up⟩
 ·have g1:¬ep<0:=fun h=>hbad (.inl h);have g2:¬1048576<ep:=fun h=>hbad (.inr (.inl h));have g3:¬(n:Int)<1:=by omega
  have g4:¬(16:Int)<(n:Int):=by omega
  have g5:¬lp< -1:=by omega
  have g6:¬(n:Int)<=lp:=by omega
  have g7:¬(16:Int)<(nr:Int):=by omega
  have hnb:Hid (nr<=16/\1<=n/\n<=16):=ae (by omega);have hsp:((lp== -1)=true/\¬(0:Int)<(nr:Int))\/(lp== -1)=false:=by
   by_cases h:lp= -1
   ·exact .inl ⟨by simp [h],by omega⟩
   ·exact .inr (by simpa using h)
  have HGD:Hid (0<=ep/\ep<=1048576/\1<=n/\n<=16/\ -1<=lp/\lp<(n:Int)/\nr<=16/\(lp= -1->nr=0)):=ae (by omega);clear hbad h hnr hn hlp mJ e0;rcases hsp with ⟨t0,g9⟩|t0
  all_goals
   go_enter Tryz.func74,Tryz.ntmps74;go_wp2_with fail
   go_loopw [3] (fun i wr=>∃k:Nat,k<=n/\i=I (k:Int)/\(∀m∈c.au.take k,1<=m/\m<=40)/\(Row wr w.heap.size #[I ep, .slice A n a,I lp, .slice R nr r]/\Below w.heap.size w wr)) (fun i _=>n - (intOf i).toNat)
   case atStart=>exact ⟨0,Nat.zero_le _,rfl,(fun _ h=>nomatch h),HV.out.row,HV.out.up⟩
   case round=>
    obtain ⟨k,hk,rfl,hall,hrow,hb⟩:=hrel;have HB:=ae hb;have PI:=ae hall;have HRW:=ae hrow;clear hb hall hrow HV;by_cases hlt:k<n
    ·have i0:(0:Int)<=(k:Int):=by omega
     have i1:(k:Int)<(n:Int):=by omega
     obtain ⟨x,hx⟩:∃x,c.au[k]? =some x:=⟨_,bK (by rw [vF.out.1];exact hlt)⟩;obtain ⟨b,off,rfl,hbl,hcl⟩:=HM.out.there (by rw [List.length_map,vF.out.1];omega);have f0:wr.cell? ⟨b,off+k,none⟩=some (I x):=(HB.out.cell (p:=⟨b,off+k,none⟩) hbl).trans (hcl k _ (by rw [List.getElem?_map,hx];rfl));have v1:wr.cell? ⟨w.heap.size,1,none⟩=some (.slice (some ⟨b,off,none⟩) n a):=HRW.out.2 1;have HX:=ae hx;clear hx hcl;by_cases hxb:x<1\/40<x
     ·have hF:false=vb:=(C9 fun hg=>by
       have h1:=hg.mo x (gZ HX.out);omega).symm.trans Ru.out
      subst hF;have hx4:x<1\/(¬x<1/\40<x):=by omega
      clear hxb;rcases hx4 with q1|⟨q1,q2⟩
      all_goals
       go_wp2_with fail;go_ret;exact ⟨rfl,HB.out⟩
     ·have q1:¬x<1:=fun h=>hxb (.inl h);have q2:¬40<x:=fun h=>hxb (.inr h);have HN:Hid (∀m∈c.au.take (k+1),1<=m/\m<=40):=ae (by
       rw [jX c.au k x HX.out];intro m hm;rcases List.mem_append.1 hm with h1|h1
       ·exact PI.out m h1
       ·rw [List.mem_singleton.1 h1];omega)
      clear hxb;go_wp2_with fail;go_roundw
      case rel=>exact ⟨k+1,by omega,by have h16:=hnb.out;go_num,HN.out,HRW.out,HB.out⟩
      case measure=>simp [intOf];have h16:=hnb.out;omega
    ·have hkn:k=n:=by omega
     have hlt':¬(k:Int)<(n:Int):=by omega
     have HAM:Hid (∀m∈c.au,1<=m/\m<=40):=ae (by
      have h:=PI.out
      rwa [List.take_of_length_le (by rw [vF.out.1];omega)] at h)
     have v1:wr.cell? ⟨w.heap.size,1,none⟩=some (.slice A n a):=HRW.out.2 1;clear hlt hkn PI;go_wp2_with fail;clear v1
     go_loopw [4,5] (fun y i wr=>∃k Y:Nat,k<=nr/\y=I (Y:Int)/\i=I (k:Int)/\1<=Y/\Y<=400/\jU c.rules 1=jU (c.rules.drop k) Y/\(Row wr w.heap.size #[I ep, .slice A n a,I lp, .slice R nr r]/\Below w.heap.size w wr)) (fun _ i _=>nr - (intOf i).toNat)
     case atStart=>exact ⟨0,1,Nat.zero_le _,rfl,rfl,by omega,by omega,rfl,HRW.out,HB.out⟩
     case round=>
      clear HRW HB hlt';obtain ⟨k,Y,hk,rfl,rfl,hy1,hy2,hp,hrow,hb⟩:=hrel;have HB:=ae hb;have HP:=ae hp;have HRW:=ae hrow;clear hb hp hrow;by_cases hlt:k<nr
      ·try (exfalso;omega)
       all_goals
        have i0:(0:Int)<=(k:Int):=by omega
        have i1:(k:Int)<(nr:Int):=by omega
        obtain ⟨x,hx⟩:∃x,c.rules[k]? =some x:=⟨_,bK (by rw [vF.out.2.1];exact hlt)⟩;obtain ⟨b,off,rfl,hbl,hcl⟩:=WY.out.there (by rw [FK.out];omega);have hr:=aS (aA.elem (s:=3) (f:=Lr.cells) (fun _ _=>rfl) hcl k x hx) HB.out hbl;have hd:c.rules.drop k=x::c.rules.drop (k+1):=by
         rw [List.drop_eq_getElem_cons (by rw [vF.out.2.1];exact hlt)];rw [bK (by rw [vF.out.2.1];exact hlt)] at hx;injection hx with hx;rw [hx]
        rw [hd] at HP;obtain ⟨ev,re,ye⟩:=x;have f0:wr.cell? ⟨b,off+k*3,none⟩=some (I ev):=hr 0 _ rfl;have f1:wr.cell? ⟨b,off+k*3+1,none⟩=some (I re):=hr 1 _ rfl;have f2:wr.cell? ⟨b,off+k*3+2,none⟩=some (.bool ye):=hr 2 _ rfl;have v3:wr.cell? ⟨w.heap.size,3,none⟩=some (.slice (some ⟨b,off,none⟩) nr r):=HRW.out.2 3;have hne:¬b=wr.heap.size:=by have:=HB.out.size;omega
        have hlt0:w.heap.size<wr.heap.size:=HRW.out.1;have HB2:=ae (ah HB.out (ag wr (.cells #[I ev,I re, .bool ye] 118)));have HR2:=ae (HRW.out.keep (ag wr (.cells #[I ev,I re, .bool ye] 118)));by_cases hbad:ev<1\/400<ev\/re<0\/ev<=re
        ·have hF:false=vb:=(C9 fun hg=>by
          have h1:=hg.per;rw [HP.out] at h1;unfold jU at h1;rw [if_pos hbad] at h1;cases h1).symm.trans Ru.out
         subst hF;have hb4:ev<1\/(¬ev<1/\400<ev)\/(¬ev<1/\¬400<ev/\re<0)\/(¬ev<1/\¬400<ev/\¬re<0/\ev<=re):=by omega
         clear hbad hd hr hcl hx;rcases hb4 with g1|⟨g1,g2⟩|⟨g1,g2,g3⟩|⟨g1,g2,g3,g4⟩
         all_goals
          go_wp2_with fail;go_ret;exact ⟨rfl,HB2.out⟩
        ·have g1:¬ev<1:=fun h=>hbad (.inl h);have g2:¬400<ev:=fun h=>hbad (.inr (.inl h));have g3:¬re<0:=fun h=>hbad (.inr (.inr (.inl h)));have g4:¬ev<=re:=fun h=>hbad (.inr (.inr (.inr h)));obtain ⟨E,rfl⟩:∃E:Nat,ev=(E:Int):=⟨ev.toNat,by omega⟩;obtain ⟨L,hL⟩:∃L,Nat.lcm Y E=L:=⟨_,rfl⟩;obtain ⟨G,hG⟩:∃G,Nat.gcd Y E=G:=⟨_,rfl⟩;obtain ⟨Q,hQ⟩:∃Q,Y / G=Q:=⟨_,rfl⟩;have hG1:0<G:=by rw [<-hG];exact Nat.gcd_pos_of_pos_left _ (by omega)
         have hL1:1<=L:=by rw [<-hL];exact Nat.lcm_pos (by omega) (by omega)
         have hQE:Q*E=L:=by rw [<-hQ,<-hG,<-hL];exact lcm_div Y E
         have hQ4:Q<=400:=by rw [<-hQ];exact Nat.le_trans (Nat.div_le_self _ _) hy2
         have hLb:L<=160000:=by rw [<-hQE];exact Nat.mul_le_mul hQ4 (show E<=400 by omega)
         have hqi:(Y:Int).tdiv (G:Int)=(Q:Int):=by rw [<-hQ,Int.tdiv_eq_ediv_of_nonneg (by omega)];rfl
         have hqe:(Q:Int)*(E:Int)=(L:Int):=by rw [<-hQE];simp
         have hg0:¬(G:Int)=0:=by omega
         have hg1:¬(G:Int)= -1:=by omega
         have VW:=ae (fun W=>Jw Y E W (by omega) (by omega));rw [hG] at VW;have hP2:jU c.rules 1=if 400<L then none else jU (c.rules.drop (k+1)) L:=by
          rw [HP.out];show (if _ then _ else _)=_;rw [if_neg hbad,Int.toNat_natCast,hL]
         have HP2:=ae hP2;clear hbad hd hr hcl hx hP2 hL HP hG hQ hQE;go_upto_region 17 with fail;go_quiet (first|(go_at_call 95;refine Calls.quiet_of_same (VW.out _)));by_cases hL4:400<L
         ·have hF:false=vb:=(C9 fun hg=>by
           have h1:=hg.per;rw [HP2.out,if_pos hL4] at h1;cases h1).symm.trans Ru.out
          subst hF;have g5:(400:Int)<(L:Int):=by omega
          go_wp2_with fail;go_ret;exact ⟨rfl,below_drewN HB2.out _⟩
         ·have g5:¬(400:Int)<(L:Int):=by omega
          go_wp2_with fail;go_roundw
          case rel=>exact ⟨k+1,L,by omega,rfl,by have h16:=hnb.out;go_num,hL1,by omega,by rw [HP2.out,if_neg hL4],⟨HR2.out.1,HR2.out.2⟩,below_drewN HB2.out _⟩
          case measure=>simp [intOf];have h16:=hnb.out;omega
      ·have hkn:k=nr:=by omega
       have hlt':¬(k:Int)<(nr:Int):=by omega
       have v3:wr.cell? ⟨w.heap.size,3,none⟩=some (.slice R nr r):=HRW.out.2 3;have hF:true=vb:=(pY (by
        have h1:=HGD.out;have h2:=vF.out;exact ⟨by omega,by omega,by omega,by omega,fun h=>by omega,HAM.out,by rw [HP.out,List.drop_of_length_le (by omega)];rfl⟩)).symm.trans Ru.out
       subst hF;clear hlt hkn;go_wp2_with fail;go_ret;exact ⟨rfl,HB.out⟩
end Go.Proofs.YtbaehbbonkljpaaGreatDoor
