/- The texts TbP, TrZ, TrW, TbB, BEq, in this order. -/
import Derived.Test.YtdibbemgpikgjaaGreatDoorW00
import Derived.Test.YtdibbemgpikgjaaGreatDoorW01
import Derived.Test.YtdibbemgpikgjaaGreatDoorW03
import Derived.Test.YtdibbemgpikgjaaGreatDoorW16
import Derived.Test.YtdibbemgpikgjaaGreatDoorW17
set_option maxRecDepth 10000
set_option maxHeartbeats 8000000
namespace Go.Proofs.YtdibbemgpikgjaaGreatDoor
open Go Go.RowKit
attribute [local go_sem] mD mM mF mO qP qR mg mG mr mJ
theorem KL (t:Tb) (A:Option Addr) (c lo:Nat) (zs:List dD) (w:World) (hz:∀x∈zs,gU x.e.z) (hn1:zs.length≤128) (h32:t.prev.length=32) (hm:t.bz.length=32) (hO:gK lo w (.slice A zs.length c) zs):
  Calls Tryz.prog 29 #[.agg (ai t (.slice A zs.length c))] w (ClT w t zs):=by
 rcases hO.form with ⟨h1,h2⟩|⟨h1,g,c',h2,h3,h4⟩
 ·subst h1;rw [h2];exact Ip t h32 hm w
 ·injection h2 with e1 e2 e3;subst e1 e3;exact Iq t g c zs.length zs w (fun x hx=>⟨hz x hx,hO.nils x hx⟩) rfl h1 hn1 h32 hm (fun j u hu=>pF hO.row j u hu) h4 (fun x hx=>(hO.az x hx).ints)
def fU (zs:List Ze):List UInt8:=zs.flatMap oK
theorem GN (zs:List Ze) (x:Ze):fU (zs++ [x])=fU zs++oK x:=by simp [fU]
theorem zB (zs:List Ze) (h:∀e∈zs,gU e.z∧e.name.size≤32):(fU zs).length≤zs.length*69:=by
 induction zs with
 |nil=>exact Nat.zero_le _
 |cons x zs ih=>
  have h1:=ih fun e he=>h e (List.mem_cons_of_mem _ he);have h2:=Dh x (h x List.mem_cons_self).1 (h x List.mem_cons_self).2;unfold fU at h1 ⊢;rw [List.flatMap_cons,aZ,List.length_cons];omega
def WzRel (w:World) (g:Nat) (v:Value) (bs:List UInt8) (n:Nat) (zs:List Ze) (i:Value) (wr:World):Prop:=
 ∃k:Nat,k≤n∧i= .int .i64 k∧∃v',eY wr g v' (bs++(le n 1++fU (zs.take k)))∧gX g v w v' wr
theorem xK (w:World) (g lb lo:Nat) (A:Option Addr) (c:Nat) (v:Value) (bs:List UInt8) (hp:w.cell? ⟨lb,lo,none⟩=some (.slice A 0 c)) (hl:bs.length≤100000000) (hst:eY w g v bs):
  Calls Tryz.prog 48 #[.iface 77 (pt g), .pointer (some ⟨lb,lo,none⟩),I 1, .func (.func 49) #[] #[]] w (fD w g v (bs++le 0 1)):=by
 have HC:=ae (fO w.drew g v bs 0 1 (by omega) (by omega) (by omega) (by omega) hst.drew);clear hst;go_enter Tryz.func48,Tryz.ntmps48;go_wp2_with fail;go_still_tail 9,(by kernel_rfl);go_wp2_with fail;refine HC.out.mono ?_;rintro e w1 ⟨rfl,v1,hs1,hk1⟩;have iP:=ae hs1;have iH:=ae (aI hk1);clear hs1 hk1 HC hp;go_wp2_with fail
 go_loop [22] (fun i=>i= .int .i64 0) (fun _=>0)
 case atStart=>rfl
 case round=>
  subst hrel;go_wp2_with fail
  go_end0
  exact ⟨rfl,v1,iP.out,iH.out⟩
theorem GH (w:World) (g lb lo zg n c:Nat) (zs:List dD) (v:Value) (bs:List UInt8) (hn:zs.length=n) (hn2:n≤128) (hp:w.cell? ⟨lb,lo,none⟩=some (.slice (some ⟨zg,0,none⟩) n c)) (Ld:lb<g) (hzg:zg<g)
  (hcl:∀j u,(aO zs)[j]? =some u→w.cell? ⟨zg,j,none⟩=some u) (hfz:∀j,w.frozen? ⟨zg,j,none⟩=false) (hfl:∀x∈zs,gU x.e.z∧x.e.name.size≤32) (hI:∀x∈zs,fG w g x.s.A x.e.z.cal.az)
  (hl:bs.length≤1000000) (hst:eY w g v bs):
  Calls Tryz.prog 48 #[.iface 77 (pt g), .pointer (some ⟨lb,lo,none⟩),I 1, .func (.func 49) #[] #[]] w (fD w g v (bs++(le n 1++fU (zs.map (·.e))))):=by
 have HC:=ae (fO w.drew g v bs n 1 (by omega) (by omega) (by omega) (by omega) hst.drew);have HST:=ae hst;have HN:=ae hn;have HF:=ae hfl;have gq:=ae hcl;have HFZ:=ae hfz;have HI:=ae hI;have HP:=ae hp;have hgl:=hst.lt;clear hst hn hfl hcl hfz hI;go_enter Tryz.func48,Tryz.ntmps48;go_wp2_with fail;go_still_tail 9,(by kernel_rfl);go_wp2_with fail;refine HC.out.mono ?_;rintro e w1 ⟨rfl,v1,hs1,hk1⟩;have iP:=ae hs1;have iH:=ae (aI hk1);clear hs1 hk1 HC hp;go_wp2_with fail
 go_loopw [22] (fun i wr=>WzRel w g v bs n (zs.map (·.e)) i wr) (fun i _=>n - (intOf i).toNat)
 case atStart=>exact ⟨0,Nat.zero_le _,rfl,v1,by simpa [fU] using iP.out,iH.out⟩
 case round=>
  obtain ⟨k,hk,rfl,v2,hs2,hk2⟩:=hrel;have hb2:=bf HST.out hk2;have HB2:=ae hb2;have HS2:=ae hs2;have iR:=ae hk2;have hp2:wr.cell? ⟨lb,lo,none⟩=some (.slice (some ⟨zg,0,none⟩) n c):=(hb2.cell (p:=⟨lb,lo,none⟩) Ld).trans HP.out;clear hs2 hk2 hb2 iP iH;by_cases hlt:k<n
  ·have hkz:k<zs.length:=by rw [HN.out];exact hlt
   obtain ⟨x,hx⟩:∃x,zs[k]? =some x:=⟨_,dw hkz⟩;have hxm:=fZ hx;have hlen:(bs++(le (n:Int) 1++fU ((zs.map (·.e)).take k))).length≤9000000:=by
    have h1:=zB ((zs.map (·.e)).take k) fun e he=>by
     obtain ⟨y,hy,rfl⟩:=List.mem_map.1 (List.mem_of_mem_take he);exact HF.out y hy
    have h2:((zs.map (·.e)).take k).length≤128:=by rw [List.length_take,List.length_map,HN.out];omega
    simp only [aZ,aC];omega
   have HM:=ae (Jp wr g zg (k*9) x v2 _ (HF.out x hxm).1 (HF.out x hxm).2 (fun j u hu=>(HB2.out.cell (p:=⟨zg,k*9+j,none⟩) hzg).trans (gq.out _ _ (by
    have hj:j<9:=(gu.1 hu).1;rw [lD zs k j x hx hj];simpa using hu))) ((HB2.out.frozen (p:=⟨zg,k*9+1+2,none⟩) hzg).trans (HFZ.out _)) hzg ((HI.out x hxm).keep HB2.out) hlen HS2.out)
   have HX:=ae hx;have i0:(0:Int)≤(k:Int):=by omega
   have i1:(k:Int)<(n:Int):=by omega
   have i2:((k:Int)==(n:Int))=false:=by simp;omega
   clear hkz hx hlen hxm;go_wp2_with fail;refine HM.out.mono ?_;rintro e w3 ⟨rfl,v3,hs3,hk3⟩;have jV:=ae hs3;have mQ:=ae (iR.out.trans hk3);clear hs3 hk3 hp2;go_wp2_with fail;go_roundw
   case rel=>exact ⟨k+1,by omega,by go_num,v3,by rw [lC (zs.map (·.e)) k x.e (by rw [List.getElem?_map,HX.out];rfl),GN,←List.append_assoc (le _ _),←List.append_assoc];exact jV.out,mQ.out⟩
   case measure=>simp [intOf];omega
  ·have hkn:k=n:=by omega
   have tJ:=ae hkn;clear hkn;go_wp2_with fail
   go_end0
   exact ⟨rfl,v2,by have h:=HS2.out;rwa [tJ.out,List.take_of_length_le (by rw [List.length_map,HN.out];exact Nat.le_refl _)] at h,iR.out⟩
structure Eh (g:Nat) (w:World) (A:Option Addr) (zs:List dD):Prop where
 row:zs.length=0∨∃zg,A=some ⟨zg,0,none⟩∧zg<g∧(∀j u,(aO zs)[j]? =some u→w.cell? ⟨zg,j,none⟩=some u)∧∀j,w.frozen? ⟨zg,j,none⟩=false
 az:∀x∈zs,fG w g x.s.A x.e.z.cal.az
theorem Eh.keep {g:Nat} {w w':World} {A:Option Addr} {zs:List dD} (h:Eh g w A zs) (hb:Below g w w'):Eh g w' A zs:=
 ⟨h.row.elim .inl fun ⟨zg,h1,h2,h3,h4⟩=> .inr ⟨zg,h1,h2,fun j u hu=>(hb.cell (p:=⟨zg,j,none⟩) h2).trans (h3 j u hu),fun j=>(hb.frozen (p:=⟨zg,j,none⟩) h2).trans (h4 j)⟩,fun x hx=>(h.az x hx).keep hb⟩
theorem gK.low {lo n c:Nat} {w:World} {A:Option Addr} {zs:List dD} (h:gK lo w (.slice A n c) zs):Eh w.heap.size w A zs:=by
 refine ⟨?_,fun x hx=>(h.az x hx).ints⟩;rcases h.form with ⟨h1,_⟩|⟨_,g,c',h2,_,h4⟩
 ·exact .inl (by rw [h1];rfl)
 ·injection h2 with e1 e2 e3;subst e1 e2;exact .inr ⟨g,rfl,h4,fun j u hu=>pF h.row j u hu,xx h.row⟩
def eX (t:Tb):List UInt8:=le t.aT 1++(le t.version 1++(le t.aJ 1++(t.prev++(le t.aS.length 1++fU t.aS))))
theorem Je (t:Tb) (h:kN t):36≤(eX t).length∧(eX t).length≤9000:=by
 have h1:=zB t.aS fun e he=>⟨h.flat e he,h.short e he⟩;have h2:=h.num;have h3:=h.prev;simp only [eX,aZ,aC];omega
theorem Jr (w:World) (g lb lo n c:Nat) (A:Option Addr) (zs:List dD) (v:Value) (bs:List UInt8) (hn:zs.length=n) (hn2:n≤128) (hp:w.cell? ⟨lb,lo,none⟩=some (.slice A n c)) (Ld:lb<g) (hz:Eh g w A zs) (hfl:∀x∈zs,gU x.e.z∧x.e.name.size≤32)
  (hl:bs.length≤1000000) (hst:eY w g v bs):
  Calls Tryz.prog 48 #[.iface 77 (pt g), .pointer (some ⟨lb,lo,none⟩),I 1, .func (.func 49) #[] #[]] w (fD w g v (bs++(le n 1++fU (zs.map (·.e))))):=by
 by_cases h0:n=0
 ·subst h0;have:=xK w g lb lo A c v bs hp (by omega) hst;rw [List.eq_nil_of_length_eq_zero hn];simpa [fU] using this
 ·rcases hz.row with h|⟨zg,rfl,h2,h3,h4⟩
  ·omega
  ·exact GH w g lb lo zg n c zs v bs hn hn2 hp Ld h2 h3 h4 hfl hz.az hl hst
attribute [local go_sem] jQ jR kJ bC
theorem Jt (w:World) (g tb n c:Nat) (t:Tb) (A:Option Addr) (zs:List dD) (v:Value) (h:kN t) (hzz:t.aS=zs.map (·.e)) (hn:zs.length=n) (htb:tb<g) (hr:Row w tb (ai t (.slice A n c))) (hz:Eh g w A zs) (hst:eY w g v []):
  Calls Tryz.prog 30 #[.iface 77 (pt g), .pointer (some ⟨tb,0,none⟩)] w (fD w g v (eX t)):=by
 have hgl:=hst.lt;have c0:=hr.2 0;have c1:w.cell? ⟨tb,1,none⟩=some (I t.version):=(hr.2 1).trans (jR _ _);have c2:w.cell? ⟨tb,2,none⟩=some (I t.aJ):=(hr.2 2).trans (kJ _ _);have c3:w.cell? ⟨tb,3,none⟩=some (.slice A n c):=(hr.2 3).trans (bC _ _);have hn2:n≤128:=by have:=h.num;rw [hzz,List.length_map] at this;omega
 have q1:=h.aT;have q2:=h.version;have q3:=h.aJ;have lY:=ae (bG w.drew g ⟨tb,0,none⟩ v [] t.aT 1 (by omega) (by omega) (by omega) (by decide) hst.lt hst.drew (c0.trans (jQ _ _)));have HPV:=ae (oI t (.slice A n c) hr);have HST:=ae hst;have HF:=ae h;have HZ:=ae hz;have Zg:=ae hzz;have HN:=ae hn;have zY:Hid (∀j u,Below g w u→u.cell? ⟨tb,j,none⟩=w.cell? ⟨tb,j,none⟩):=ae fun j u hb=>hb.cell (p:=⟨tb,j,none⟩) htb;have G7:Hid (∀x∈zs,gU x.e.z∧x.e.name.size≤32):=ae fun x hx=>by
  have hm:x.e∈t.aS:=by rw [hzz];exact List.mem_map_of_mem hx
  exact ⟨h.flat _ hm,h.short _ hm⟩
 clear h hr hst hz hzz hn c0;go_enter Tryz.func30,Tryz.ntmps30;go_wp2_with fail;go_still_tail 7,(by kernel_rfl);go_wp2_with fail;refine lY.out.mono ?_;rintro e w1 ⟨rfl,v1,hs1,hk1⟩;obtain ⟨B1,hB1⟩:∃B,[]++le t.aT 1=B:=⟨_,rfl⟩;have hl1:B1.length≤1:=by rw [←hB1];simp [aC]
 rw [hB1] at hs1;have hb1:=bf HST.out (aI hk1);have HB1:=ae hb1;have iP:=ae hs1;have iH:=ae (aI hk1);have qB:=ae hB1;have HC2:=ae (bG w1.drew g ⟨tb,1,none⟩ v1 B1 t.version 1 (by omega) (by omega) (by omega) (by omega) hs1.lt hs1.drew ((zY.out _ _ hb1).trans c1));clear hs1 hk1 hb1 lY hB1 c1;go_wp2_with fail;go_still_tail 7,(by kernel_rfl);go_wp2_with fail;refine HC2.out.mono ?_;rintro e w2 ⟨rfl,v2,hs2,hk2⟩;obtain ⟨B2,hB2⟩:∃B,B1++le t.version 1=B:=⟨_,rfl⟩;have hl2:B2.length≤2:=by rw [←hB2,aZ,aC];omega
 rw [hB2] at hs2;have hb2:=HB1.out.trans (bf iP.out (aI hk2));have HB2:=ae hb2;have HS2:=ae hs2;have iR:=ae (iH.out.trans (aI hk2));have mV:=ae hB2;have sO:=ae (bG w2.drew g ⟨tb,2,none⟩ v2 B2 t.aJ 1 (by omega) (by omega) (by omega) (by omega) hs2.lt hs2.drew ((zY.out _ _ hb2).trans c2));clear hs2 hk2 hb2 HC2 hB2 c2;go_wp2_with fail;go_still_tail 7,(by kernel_rfl);go_wp2_with fail;refine sO.out.mono ?_;rintro e w3 ⟨rfl,v3,hs3,hk3⟩;obtain ⟨B3,hB3⟩:∃B,B2++le t.aJ 1=B:=⟨_,rfl⟩;have hl3:B3.length≤3:=by rw [←hB3,aZ,aC];omega
 rw [hB3] at hs3;have hb3:=HB2.out.trans (bf HS2.out (aI hk3));have HB3:=ae hb3;have jV:=ae hs3;have mQ:=ae (iR.out.trans (aI hk3));have Aa:=ae hB3;have sV:=ae (zl w3.drew g tb 4 v3 B3 t.prev (by omega) (fun j u hu=>(zY.out _ _ hb3).trans (HPV.out j u hu)) HF.out.prev hs3.drew);clear hs3 hk3 hb3 sO hB3;go_wp2_with fail;go_still_tail 7,(by kernel_rfl);go_wp2_with fail;refine sV.out.mono ?_;rintro e w4 ⟨rfl,v4,hs4,hk4⟩;obtain ⟨B4,hB4⟩:∃B,B3++t.prev=B:=⟨_,rfl⟩;have hl4:B4.length≤35:=by rw [←hB4,aZ,HF.out.prev];omega
 rw [hB4] at hs4;have hb4:=HB3.out.trans (bf jV.out (aI hk4));have Ac:=ae hs4;have Nu:=ae (mQ.out.trans (aI hk4));have YD:=ae hB4;have zX:=ae (Jr w4 g tb 3 n c A zs v4 B4 HN.out hn2 ((zY.out _ _ hb4).trans c3) htb (HZ.out.keep hb4) G7.out (by omega) hs4);clear hs4 hk4 hb4 sV hB4 c3;go_wp2_with fail;refine zX.out.mono ?_;rintro e w5 ⟨rfl,v5,hs5,hk5⟩;have sZ:=ae hs5;have xP:=ae (Nu.out.trans hk5);clear hs5 hk5 zX;go_wp2_with fail
 go_end0
 refine ⟨rfl,v5,?_,xP.out⟩;have hh:=sZ.out;rw [←YD.out,←Aa.out,←mV.out,←qB.out] at hh;unfold eX;rw [Zg.out,List.length_map,HN.out];simpa only [List.append_assoc,List.nil_append] using hh
end Go.Proofs.YtdibbemgpikgjaaGreatDoor
namespace Go.Proofs.YtdibbemgpikgjaaGreatDoor
open Go Go.RowKit
attribute [local go_sem] kT kX kU kY pg pz kR kV kS kW
theorem uQ (ls bs:List Value) (j:Nat) (v:Value) (hj:j<bs.length):(ls++bs).set (ls.length+j) v=ls++bs.set j v:=by
 have h:=set_mid ls bs [] j v hj;rw [List.append_nil,List.append_nil] at h;exact h
def O7 (xs:List Value) (eo:Nat) (e:Ze) (A:Option Addr) (a:Nat):List Value:=
 (((((xs.set eo (.string e.name)).set (eo+1) (I e.z.cal.aY)).set (eo+1+1) (.slice A e.z.cal.az.length a)).set (eo+1+2) (I (-1))).set (eo+1+4) (I e.z.start)).set (eo+1+6) (I e.z.hor)
theorem O8 (cs:Array Value) (eo m:Nat) (e:Ze) (A:Option Addr) (a:Nat):(uo cs eo e A a).toList.take m=O7 (cs.toList.take m) eo e A a:=by
 unfold uo O7;simp only [Array.toList_setIfInBounds,List.take_set]
theorem Rt (ys:List dD) (x:Ze) (hx:gU x.z) (A:Option Addr) (a:Nat):O7 (aO ys++jo.toList) (ys.length*9) x A a=aO (ys++ [⟨x,⟨A,a,none,0,none,0,none,0⟩⟩]):=by
 rw [Jy];unfold O7;rw [←dM];have h9:jo.toList.length=9:=rfl;have e0:(aO ys).length=(aO ys).length+0:=rfl;rw [e0,uQ _ _ 0 _ (by omega),Nat.add_zero,uQ _ _ 1 _ (by simp [h9])];rw [show (aO ys).length+1+1=(aO ys).length+2 from rfl,uQ _ _ 2 _ (by simp [h9])];rw [show (aO ys).length+1+2=(aO ys).length+3 from rfl,uQ _ _ 3 _ (by simp [h9])];rw [show (aO ys).length+1+4=(aO ys).length+5 from rfl,uQ _ _ 5 _ (by simp [h9])];rw [show (aO ys).length+1+6=(aO ys).length+7 from rfl,uQ _ _ 7 _ (by simp [h9])];congr 1;unfold aO dD.cells jo;simp [hx.cal.le,hx.cal.ru,hx.trans,hx.aK]
theorem V9 {W W':World} {lo g n m cap rb eo:Nat} {xs:List Value} {e:Ze} {A:Option Addr} {a:Nat} {cur:Array Value} (h:W.ownsRow lo 90 9 (.slice (some ⟨g,0,none⟩) n cap) m xs) (hg:W.heap[g]? =some (.cells cur 90 (0,0))) (hp:dU W rb g 90 (uo cur eo e A a) W'):
  W'.ownsRow lo 90 9 (.slice (some ⟨g,0,none⟩) n cap) m (O7 xs eo e A a):=by
 obtain ⟨cur',h1,h2,h3,h4,h5,h6,h7,rfl⟩:=oH h;rw [hg] at h1;injection h1 with h1;injection h1 with h1;subst h1;refine LU hp.tgt h2 h3 h4 ?_ (by rw [O8,h6]) (by unfold O7;simp only [List.length_set];exact h7);unfold uo;simp only [Array.size_setIfInBounds];exact h5
def RzRel (M:Nat) (w:World) (rb pb po:Nat) (t:TypeId) (cs:Array Value) (n:Nat) (zs:List Ze) (R:List UInt8) (i:Value) (wr:World):Prop:=
 ∃(k:Nat) (A:Option Addr) (c:Nat) (ys:List dD),k≤n∧i= .int .i64 k∧ys.length=k∧ys.map (·.e)=zs.take k∧jW M wr rb (fU (zs.drop k)++R)∧dU w rb pb t (cs.setIfInBounds po (.slice A k c)) wr∧
  wr.ownsRow w.heap.size 90 9 (.slice A k c) k (aO ys)∧(∀y∈ys,yX y.s∧∃g,A=some ⟨g,0,none⟩∧LX w.heap.size g wr y.s.A y.e.z.cal.az)∧(k=0→A=none∧c=0)
def TZeR (M:Nat) (w:World) (rb pb po:Nat) (t:TypeId) (cs:Array Value) (zs:List Ze) (n:Nat) (R:List UInt8) (e:Ending) (w':World):Prop:=
 e= .returned (.tuple #[])∧∃A c ys,jW M w' rb R∧dU w rb pb t (cs.setIfInBounds po (.slice A n c)) w'∧gK w.heap.size w' (.slice A n c) ys∧ys.map (·.e)=zs
theorem TP (M:Nat) (w:World) (rb pb po n:Nat) (t:TypeId) (cs:Array Value) (zs:List Ze) (R:List UInt8) (hn:zs.length=n) (hn2:n≤128) (hfl:∀x∈zs,gU x.z∧x.name.size≤32) (hr:jW M w rb ((le n 1++fU zs)++R)) (hp:w.heap[pb]? =some (.cells cs t (0,0))) (hpo:cs[po]? =some (.slice none 0 0)) (Ey:M≤pb) (hne:pb≠rb):
  Calls Tryz.prog 48 #[.iface 134 (pt rb), .pointer (some ⟨pb,po,none⟩),I 1, .func (.func 49) #[] #[]] w (TZeR M w rb pb po t cs zs n R):=by
 rw [List.append_assoc] at hr;have hpl:pb<w.heap.size:=(bT.1 hp).1;have hlo:=hr.lo;have hrl:=hr.lt;have hcs:cs.setIfInBounds po (.slice none 0 0)=cs:=by
  apply Array.ext_getElem?;intro i;rw [Array.getElem?_setIfInBounds];split
  ·rename_i e;subst e;split
   ·exact hpo.symm
   ·rename_i e2;rw [Array.getElem?_eq_none (by omega)] at hpo;cases hpo
  ·rfl
 have hc0:w.cell? ⟨pb,po,none⟩=some (.slice none 0 0):=(cell_of_row w pb po _ _ _ hp).trans hpo;have hpos:po<cs.size:=(bT.1 hpo).1;have HC:=ae (jJ M w.drew rb 1 0 n n (fU zs++R) hr.drew (by omega) (qh _ (by omega) (by omega) _));have HP:Hid (dU w rb pb t (cs.setIfInBounds po (.slice none 0 0)) w):=ae (by rw [hcs];exact dU.refl hp);have HN:=ae hn;have HF:=ae hfl;clear hr hp hpo hcs hn hfl;obtain ⟨i0,hi,hz0,hz1,hz2⟩:=info_parts xn;go_enter Tryz.func48,Tryz.ntmps48;go_wp2_with fail;go_still_tail 9,(by kernel_rfl);go_wp2_with fail;refine HC.out.mono ?_;rintro e w1 ⟨rfl,hr1,hk1⟩;have HR1:=ae hr1;have wZ:=ae (HP.out.drew.uw hk1 hpl hne);clear hr1 hk1 HC hc0;go_wp2_with fail
 go_loopw [22] (fun i wr=>RzRel M w rb pb po t cs n zs R i wr) (fun i _=>n - (intOf i).toNat)
 case atStart=>exact ⟨0,none,0,[],Nat.zero_le _,rfl,rfl,rfl,HR1.out,wZ.out,World.ownsRow_nil _ _ _ _,(fun _ h=>nomatch h),fun _=>⟨rfl,rfl⟩⟩
 case round=>
  obtain ⟨k,A,c,ys,hk,rfl,hyl,hye,hr,hp,hown,hym,hnl⟩:=hrel;have HR:=ae hr;have Ec:=ae hp;have HO:=ae hown;have nZ:=ae hyl;have JJ:=ae hye;have NF:=ae hym;have HNL:=ae hnl;have hcp:wr.cell? ⟨pb,po,none⟩=some (.slice A k c):=(hp.cell po).trans (by simp [hpos]);have hsw:=hp.size;clear hr hp hown hyl hye hym hnl HR1 wZ HP;by_cases hlt:k<n
  ·have i0':(0:Int)≤(k:Int):=by omega
   have i1:(k:Int)<(n:Int):=by omega
   have hkz:k<zs.length:=by rw [HN.out];exact hlt
   obtain ⟨x,hx⟩:∃x,zs[k]? =some x:=⟨_,dw hkz⟩;have SA:=HF.out x (fZ hx);have HX:=ae hx;have JI:=ae SA;clear hx SA;have YB:Hid (∀j u,jo.toList[j]? =some u→(((wr.alloc (.cells jo 90)).alloc (.cells jo 90)).drew).cell? ((⟨wr.heap.size+1,0,none⟩:Addr).add j)=some u):=ae fun j u hu=>by
    rw [addr_add];have h:=(Row.new (wr.alloc (.cells jo 90)) jo 90).2 j;rw [World.size_alloc] at h;exact h.trans (by simpa using hu)
   have JX:Hid (∀u∈jo.toList,u.oneCell'=true):=ae (by
    intro u hu;have h:jo.all (·.oneCell')=true:=by kernel_rfl
    rw [Array.all_eq_true_iff_forall_mem] at h;exact h u (by simpa using hu))
   have hplw:pb<wr.heap.size:=by omega
   have hmx:k+1≤maxLen:=by unfold maxLen;omega
   have hby:(k+1)*144≤140737488355328:=by omega
   have HBS:Hid (w.heap.size≤(((wr.alloc (.cells jo 90)).alloc (.cells jo 90)).drew).heap.size):=ae (by simp;omega);have ed:Hid ((((wr.alloc (.cells jo 90)).alloc (.cells jo 90)).drew).heap.size=wr.heap.size+2):=ae (by simp);have HOO:Hid ((((wr.alloc (.cells jo 90)).alloc (.cells jo 90)).drew).ownsRow w.heap.size 90 9 (.slice A k c) k (aO ys)):=ae ((HO.out.alloc _).alloc _).drew;have UZ:Hid (∀b,b<wr.heap.size→(((wr.alloc (.cells jo 90)).alloc (.cells jo 90)).drew).heap[b]? =wr.heap[b]?):=ae fun b hb=>(Below.heap_alloc (wr.alloc (.cells jo 90)) _ b (by simp;omega)).trans (Below.heap_alloc wr _ b hb);go_wp2_with fail
   go_region_law (refine step_append_lies _ (by rfl) _ _ _ (by rfl) w.heap.size 90 i0 (.agg jo) 9 144 Tryz.underlying35 hi hz0 hz1 hz2 (by rfl) (by omega) (.slice A k c) k (aO ys) (by rfl) HOO.out ⟨wr.heap.size+1,0,none⟩ 1 1 jo.toList (by rfl) (by rfl) YB.out JX.out (by omega) hmx hby HBS.out (wr.heap.size+2) ed.out ?_;intro g2 c2 w2 hown2 hgrow2 KX hlt2;have hbw:∀b,b<w.heap.size→w2.heap[b]? =wr.heap[b]? :=fun b hb=>(hgrow2.block b (Nat.lt_of_lt_of_eq (show b<wr.heap.size+2 by omega) ed.out.symm) (eQ HO.out b hb)).trans (UZ.out b (by omega));have HP2:Hid (w2.heap[pb]? =some (.cells (cs.setIfInBounds po (.slice A k c)) t (0,0))):=ae ((hbw pb hpl).trans Ec.out.tgt);have hcp2:w2.cell? ⟨pb,po,none⟩=some (.slice A k c):=(cell_of_row w2 pb po _ _ _ HP2.out).trans (by simp [hpos]);have VO:=frozen_of_row w2 pb po _ _ HP2.out;have sN:=ae hbw;have rC:=ae hown2;have HG2:=ae hgrow2;have HA2:=ae KX;clear hbw hown2 hgrow2 KX)
   all_goals
    have hs2:wr.heap.size+2≤w2.heap.size:=Nat.le_trans (Nat.le_of_eq ed.out.symm) HG2.out.size;have hkeep:∀b,b<wr.heap.size→some b≠(Value.slice A k c).ownBlock→w2.heap[b]? =wr.heap[b]? :=fun b hb hne=>(HG2.out.block b (Nat.lt_of_lt_of_eq (show b<wr.heap.size+2 by omega) ed.out.symm) hne).trans (UZ.out b hb);have hlo2:=kH rC.out;have hP3:dU w rb pb t (cs.setIfInBounds po (.slice (some ⟨g2,0,none⟩) (k+1) c2)) (w2.setCell ⟨pb,po,none⟩ (.slice (some ⟨g2,0,none⟩) (k+1) c2)):=by
     have h:dU w rb pb t (cs.setIfInBounds po (.slice A k c)) w2:=⟨HG2.out.os.trans Ec.out.os,HG2.out.tape.trans Ec.out.tape,HG2.out.output.trans Ec.out.output,by omega,fun b hb h1 h2=>(sN.out b hb).trans (Ec.out.block b hb h1 h2),HP2.out⟩;have h:=h.put po (.slice (some ⟨g2,0,none⟩) (k+1) c2)
     rwa [Array.setIfInBounds_setIfInBounds] at h
    have XW:jW M (w2.setCell ⟨pb,po,none⟩ (.slice (some ⟨g2,0,none⟩) (k+1) c2)) rb (fU (zs.drop k)++R):=(HR.out.of (sN.out rb hrl) fun b hb=>sN.out b (by omega)).put Ey hne _;have hO3:(w2.setCell ⟨pb,po,none⟩ (.slice (some ⟨g2,0,none⟩) (k+1) c2)).ownsRow w.heap.size 90 9 (.slice (some ⟨g2,0,none⟩) (k+1) c2) (k+1) (aO ys++jo.toList):=dW (p:=⟨pb,po,none⟩) rC.out (by intro e;injection e with e;simp only at e;omega);have hM3:∀y∈ys,yX y.s∧LX w.heap.size g2 (w2.setCell ⟨pb,po,none⟩ (.slice (some ⟨g2,0,none⟩) (k+1) c2)) y.s.A y.e.z.cal.az:=by
     intro y hy;obtain ⟨h1,g,hA,b,off,b1,b2,b3,b4,b5⟩:=NF.out y hy;have hne1:some b≠(Value.slice A k c).ownBlock:=by
      rw [hA];intro e;injection e with e;exact b4 e
     refine ⟨h1,b,off,b1,b2,by simp [World.setCell];omega,?_,fun j hj=>?_⟩
     ·rcases HA2.out with h|h
      ·rw [hA] at h;injection h with h;intro e;exact b4 (e.trans h.symm)
      ·omega
     ·exact (World.cell?_of_block (a:=⟨b,off+j,none⟩) ((heap_setCell_other w2 _ b _ (by show b≠pb;omega)).trans (hkeep b b3 hne1))).trans (b5 j hj)
    have rD:=ae hP3;have HR3:=ae XW;have wU:=ae hO3;have HM3:=ae hM3;clear hkeep hP3 XW hO3 hM3 HP2 sN rC HG2 HA2 hcp;go_wp2_with fail;obtain ⟨w3,hw3⟩:∃W,w2.setCell ⟨pb,po,none⟩ (.slice (some ⟨g2,0,none⟩) (k+1) c2)=W:=⟨_,rfl⟩;rw [hw3] at rD HR3 wU HM3 ⊢;obtain ⟨cur,q1,q2,q3,q4,q5,q6,q7,_⟩:=oH wU.out;have hcz:fU (zs.drop k)++R=oK x++(fU (zs.drop (k+1))++R):=by
     have hd:zs.drop k=x::zs.drop (k+1):=by
      rw [List.drop_eq_getElem_cons hkz];have h:=HX.out;rw [dw hkz] at h;injection h with h;rw [h]
     rw [hd];simp [fU]
    have hr3:=HR3.out;rw [hcz] at hr3;have hzz:∀j,j<9→cur[k*9+j]? =jo[j]? :=fun j hj=>by
     have h:(cur.toList.take ((k+1)*9))[k*9+j]? =(aO ys++jo.toList)[k*9+j]? :=by rw [q6]
     rw [List.getElem?_take_of_lt (by omega),List.getElem?_append_right (by rw [dM,nZ.out];omega),dM,nZ.out,show k*9+j - k*9=j by omega] at h;simpa using h
    refine (Gt M w3 rb g2 (k*9) 90 cur x _ JI.out.1 JI.out.2 hr3 q1 hzz (by omega) (by omega)).mono ?_;rintro e w4 ⟨rfl,A4,a4,hr4,tu,Z9⟩;have hO4:=V9 wU.out q1 tu;rw [←nZ.out,Rt ys x JI.out.1 A4 a4,nZ.out] at hO4;have hP4:dU w rb pb t (cs.setIfInBounds po (.slice (some ⟨g2,0,none⟩) (k+1) c2)) w4:=⟨tu.os.trans rD.out.os,tu.tape.trans rD.out.tape,tu.output.trans rD.out.output,Nat.le_trans rD.out.size tu.size,fun b hb h1 h2=>(tu.block b (dQ hb rD.out.size) (by omega) h2).trans (rD.out.block b hb h1 h2),(tu.block pb (dQ hpl rD.out.size) (by omega) hne).trans rD.out.tgt⟩;have hs3:w3.heap.size=w2.heap.size:=by rw [←hw3];simp [World.setCell]
    have hM4:∀y∈ys++ [(⟨x,⟨A4,a4,none,0,none,0,none,0⟩⟩:dD)],yX y.s∧∃g,(some ⟨g2,0,none⟩:Option Addr)=some ⟨g,0,none⟩∧LX w.heap.size g w4 y.s.A y.e.z.cal.az:=by
     intro y hy;rcases List.mem_append.1 hy with hy|hy
     ·obtain ⟨h1,b,off,b1,b2,b3,b4,b5⟩:=HM3.out y hy;exact ⟨h1,g2,rfl,b,off,b1,b2,dQ b3 tu.size,b4,fun j hj=>(World.cell?_of_block (a:=⟨b,off+j,none⟩) (tu.block b b3 b4 (by omega))).trans (b5 j hj)⟩
     ·rw [List.mem_singleton.1 hy];obtain ⟨g4,cc4,e4,_⟩:=dE Z9 (by have:=JI.out.1.cal.mo.1;omega);injection e4 with e4 _ _;subst e4;exact ⟨⟨⟨rfl,rfl⟩,⟨rfl,rfl⟩,⟨rfl,rfl⟩⟩,g2,rfl,LX.dS Z9 (by omega) (by omega)⟩
    have HR4:=ae hr4;have Fa:=ae hP4;have GU:=ae hO4;have sW:=ae hM4;have HE4:Hid ((ys++ [(⟨x,⟨A4,a4,none,0,none,0,none,0⟩⟩:dD)]).map (·.e)=zs.take (k+1)):=ae (by rw [List.map_append,JJ.out,lC zs k x HX.out];rfl);clear hr4 tu Z9 hO4 hP4 hM4 hr3 hcz q1 q2 q3 q4 q5 q6 q7 hw3 hcp2 VO hzz;go_wp2_with fail;go_roundw
    case rel=>exact ⟨k+1,some ⟨g2,0,none⟩,c2,_,by omega,by go_num,by rw [aZ,nZ.out];rfl,HE4.out,HR4.out,Fa.out,GU.out,sW.out,fun h=>by omega⟩
    case measure=>simp [intOf];omega
  ·have hkn:k=n:=by omega
   have tJ:=ae hkn;have hlt':¬(k:Int)<(n:Int):=by omega
   clear hkn hlt hcp;go_wp2_with fail
   go_end0
   refine ⟨rfl,A,c,ys,?_,?_,⟨?_,fun y hy=>?_,fun y hy=>(NF.out y hy).1,fun h=>?_⟩,?_⟩
   ·have h:=HR.out;rw [tJ.out,List.drop_of_length_le (by rw [HN.out];exact Nat.le_refl _)] at h;exact h
   ·have h:=Ec.out
    rwa [tJ.out] at h
   ·have h:=HO.out;rw [tJ.out] at h;rw [nZ.out,tJ.out];exact h
   ·obtain ⟨_,g,_,h⟩:=NF.out y hy;exact h.li
   ·obtain ⟨h1,h2⟩:=HNL.out (nZ.out.symm.trans h);have h0:n=0:=by have:=nZ.out;have:=tJ.out;omega
    rw [h1,h2,h0]
   ·rw [JJ.out,tJ.out,List.take_of_length_le (by rw [HN.out];exact Nat.le_refl _)]
end Go.Proofs.YtdibbemgpikgjaaGreatDoor
namespace Go.Proofs.YtdibbemgpikgjaaGreatDoor
open Go Go.RowKit
attribute [local go_sem] kT kX kU kY pg pz kR kV kS kW
def bQ:Tb:=⟨0,0,0,aX,aX,[]⟩
theorem oM:Tryz.zeroCells37=ai bQ (.slice none 0 0):=by kernel_rfl
theorem xG (t:Tb) (v:Value) (n:Int):(ai t v).setIfInBounds 0 (I n)=ai {t with aT:=n} v:=by simp [ai,lg]
theorem vT (t:Tb) (v:Value) (n:Int):(ai t v).setIfInBounds 1 (I n)=ai {t with version:=n} v:=by simp [ai,lg]
theorem sG (t:Tb) (v:Value) (n:Int):(ai t v).setIfInBounds 2 (I n)=ai {t with aJ:=n} v:=by simp [ai,lg]
theorem Cj (t:Tb) (v:Value) (xs:List UInt8) (h:t.prev.length=32) (hx:xs.length=32):putRow (ai t v) 4 (aj xs)=ai {t with prev:=xs} v:=by
 unfold putRow splice ai lg;have h1:(aj xs).length=32:=by simp [aj,hx]
 have h2:(aj t.prev).length=32:=by simp [aj,h]
 rw [h1];simp [h2]
def TWhR (M:Nat) (w:World) (rb tb:Nat) (t:Tb) (n:Nat) (R:List UInt8) (e:Ending) (w':World):Prop:=
 e= .returned (.tuple #[])∧∃A c ys,jW M w' rb R∧dU w rb tb 37 (ai {t with bz:=aX} (.slice A n c)) w'∧gK w.heap.size w' (.slice A n c) ys∧ys.map (·.e)=t.aS
theorem WI (M:Nat) (w:World) (rb tb n:Nat) (t:Tb) (R:List UInt8) (h:kN t) (hn:t.aS.length=n) (hr:jW M w rb (eX t++R)) (hp:w.heap[tb]? =some (.cells (ai bQ (.slice none 0 0)) 37 (0,0))) (hM:M≤tb) (hne:tb≠rb):
  Calls Tryz.prog 30 #[.iface 134 (pt rb), .pointer (some ⟨tb,0,none⟩)] w (TWhR M w rb tb t n R):=by
 have hel:tb<w.heap.size:=(bT.1 hp).1;have hrw:=hr.lt;have hz:∀(u:Tb) (v:Value),u.prev.length=32→u.bz.length=32→(ai u v).size=68:=fun u v h1 h2=>bF u v h1 h2;have hr':jW M w.drew rb (le t.aT 1++(le t.version 1++(le t.aJ 1++(t.prev++((le n 1++fU t.aS)++R))))):=by
  have h:=hr.drew;unfold eX at h;rw [hn] at h;simpa only [List.append_assoc] using h
 have q1:=h.aT;have q2:=h.version;have q3:=h.aJ;have hn2:n≤128:=by have:=h.num;omega
 have lY:=ae (iM M w.drew rb tb 0 1 37 _ t.aT t.aT _ hr' (by omega) (qh _ (by omega) (by omega) _) hp (by rw [hz _ _ rfl rfl];decide) hM hne);have HF:=ae h;have HZ:=ae hz;have HN:=ae hn;clear h hr hr' hp hz hn;unfold TWhR;go_enter Tryz.func30,Tryz.ntmps30;go_wp2_with fail;go_still_tail 7,(by kernel_rfl);go_wp2_with fail;refine lY.out.mono ?_;rintro e w1 ⟨rfl,hr1,hp1⟩;rw [xG] at hp1;have wZ:=ae hp1.ja;have HC2:=ae (iM M w1.drew rb tb 1 1 37 _ t.version t.version _ hr1.drew (by omega) (qh _ (by omega) (by omega) _) hp1.tgt (by rw [HZ.out _ _ rfl rfl];decide) hM hne);clear hr1 hp1 lY;go_wp2_with fail;go_still_tail 7,(by kernel_rfl);go_wp2_with fail;refine HC2.out.mono ?_;rintro e w2 ⟨rfl,hr2,hp2⟩;rw [vT] at hp2;have HP2:=ae (wZ.out.trans hp2.ja);have sO:=ae (iM M w2.drew rb tb 2 1 37 _ t.aJ t.aJ _ hr2.drew (by omega) (qh _ (by omega) (by omega) _) hp2.tgt (by rw [HZ.out _ _ rfl rfl];decide) hM hne);clear hr2 hp2 HC2;go_wp2_with fail;go_still_tail 7,(by kernel_rfl);go_wp2_with fail;refine sO.out.mono ?_;rintro e w3 ⟨rfl,hr3,hp3⟩;rw [sG] at hp3;have rD:=ae (HP2.out.trans hp3.ja);have sV:=ae (zq M w3.drew rb tb 4 37 _ t.prev _ hr3.drew HF.out.prev hp3.tgt (by rw [HZ.out _ _ rfl rfl];decide) hM hne);clear hr3 hp3 sO;go_wp2_with fail;go_still_tail 7,(by kernel_rfl);go_wp2_with fail;refine sV.out.mono ?_;rintro e w4 ⟨rfl,hr4,tu⟩;rw [Cj _ _ _ rfl HF.out.prev] at tu;have Fa:=ae (rD.out.trans tu.ja);have zX:=ae (TP M w4 rb tb 3 n 37 _ t.aS R HN.out hn2 (fun x hx=>⟨HF.out.flat x hx,HF.out.short x hx⟩) hr4 tu.tgt (bC _ _) hM hne);clear hr4 tu sV;go_wp2_with fail;refine zX.out.mono ?_;rintro e w5 ⟨rfl,A,c,ys,uO,JQ,ho5,he5⟩;rw [nH] at JQ;have mZ:=ae uO;have Ql:=ae (Fa.out.trans JQ);have kL:=ae (ho5.lower Fa.out.size);have HE5:=ae he5;clear uO JQ ho5 he5 zX;go_wp2_with fail
 go_end0
 exact ⟨rfl,A,c,ys,mZ.out,Ql.out,kL.out,HE5.out⟩
end Go.Proofs.YtdibbemgpikgjaaGreatDoor
namespace Go.Proofs.YtdibbemgpikgjaaGreatDoor
open Go Go.RowKit
def Be (w:World) (bs:List UInt8) (e:Ending) (w':World):Prop:=
 (∃g c,e= .returned (.tuple #[.slice (some ⟨g,0,none⟩) bs.length c,I 0])∧w'.ownsRow w.heap.size 5 1 (.slice (some ⟨g,0,none⟩) bs.length c) bs.length (bs.map Extern.Stop.cell))∧Below w.heap.size w w'
theorem sF (t:Tb) (A:Option Addr) (n c lo:Nat) (zs:List dD) (w:World) (h:kN t) (hzz:t.aS=zs.map (·.e)) (hn:zs.length=n) (hO:gK lo w (.slice A n c) zs) (hup:mW zs):
  Calls Tryz.prog 9 #[.agg (ai t (.slice A n c))] w (Be w (eX t)):=by
 have HR0:=ae (Row.new w (ai t (.slice A n c)) 37);have HB0:=ae (ag w (.cells (ai t (.slice A n c)) 37));have HH0:=ae (heap_alloc_last w (.cells (ai t (.slice A n c)) 37));have ed:Hid (∀v,(Tryz.prog.info? 37).map (·.size)=some (ai t v).size):=ae fun v=>cu t v h.prev h.bz;have tq:Hid (∀u v,(ai t u).size=(ai t v).size):=ae fun u v=>by rw [bF _ _ h.prev h.bz,bF _ _ h.prev h.bz]
 have HV:Hid (∀W,Below w.heap.size w W→Calls Tryz.prog 26 #[.agg (ai t (.slice A n c))] W (Gives (I 0) W)):=ae fun W hb=>
  zM t A n c zs W h hzz hn ((hO.below hb).zes) hup
 have gq:Hid (∀W,Below w.heap.size w W→Calls Tryz.prog 29 #[.agg (ai t (.slice A n c))] W (ClT W t zs)):=ae fun W hb=>by
  have h2:zs.length≤128:=by have:=h.num;rw [hzz,List.length_map] at this;exact this
  subst hn;exact KL t A c lo zs W (fun x hx=>h.flat _ (by rw [hzz];exact List.mem_map_of_mem hx)) h2 h.prev h.bz (hO.below hb)
 have HF:=ae h;have Zg:=ae hzz;have HN:=ae hn;clear h hzz hn hO hup;go_enter Tryz.func9,Tryz.ntmps9;go_wp2_with (with_reducible refine dY 37 ?_;refine aV rfl _ _ rfl w.heap.size rfl (ai t (.slice A n c)) HR0.out _ Tryz.underlying37 rfl (ed.out _) ?_);refine (HV.out _ HB0.out).mono ?_;rintro e w1 ⟨rfl,hb1⟩;have HR1:=ae (HR0.out.keep hb1);have HB1:=ae (ah HB0.out hb1);have HH1:Hid (w1.heap[w.heap.size]? =some (.cells (ai t (.slice A n c)) 37 (0,0))):=ae ((hb1.block _ (by simp)).trans HH0.out);clear hb1 HR0 HB0 HH0 HV;go_wp2_with (with_reducible refine dY 37 ?_;refine aV rfl _ _ rfl w.heap.size rfl (ai t (.slice A n c)) HR1.out _ Tryz.underlying37 rfl (ed.out _) ?_);refine (gq.out _ HB1.out).mono ?_;rintro e w2 ⟨A2,c2,zs2,rfl,hO2,he2,hb2⟩;have rC:=ae hO2;have HE2:=ae he2;have HH2:Hid (w2.heap[w.heap.size]? =some (.cells (ai t (.slice A n c)) 37 (0,0))):=ae ((hb2.block _ HR1.out.1).trans HH1.out);have HB2:=ae (ah HB1.out hb2);have hl1:w.heap.size<w1.heap.size:=HR1.out.1;rw [HN.out];clear hO2 he2 hb2 gq;go_wp2_with (with_reducible refine bW 37 ?_;refine wpList_store_row rfl _ _ _ rfl w.heap.size (ai t (.slice A2 n c2)) rfl rfl 37 (ai t (.slice A n c)) HH2.out (ed.out _) (tq.out _ _) (bu _ _ _ _) ?_);have hw3:(w2.setRow w.heap.size (ai t (.slice A2 n c2))).heap[w.heap.size]? =some (.cells (ai t (.slice A2 n c2)) 37 (0,0)):=setRow_heap _ _ _ _ _ _ HH2.out;have hs3:(w2.setRow w.heap.size (ai t (.slice A2 n c2))).heap.size=w2.heap.size:=by simp [World.setRow]
 have hb3:Below w.heap.size w (w2.setRow w.heap.size (ai t (.slice A2 n c2))):=below_setRow HB2.out (Nat.le_refl _) _;have hz3:gK (w.heap.size+1) (w2.setRow w.heap.size (ai t (.slice A2 n c2))) (.slice A2 n c2) zs2:=by
  have h1:=rC.out;rw [HN.out] at h1;exact (h1.lower (by omega)).aP (by rw [hs3];exact Nat.le_refl _) fun k hk _=>setRow_other _ _ k _ (by omega)
 generalize w2.setRow w.heap.size (ai t (.slice A2 n c2))=w3 at hw3 hs3 hb3 hz3 ⊢;rw [←hs3];have hba:=ag w3 (.cells #[.slice none 0 0] 79);have hst:eY (w3.alloc (.cells #[.slice none 0 0] 79)) w3.heap.size (.slice none 0 0) []:=⟨heap_alloc_last w3 _,World.ownsRow_nil _ _ _ _⟩;have hn2:zs2.length=n:=by have:=congrArg List.length HE2.out;simpa [HN.out] using this
 have hl3:w.heap.size<w3.heap.size:=(bT.1 hw3).1;refine (Jt (w3.alloc (.cells #[.slice none 0 0] 79)) w3.heap.size w.heap.size n c2 t A2 zs2 (.slice none 0 0) HF.out (by rw [HE2.out];exact Zg.out) hn2 hl3 ⟨by simp;omega,fun i=>(hba.cell (p:=⟨w.heap.size,i,none⟩) hl3).trans (cell_of_row w3 _ i _ _ _ hw3)⟩ (hz3.low.keep hba) hst).mono ?_;rintro e w4 ⟨rfl,v4,hs4,hk4⟩;have hb4:Below w.heap.size w w4:=(ah hb3 hba).trans ((bf hst hk4).mono (by omega));have hc4:w4.cell? ⟨w3.heap.size,0,none⟩=some v4:=cell_of_row w4 _ 0 _ _ _ hs4.1;have hlen:=Je t HF.out;obtain ⟨g4,c4,rfl,hg4⟩:=dE hs4.2 (by omega);have HB4:=ae hb4;have GU:=ae (bD hs4.2 (base':=w.heap.size) (by omega));clear hw3 hs3 hb3 hz3 hba hst hn2 hs4 hk4 hb4 hlen hg4;go_wp2_with fail;go_ret2;exact ⟨⟨g4,c4,rfl,GU.out⟩,HB4.out⟩
def PQ (bs:List UInt8):ByteArray:=⟨bs.toArray⟩
theorem zk (xs:List UInt8):(PQ xs).toList=xs:=by rw [Lib.toList_data];rfl
theorem BD (A:Option Addr) (bs:List UInt8) (c:Nat) (w:World) (B:Nat) (h:BytesAt w B A bs):
  (convert 32 9 (.slice A bs.length c)).run Tryz.prog w= .ok (.string (PQ bs)) w:=by
 have e:PQ bs=strOfNums (bs.map fun x=>(x.toNat:Int)):=by
  unfold PQ strOfNums;congr 1;rw [List.map_map];congr 1;rw [show ((fun n:Int=>UInt8.ofNat n.toNat) ∘ fun x:UInt8=>(x.toNat:Int))=id from by funext x;simp];simp
 rcases h with h|⟨b,off,rfl,_,hc⟩
 ·obtain rfl:=List.eq_nil_of_length_eq_zero h;exact run_convert_bytes_zero w _ _ Tryz.underlying32 Tryz.underlying5 A c _ Tryz.underlying9
 ·rw [e];refine run_convert_bytes_arg w _ _ Tryz.underlying32 Tryz.underlying5 b off bs.length c _ (by simp) (fun i hi=>?_) _ Tryz.underlying9;rw [hc i hi];simp [List.getD,hi,Extern.Stop.cell]
theorem Bv (w:World) (A A':Option Addr) (xs ys:List UInt8) (c d B B':Nat) (h1:BytesAt w B A xs) (h2:BytesAt w B' A' ys):
  Calls Tryz.prog 36 #[.slice A xs.length c, .slice A' ys.length d] w fun e w'=>e= .returned (.bool (xs==ys))∧w'=w:=by
 have e1:=BD A xs c w B h1;have e2:=BD A' ys d w B' h2;clear h1 h2;go_enter Tryz.func36,Tryz.ntmps36
 go_wp2
 go_ret;exact ⟨by show Ending.returned (.bool ((PQ xs).toList==(PQ ys).toList))=_;rw [zk,zk],rfl⟩
end Go.Proofs.YtdibbemgpikgjaaGreatDoor
