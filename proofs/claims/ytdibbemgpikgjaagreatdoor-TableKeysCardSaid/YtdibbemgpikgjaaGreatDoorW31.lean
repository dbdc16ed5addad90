/- The texts Nm, Oa, Od, DgR, DgS, in this order. -/
import Derived.Test.YtdibbemgpikgjaaGreatDoorW00
import Derived.Test.YtdibbemgpikgjaaGreatDoorW03
import Derived.Test.YtdibbemgpikgjaaGreatDoorW04
import Derived.Test.YtdibbemgpikgjaaGreatDoorW17
import Derived.Test.YtdibbemgpikgjaaGreatDoorW18
import Derived.Test.YtdibbemgpikgjaaGreatDoorW23
import Derived.Test.YtdibbemgpikgjaaGreatDoorW30
set_option maxRecDepth 10000
set_option maxHeartbeats 8000000
namespace Go.Proofs.YtdibbemgpikgjaaGreatDoor
open Go Go.RowKit
theorem uI (z:Zn) (s:Zs) (w:World) (hm:uZ z) (h:jy w w.heap.size s z) (hv:yD z=0):Calls Tryz.prog 43 #[.agg (ay z s)] w (Gives (I 0) w):=by
 have HO:Hid (∀w',Below w.heap.size w w'→Calls Tryz.prog 63 #[.agg (ay z s)] w' fun e w2=>(∃b:Nat,e= .returned (.tuple #[pt b, .bool true]))∧Below w'.heap.size w' w2):=ae fun w' hb=>Np z s w' hm (h.grow hb) hv;have HR0:=ae (Row.new w (ay z s) 67);have HB0:=ae (ag w (.cells (ay z s) 67));have hT:¬(512:Int)<(z.trans.length:Int):=by have:=hm.UH;omega
 obtain ⟨m,hmm⟩:∃m,z.trans.length=m:=⟨_,rfl⟩;rw [hmm] at hT;have e0:ay z s= #[I z.cal.aY, .slice s.A z.cal.az.length s.a,I z.cal.dP, .slice s.B z.cal.rules.length s.b,I z.start, .slice s.C m s.c,I z.hor, .slice s.D z.aK.length s.d]:=by unfold ay;rw [hmm]
 rw [e0] at HO HR0 HB0 ⊢;clear h e0 hm hmm hv;go_enter Tryz.func43,Tryz.ntmps43;go_wp2_with fail;refine (HO.out _ HB0.out).mono ?_;rintro e w1 ⟨⟨b,rfl⟩,hb1⟩;have HB1:=ae (ah HB0.out hb1);clear hb1;go_wp2_with fail;go_ret;exact ⟨rfl,HB1.out⟩
structure XQ (t:Tb):Prop where
 aT:0≤t.aT∧t.aT<16
 version:1≤t.version∧t.version≤64
 aJ:0≤t.aJ∧t.aJ<t.version
 prev:t.prev.length=32
 bz:t.bz.length=32
 first:t.version=1→t.prev=aX
 num:t.aS.length≤128
 good:∀e∈t.aS,uZ e.z∧yD e.z=0
 short:∀e∈t.aS,e.name.size≤32
theorem oz.at {w:World} {B:Nat} {A:Option Addr} {zs:List dD} {k:Nat} {x:dD} (h:oz w B A zs) (hx:zs[k]? =some x):∃b off,A=some ⟨b,off,none⟩∧b<B∧w.rangeAt b (off+k*9) x.cells.toList:=by
 have hk:=(gu.1 hx).1;obtain ⟨b,off,e,hb,hc⟩:=h.row.there (by rw [dM];omega);exact ⟨b,off,e,hb,aA.elem (s:=9) (f:=fun x:dD=>x.cells.toList) (fun _ _=>rfl) hc k x hx⟩
structure TG (w:World) (cs:Array Value) (A:Option Addr) (zs:List dD) (W:World):Prop where
 row:Row W w.heap.size cs
 mem:oz W w.heap.size A zs
 up:Below w.heap.size w W
theorem TG.below {w W W':World} {cs:Array Value} {A:Option Addr} {zs:List dD} (h:TG w cs A zs W) (hb:Below W.heap.size W W'):TG w cs A zs W':=
 ⟨h.row.keep hb,h.mem.keep (hb.mono h.up.size),ah h.up hb⟩
attribute [local go_sem] jQ jR kJ bC
theorem zN (t:Tb) (A:Option Addr) (n c:Nat) (zs:List dD) (w:World) (h:XQ t) (hz:t.aS=zs.map (·.e)) (hn:zs.length=n) (hA:oz w w.heap.size A zs) (hup:mW zs):
  Calls Tryz.prog 26 #[.agg (ai t (.slice A n c))] w (Gives (I 0) w):=by
 have HR0:=ae (Row.new w (ai t (.slice A n c)) 37);have HB0:=ae (ag w (.cells (ai t (.slice A n c)) 37));have k0:=HR0.out.2;have q1:=h.aT.1;have q2:=h.aT.2;have q3:=h.version.1;have q4:=h.version.2;have q5:=h.aJ.1;have q6:=h.aJ.2;have q7:¬(128:Int)<(n:Int):=by
  have:=h.num;rw [hz,List.length_map,hn] at this;omega
 have HF:=ae h;have HZ:=ae hz;have J4:Hid (TG w (ai t (.slice A n c)) A zs (w.alloc (.cells (ai t (.slice A n c)) 37))):=ae ⟨HR0.out,hA.keep HB0.out,HB0.out⟩;have Dl:=ae hn;have NC:=ae hup;clear h hz hA hn HR0 HB0 hup;by_cases hv:t.version=1
 ·have hpz:t.prev=aX:=HF.out.first hv;have hneq:∀W,(binOp .neq 23 (.agg (aj t.prev).toArray) (.agg (aj aX).toArray)).run Tryz.prog W= .ok (.bool false) W:=fun W=>by
   rw [hpz];unfold aj;rw [run_neq_struct,Go.Proofs.YtdibbemgpikgjaaGreatDoor.pI W aX rfl];simp [Result.andThen]
  have h32:(Tryz.prog.info? 23).map (·.size)=some (aj t.prev).length:=by rw [show (aj t.prev).length=32 by simp [aj,HF.out.prev]];kernel_rfl
  have HP:=ae (oI t (.slice A n c) J4.out.row);have Um:=ae h32;clear hpz h32;rw [rY] at hneq;go_enter Tryz.func26,Tryz.ntmps26;go_wp2_with (with_reducible refine dY 23 ?_;refine bY rfl _ _ rfl w.heap.size 4 rfl (aj t.prev) HP.out _ Tryz.underlying23 rfl Um.out ?_);clear hneq
  go_loopw [3,56] (fun l i wr=>∃k:Nat,k≤n∧l= .string (gG zs k)∧i=I k∧TG w (ai t (.slice A n c)) A zs wr) (fun _ i _=>n - (intOf i).toNat)
  case atStart=>exact ⟨0,Nat.zero_le _,rfl,rfl,J4.out⟩
  case round=>
   obtain ⟨k,hk,rfl,rfl,zJ⟩:=hrel;have HV:=ae zJ;have k1:=zJ.row.2;have hlt1:=zJ.row.1;clear zJ J4 k0;by_cases hlt:k<n
   ·have hkz:k<zs.length:=by rw [Dl.out];exact hlt
    obtain ⟨x,hx⟩:∃x,zs[k]? =some x:=⟨_,dw hkz⟩;obtain ⟨b,off,rfl,hbl,hr⟩:=oz.at HV.out.mem hx;have hi:=HV.out.mem.each x (fZ hx);have i0:(0:Int)≤(k:Int):=by omega
    have i1:(k:Int)<(n:Int):=by omega
    have c0:wr.cell? ⟨b,off+k*9,none⟩=some (.string x.e.name):=hr 0 _ rfl;have c1:wr.cell? ⟨b,off+k*9+1,none⟩=some (I x.e.z.cal.aY):=hr 1 _ rfl;have c2:wr.cell? ⟨b,off+k*9+2,none⟩=some (.slice x.s.A x.e.z.cal.az.length x.s.a):=hr 2 _ rfl;have c3:wr.cell? ⟨b,off+k*9+3,none⟩=some (I x.e.z.cal.dP):=hr 3 _ rfl;have c4:wr.cell? ⟨b,off+k*9+4,none⟩=some (.slice x.s.B x.e.z.cal.rules.length x.s.b):=hr 4 _ rfl;have c5:wr.cell? ⟨b,off+k*9+5,none⟩=some (I x.e.z.start):=hr 5 _ rfl;have c6:wr.cell? ⟨b,off+k*9+6,none⟩=some (.slice x.s.C x.e.z.trans.length x.s.c):=hr 6 _ rfl;have c7:wr.cell? ⟨b,off+k*9+7,none⟩=some (I x.e.z.hor):=hr 7 _ rfl;have c8:wr.cell? ⟨b,off+k*9+8,none⟩=some (.slice x.s.D x.e.z.aK.length x.s.d):=hr 8 _ rfl;have HX:=ae hx;have HI:=ae hi;have hxm:x.e∈t.aS:=by rw [HZ.out];exact List.mem_map_of_mem (fZ hx)
    have G7:=ae (HF.out.good _ hxm);have q8:¬(32:Int)<(x.e.name.size:Int):=by have:=HF.out.short _ hxm;omega
    obtain ⟨s1,s2⟩:=NC.out k x hx;obtain ⟨L,hL⟩:∃L,gG zs k=L:=⟨_,rfl⟩;have Kw:Hid (∀w',Below wr.heap.size wr w'→Calls Tryz.prog 43 #[.agg #[I x.e.z.cal.aY, .slice x.s.A x.e.z.cal.az.length x.s.a,I x.e.z.cal.dP, .slice x.s.B x.e.z.cal.rules.length x.s.b,I x.e.z.start, .slice x.s.C x.e.z.trans.length x.s.c,I x.e.z.hor, .slice x.s.D x.e.z.aK.length x.s.d]] w' (Gives (I 0) w')):=ae fun w' hb=>
     uI x.e.z x.s w' G7.out.1 (((HI.out.more HV.out.up.size).keep hb).more hb.size) G7.out.2
    rw [hL] at s1 s2 ⊢;have hlb:b<wr.heap.size:=by omega
    have HB2:=ae (ag wr (.cells x.cells 90));have Nw:Hid (gG zs (k+1)=x.e.name):=ae (by show (zs[k]?.map (·.e.name)).getD ⟨#[]⟩=_;rw [hx];rfl);clear hx hr hi hxm hkz hL;go_wp2_with fail;refine (Kw.out _ HB2.out).mono ?_;rintro e w2 ⟨rfl,hb2⟩;have nK:=ae (HV.out.below (ah HB2.out hb2));have d0:w2.cell? ⟨wr.heap.size,0,none⟩=some (.string x.e.name):=((Row.new wr x.cells 90).keep hb2).2 0;clear hb2 c0 c1 c2 c3 c4 c5 c6 c7 c8 k1 Kw;go_wp2_with fail;go_roundw
    case rel=>exact ⟨k+1,by omega,by rw [Nw.out],by go_num,nK.out⟩
    case measure=>simp [intOf];omega
   ·go_wp2_with fail;go_ret;exact ⟨rfl,HV.out.up⟩
 ·go_enter Tryz.func26,Tryz.ntmps26;go_wp2_with fail
  go_loopw [3,56] (fun l i wr=>∃k:Nat,k≤n∧l= .string (gG zs k)∧i=I k∧TG w (ai t (.slice A n c)) A zs wr) (fun _ i _=>n - (intOf i).toNat)
  case atStart=>exact ⟨0,Nat.zero_le _,rfl,rfl,J4.out⟩
  case round=>
   obtain ⟨k,hk,rfl,rfl,zJ⟩:=hrel;have HV:=ae zJ;have k1:=zJ.row.2;have hlt1:=zJ.row.1;clear zJ J4 k0;by_cases hlt:k<n
   ·have hkz:k<zs.length:=by rw [Dl.out];exact hlt
    obtain ⟨x,hx⟩:∃x,zs[k]? =some x:=⟨_,dw hkz⟩;obtain ⟨b,off,rfl,hbl,hr⟩:=oz.at HV.out.mem hx;have hi:=HV.out.mem.each x (fZ hx);have i0:(0:Int)≤(k:Int):=by omega
    have i1:(k:Int)<(n:Int):=by omega
    have c0:wr.cell? ⟨b,off+k*9,none⟩=some (.string x.e.name):=hr 0 _ rfl;have c1:wr.cell? ⟨b,off+k*9+1,none⟩=some (I x.e.z.cal.aY):=hr 1 _ rfl;have c2:wr.cell? ⟨b,off+k*9+2,none⟩=some (.slice x.s.A x.e.z.cal.az.length x.s.a):=hr 2 _ rfl;have c3:wr.cell? ⟨b,off+k*9+3,none⟩=some (I x.e.z.cal.dP):=hr 3 _ rfl;have c4:wr.cell? ⟨b,off+k*9+4,none⟩=some (.slice x.s.B x.e.z.cal.rules.length x.s.b):=hr 4 _ rfl;have c5:wr.cell? ⟨b,off+k*9+5,none⟩=some (I x.e.z.start):=hr 5 _ rfl;have c6:wr.cell? ⟨b,off+k*9+6,none⟩=some (.slice x.s.C x.e.z.trans.length x.s.c):=hr 6 _ rfl;have c7:wr.cell? ⟨b,off+k*9+7,none⟩=some (I x.e.z.hor):=hr 7 _ rfl;have c8:wr.cell? ⟨b,off+k*9+8,none⟩=some (.slice x.s.D x.e.z.aK.length x.s.d):=hr 8 _ rfl;have HX:=ae hx;have HI:=ae hi;have hxm:x.e∈t.aS:=by rw [HZ.out];exact List.mem_map_of_mem (fZ hx)
    have G7:=ae (HF.out.good _ hxm);have q8:¬(32:Int)<(x.e.name.size:Int):=by have:=HF.out.short _ hxm;omega
    obtain ⟨s1,s2⟩:=NC.out k x hx;obtain ⟨L,hL⟩:∃L,gG zs k=L:=⟨_,rfl⟩;have Kw:Hid (∀w',Below wr.heap.size wr w'→Calls Tryz.prog 43 #[.agg #[I x.e.z.cal.aY, .slice x.s.A x.e.z.cal.az.length x.s.a,I x.e.z.cal.dP, .slice x.s.B x.e.z.cal.rules.length x.s.b,I x.e.z.start, .slice x.s.C x.e.z.trans.length x.s.c,I x.e.z.hor, .slice x.s.D x.e.z.aK.length x.s.d]] w' (Gives (I 0) w')):=ae fun w' hb=>
     uI x.e.z x.s w' G7.out.1 (((HI.out.more HV.out.up.size).keep hb).more hb.size) G7.out.2
    rw [hL] at s1 s2 ⊢;have hlb:b<wr.heap.size:=by omega
    have HB2:=ae (ag wr (.cells x.cells 90));have Nw:Hid (gG zs (k+1)=x.e.name):=ae (by show (zs[k]?.map (·.e.name)).getD ⟨#[]⟩=_;rw [hx];rfl);clear hx hr hi hxm hkz hL;go_wp2_with fail;refine (Kw.out _ HB2.out).mono ?_;rintro e w2 ⟨rfl,hb2⟩;have nK:=ae (HV.out.below (ah HB2.out hb2));have d0:w2.cell? ⟨wr.heap.size,0,none⟩=some (.string x.e.name):=((Row.new wr x.cells 90).keep hb2).2 0;clear hb2 c0 c1 c2 c3 c4 c5 c6 c7 c8 k1 Kw;go_wp2_with fail;go_roundw
    case rel=>exact ⟨k+1,by omega,by rw [Nw.out],by go_num,nK.out⟩
    case measure=>simp [intOf];omega
   ·go_wp2_with fail;go_ret;exact ⟨rfl,HV.out.up⟩
end Go.Proofs.YtdibbemgpikgjaaGreatDoor
namespace Go.Proofs.YtdibbemgpikgjaaGreatDoor
open Go Go.RowKit
attribute [local go_sem] mD mM mF mO qP qR mg mG mr mJ
def Qg (zs:List Ze):List UInt8:=zs.flatMap UM
theorem Uj (zs:List Ze) (x:Ze):Qg (zs++ [x])=Qg zs++UM x:=by simp [Qg]
theorem OH (zs:List Ze) (h:∀e∈zs,uZ e.z∧e.name.size≤32):(Qg zs).length≤zs.length*140:=by
 induction zs with
 |nil=>exact Nat.zero_le _
 |cons x zs ih=>
  have h1:=ih fun e he=>h e (List.mem_cons_of_mem _ he);have h2:=WY (h x List.mem_cons_self).1 (h x List.mem_cons_self).2;unfold Qg at h1 ⊢;rw [List.flatMap_cons,aZ,List.length_cons];omega
def WyRel (w:World) (g:Nat) (v:Value) (bs:List UInt8) (n:Nat) (zs:List Ze) (i:Value) (wr:World):Prop:=
 ∃k:Nat,k≤n∧i= .int .i64 k∧∃v',eY wr g v' (bs++(le n 1++Qg (zs.take k)))∧gX g v w v' wr
theorem GI (w:World) (g lb lo zg zo n c:Nat) (zs:List dD) (v:Value) (bs:List UInt8) (hn:zs.length=n) (hn2:n≤128) (hp:w.cell? ⟨lb,lo,none⟩=some (.slice (some ⟨zg,zo,none⟩) n c)) (Ld:lb<g) (hzg:zg<g)
  (hcl:∀j u,(aO zs)[j]? =some u→w.cell? ⟨zg,zo+j,none⟩=some u) (hfz:∀j,w.frozen? ⟨zg,zo+j,none⟩=false) (hfl:∀x∈zs,uZ x.e.z∧x.e.name.size≤32) (hI:∀x∈zs,jy w g x.s x.e.z)
  (hl:bs.length≤1000000) (hst:eY w g v bs):
  Calls Tryz.prog 48 #[.iface 77 (pt g), .pointer (some ⟨lb,lo,none⟩),I 1, .func (.func 49) #[] #[]] w (fD w g v (bs++(le n 1++Qg (zs.map (·.e))))):=by
 have HC:=ae (fO w.drew g v bs n 1 (by omega) (by omega) (by omega) (by omega) hst.drew);have HST:=ae hst;have HN:=ae hn;have HF:=ae hfl;have gq:=ae hcl;have HFZ:=ae hfz;have HI:=ae hI;have HP:=ae hp;have hgl:=hst.lt;clear hst hn hfl hcl hfz hI;go_enter Tryz.func48,Tryz.ntmps48;go_wp2_with fail;go_still_tail 9,(by kernel_rfl);go_wp2_with fail;refine HC.out.mono ?_;rintro e w1 ⟨rfl,v1,hs1,hk1⟩;have iP:=ae hs1;have iH:=ae (aI hk1);clear hs1 hk1 HC hp;go_wp2_with fail
 go_loopw [22] (fun i wr=>WyRel w g v bs n (zs.map (·.e)) i wr) (fun i _=>n - (intOf i).toNat)
 case atStart=>exact ⟨0,Nat.zero_le _,rfl,v1,by simpa [Qg] using iP.out,iH.out⟩
 case round=>
  obtain ⟨k,hk,rfl,v2,hs2,hk2⟩:=hrel;have hb2:=bf HST.out hk2;have HB2:=ae hb2;have HS2:=ae hs2;have iR:=ae hk2;have hp2:wr.cell? ⟨lb,lo,none⟩=some (.slice (some ⟨zg,zo,none⟩) n c):=(hb2.cell (p:=⟨lb,lo,none⟩) Ld).trans HP.out;clear hs2 hk2 hb2 iP iH;by_cases hlt:k<n
  ·have hkz:k<zs.length:=by rw [HN.out];exact hlt
   obtain ⟨x,hx⟩:∃x,zs[k]? =some x:=⟨_,dw hkz⟩;have hxm:=fZ hx;have hlen:(bs++(le (n:Int) 1++Qg ((zs.map (·.e)).take k))).length≤9000000:=by
    have h1:=OH ((zs.map (·.e)).take k) fun e he=>by
     obtain ⟨y,hy,rfl⟩:=List.mem_map.1 (List.mem_of_mem_take he);exact HF.out y hy
    have h2:((zs.map (·.e)).take k).length≤128:=by rw [List.length_take,List.length_map,HN.out];omega
    simp only [aZ,aC];omega
   have HM:=ae (Jq wr g zg (zo+k*9) x v2 _ (HF.out x hxm).1 (HF.out x hxm).2 (aA.elem (w:=wr) (s:=9) (f:=fun x:dD=>x.cells.toList) (fun _ _=>rfl) (fun j u hu=>(HB2.out.cell (p:=⟨zg,zo+j,none⟩) hzg).trans (gq.out j u hu)) k x hx) (by
    have hf:=(HB2.out.frozen (p:=⟨zg,zo+(k*9+3),none⟩) hzg).trans (HFZ.out (k*9+3));rw [show zo+k*9+1+2=zo+(k*9+3) by omega];exact hf) hzg ((HI.out x hxm).keep HB2.out) hlen HS2.out)
   have HX:=ae hx;have i0:(0:Int)≤(k:Int):=by omega
   have i1:(k:Int)<(n:Int):=by omega
   have i2:((k:Int)==(n:Int))=false:=by simp;omega
   clear hkz hx hlen hxm;go_wp2_with fail;refine HM.out.mono ?_;rintro e w3 ⟨rfl,v3,hs3,hk3⟩;have jV:=ae hs3;have mQ:=ae (iR.out.trans hk3);clear hs3 hk3 hp2;go_wp2_with fail;go_roundw
   case rel=>exact ⟨k+1,by omega,by go_num,v3,by rw [lC (zs.map (·.e)) k x.e (by rw [List.getElem?_map,HX.out];rfl),Uj,←List.append_assoc (le _ _),←List.append_assoc];exact jV.out,mQ.out⟩
   case measure=>simp [intOf];omega
  ·have hkn:k=n:=by omega
   have tJ:=ae hkn;clear hkn;go_wp2_with fail
   go_end0
   exact ⟨rfl,v2,by have h:=HS2.out;rwa [tJ.out,List.take_of_length_le (by rw [List.length_map,HN.out];exact Nat.le_refl _)] at h,iR.out⟩
structure Ei (g:Nat) (w:World) (A:Option Addr) (zs:List dD):Prop where
 row:zs.length=0∨∃zg zo,A=some ⟨zg,zo,none⟩∧zg<g∧(∀j u,(aO zs)[j]? =some u→w.cell? ⟨zg,zo+j,none⟩=some u)∧∀j,w.frozen? ⟨zg,zo+j,none⟩=false
 each:∀x∈zs,jy w g x.s x.e.z
theorem Ei.keep {g:Nat} {w w':World} {A:Option Addr} {zs:List dD} (h:Ei g w A zs) (hb:Below g w w'):Ei g w' A zs:=
 ⟨h.row.elim .inl fun ⟨zg,zo,h1,h2,h3,h4⟩=> .inr ⟨zg,zo,h1,h2,fun j u hu=>(hb.cell (p:=⟨zg,zo+j,none⟩) h2).trans (h3 j u hu),fun j=>(hb.frozen (p:=⟨zg,zo+j,none⟩) h2).trans (h4 j)⟩,fun x hx=>(h.each x hx).keep hb⟩
theorem Bg.low {lo:Nat} {w:World} {A:Option Addr} {zs:List dD} (h:Bg lo w A zs):Ei w.heap.size w A zs:=by
 refine ⟨?_,fun x hx=>(h.each x hx).at⟩;rcases h.free with h1|⟨b,off,h1,_,h2,h3⟩
 ·exact .inl h1
 ·rcases h.row with h4|⟨b',off',h4,_,_,h5⟩
  ·rw [dM] at h4;exact .inl (by omega)
  ·rw [h1] at h4;injection h4 with h4;injection h4 with e1 e2;subst e1 e2;exact .inr ⟨b,off,h1,h2,h5,h3⟩
def nV (t:Tb):List UInt8:=le t.aT 1++(le t.version 1++(le t.aJ 1++(t.prev++(le t.aS.length 1++Qg t.aS))))
theorem xE (t:Tb) (h:XQ t):36≤(nV t).length∧(nV t).length≤18000:=by
 have h1:=OH t.aS fun e he=>⟨(h.good e he).1,h.short e he⟩;have h2:=h.num;have h3:=h.prev;simp only [nV,aZ,aC];omega
theorem Js (w:World) (g lb lo n c:Nat) (A:Option Addr) (zs:List dD) (v:Value) (bs:List UInt8) (hn:zs.length=n) (hn2:n≤128) (hp:w.cell? ⟨lb,lo,none⟩=some (.slice A n c)) (Ld:lb<g) (hz:Ei g w A zs) (hfl:∀x∈zs,uZ x.e.z∧x.e.name.size≤32)
  (hl:bs.length≤1000000) (hst:eY w g v bs):
  Calls Tryz.prog 48 #[.iface 77 (pt g), .pointer (some ⟨lb,lo,none⟩),I 1, .func (.func 49) #[] #[]] w (fD w g v (bs++(le n 1++Qg (zs.map (·.e))))):=by
 by_cases h0:n=0
 ·subst h0;have:=xK w g lb lo A c v bs hp (by omega) hst;rw [List.eq_nil_of_length_eq_zero hn];simpa [Qg] using this
 ·rcases hz.row with h|⟨zg,zo,rfl,h2,h3,h4⟩
  ·omega
  ·exact GI w g lb lo zg zo n c zs v bs hn hn2 hp Ld h2 h3 h4 hfl hz.each hl hst
attribute [local go_sem] jQ jR kJ bC
theorem Ju (w:World) (g tb n c:Nat) (t:Tb) (A:Option Addr) (zs:List dD) (v:Value) (h:XQ t) (hzz:t.aS=zs.map (·.e)) (hn:zs.length=n) (htb:tb<g) (hr:Row w tb (ai t (.slice A n c))) (hz:Ei g w A zs) (hst:eY w g v []):
  Calls Tryz.prog 30 #[.iface 77 (pt g), .pointer (some ⟨tb,0,none⟩)] w (fD w g v (nV t)):=by
 have hgl:=hst.lt;have c0:=hr.2 0;have c1:w.cell? ⟨tb,1,none⟩=some (I t.version):=(hr.2 1).trans (jR _ _);have c2:w.cell? ⟨tb,2,none⟩=some (I t.aJ):=(hr.2 2).trans (kJ _ _);have c3:w.cell? ⟨tb,3,none⟩=some (.slice A n c):=(hr.2 3).trans (bC _ _);have hn2:n≤128:=by have:=h.num;rw [hzz,List.length_map] at this;omega
 have q1:=h.aT;have q2:=h.version;have q3:=h.aJ;have lY:=ae (bG w.drew g ⟨tb,0,none⟩ v [] t.aT 1 (by omega) (by omega) (by omega) (by decide) hst.lt hst.drew (c0.trans (jQ _ _)));have HPV:=ae (oI t (.slice A n c) hr);have HST:=ae hst;have HF:=ae h;have HZ:=ae hz;have Zg:=ae hzz;have HN:=ae hn;have zY:Hid (∀j u,Below g w u→u.cell? ⟨tb,j,none⟩=w.cell? ⟨tb,j,none⟩):=ae fun j u hb=>hb.cell (p:=⟨tb,j,none⟩) htb;have G7:Hid (∀x∈zs,uZ x.e.z∧x.e.name.size≤32):=ae fun x hx=>by
  have hm:x.e∈t.aS:=by rw [hzz];exact List.mem_map_of_mem hx
  exact ⟨(h.good _ hm).1,h.short _ hm⟩
 clear h hr hst hz hzz hn c0;go_enter Tryz.func30,Tryz.ntmps30;go_wp2_with fail;go_still_tail 7,(by kernel_rfl);go_wp2_with fail;refine lY.out.mono ?_;rintro e w1 ⟨rfl,v1,hs1,hk1⟩;obtain ⟨B1,hB1⟩:∃B,[]++le t.aT 1=B:=⟨_,rfl⟩;have hl1:B1.length≤1:=by rw [←hB1];simp [aC]
 rw [hB1] at hs1;have hb1:=bf HST.out (aI hk1);have HB1:=ae hb1;have iP:=ae hs1;have iH:=ae (aI hk1);have qB:=ae hB1;have HC2:=ae (bG w1.drew g ⟨tb,1,none⟩ v1 B1 t.version 1 (by omega) (by omega) (by omega) (by omega) hs1.lt hs1.drew ((zY.out _ _ hb1).trans c1));clear hs1 hk1 hb1 lY hB1 c1;go_wp2_with fail;go_still_tail 7,(by kernel_rfl);go_wp2_with fail;refine HC2.out.mono ?_;rintro e w2 ⟨rfl,v2,hs2,hk2⟩;obtain ⟨B2,hB2⟩:∃B,B1++le t.version 1=B:=⟨_,rfl⟩;have hl2:B2.length≤2:=by rw [←hB2,aZ,aC];omega
 rw [hB2] at hs2;have hb2:=HB1.out.trans (bf iP.out (aI hk2));have HB2:=ae hb2;have HS2:=ae hs2;have iR:=ae (iH.out.trans (aI hk2));have mV:=ae hB2;have sO:=ae (bG w2.drew g ⟨tb,2,none⟩ v2 B2 t.aJ 1 (by omega) (by omega) (by omega) (by omega) hs2.lt hs2.drew ((zY.out _ _ hb2).trans c2));clear hs2 hk2 hb2 HC2 hB2 c2;go_wp2_with fail;go_still_tail 7,(by kernel_rfl);go_wp2_with fail;refine sO.out.mono ?_;rintro e w3 ⟨rfl,v3,hs3,hk3⟩;obtain ⟨B3,hB3⟩:∃B,B2++le t.aJ 1=B:=⟨_,rfl⟩;have hl3:B3.length≤3:=by rw [←hB3,aZ,aC];omega
 rw [hB3] at hs3;have hb3:=HB2.out.trans (bf HS2.out (aI hk3));have HB3:=ae hb3;have jV:=ae hs3;have mQ:=ae (iR.out.trans (aI hk3));have Aa:=ae hB3;have sV:=ae (zl w3.drew g tb 4 v3 B3 t.prev (by omega) (fun j u hu=>(zY.out _ _ hb3).trans (HPV.out j u hu)) HF.out.prev hs3.drew);clear hs3 hk3 hb3 sO hB3;go_wp2_with fail;go_still_tail 7,(by kernel_rfl);go_wp2_with fail;refine sV.out.mono ?_;rintro e w4 ⟨rfl,v4,hs4,hk4⟩;obtain ⟨B4,hB4⟩:∃B,B3++t.prev=B:=⟨_,rfl⟩;have hl4:B4.length≤35:=by rw [←hB4,aZ,HF.out.prev];omega
 rw [hB4] at hs4;have hb4:=HB3.out.trans (bf jV.out (aI hk4));have Ac:=ae hs4;have Nu:=ae (mQ.out.trans (aI hk4));have YD:=ae hB4;have zX:=ae (Js w4 g tb 3 n c A zs v4 B4 HN.out hn2 ((zY.out _ _ hb4).trans c3) htb (HZ.out.keep hb4) G7.out (by omega) hs4);clear hs4 hk4 hb4 sV hB4 c3;go_wp2_with fail;refine zX.out.mono ?_;rintro e w5 ⟨rfl,v5,hs5,hk5⟩;have sZ:=ae hs5;have xP:=ae (Nu.out.trans hk5);clear hs5 hk5 zX;go_wp2_with fail
 go_end0
 refine ⟨rfl,v5,?_,xP.out⟩;have hh:=sZ.out;rw [←YD.out,←Aa.out,←mV.out,←qB.out] at hh;unfold nV;rw [Zg.out,List.length_map,HN.out];simpa only [List.append_assoc,List.nil_append] using hh
theorem nU (t:Tb) (A:Option Addr) (n c:Nat) (zs:List dD) (w:World) (h:XQ t) (hzz:t.aS=zs.map (·.e)) (hn:zs.length=n) (hA:oz w w.heap.size A zs) (hup:mW zs):
  Calls Tryz.prog 9 #[.agg (ai t (.slice A n c))] w (Be w (nV t)):=by
 have HR0:=ae (Row.new w (ai t (.slice A n c)) 37);have HB0:=ae (ag w (.cells (ai t (.slice A n c)) 37));have HH0:=ae (heap_alloc_last w (.cells (ai t (.slice A n c)) 37));have ed:Hid (∀v,(Tryz.prog.info? 37).map (·.size)=some (ai t v).size):=ae fun v=>cu t v h.prev h.bz;have tq:Hid (∀u v,(ai t u).size=(ai t v).size):=ae fun u v=>by rw [bF _ _ h.prev h.bz,bF _ _ h.prev h.bz]
 have HV:Hid (∀W,Below w.heap.size w W→Calls Tryz.prog 26 #[.agg (ai t (.slice A n c))] W (Gives (I 0) W)):=ae fun W hb=>
  zN t A n c zs W h hzz hn (hA.grow hb) hup
 have gq:Hid (∀W,Below w.heap.size w W→Calls Tryz.prog 29 #[.agg (ai t (.slice A n c))] W (ClV W ⟨t,A,c,zs⟩)):=ae fun W hb=>by
  have h2:zs.length≤128:=by have:=h.num;rw [hzz,List.length_map] at this;exact this
  exact BC ⟨t,A,c,zs⟩ n W hn (by omega) (fun y hy=>(h.good _ (by rw [hzz];exact List.mem_map_of_mem hy)).1.len) ⟨hzz,h.prev,h.bz,hA.grow hb⟩
 have HF:=ae h;have Zg:=ae hzz;have HN:=ae hn;clear h hzz hn hA hup;go_enter Tryz.func9,Tryz.ntmps9;go_wp2_with (with_reducible refine dY 37 ?_;refine aV rfl _ _ rfl w.heap.size rfl (ai t (.slice A n c)) HR0.out _ Tryz.underlying37 rfl (ed.out _) ?_);refine (HV.out _ HB0.out).mono ?_;rintro e w1 ⟨rfl,hb1⟩;have HR1:=ae (HR0.out.keep hb1);have HB1:=ae (ah HB0.out hb1);have HH1:Hid (w1.heap[w.heap.size]? =some (.cells (ai t (.slice A n c)) 37 (0,0))):=ae ((hb1.block _ (by simp)).trans HH0.out);clear hb1 HR0 HB0 HH0 HV;go_wp2_with (with_reducible refine dY 37 ?_;refine aV rfl _ _ rfl w.heap.size rfl (ai t (.slice A n c)) HR1.out _ Tryz.underlying37 rfl (ed.out _) ?_);refine (gq.out _ HB1.out).mono ?_;rintro e w2 ⟨⟨t2,A2,c2,zs2⟩,ht2,he2,rfl,hO2,hb2⟩;have ht3:t=t2:=ht2.symm;subst ht3;have he2:zs2.map (·.e)=zs.map (·.e):=he2;have rC:=ae (show Bg w1.heap.size w2 A2 zs2 from hO2.aS);have hy2:zs2.length=n:=by have:=congrArg List.length he2;simpa [HN.out] using this
 have HE2:=ae he2;have HH2:Hid (w2.heap[w.heap.size]? =some (.cells (ai t (.slice A n c)) 37 (0,0))):=ae ((hb2.block _ HR1.out.1).trans HH1.out);have HB2:=ae (ah HB1.out hb2);have hl1:w.heap.size<w1.heap.size:=HR1.out.1;dsimp only;rw [hy2];clear hO2 he2 hb2 gq;go_wp2_with (with_reducible refine bW 37 ?_;refine wpList_store_row rfl _ _ _ rfl w.heap.size (ai t (.slice A2 n c2)) rfl rfl 37 (ai t (.slice A n c)) HH2.out (ed.out _) (tq.out _ _) (bu _ _ _ _) ?_);have hw3:(w2.setRow w.heap.size (ai t (.slice A2 n c2))).heap[w.heap.size]? =some (.cells (ai t (.slice A2 n c2)) 37 (0,0)):=setRow_heap _ _ _ _ _ _ HH2.out;have hs3:(w2.setRow w.heap.size (ai t (.slice A2 n c2))).heap.size=w2.heap.size:=by simp [World.setRow]
 have hb3:Below w.heap.size w (w2.setRow w.heap.size (ai t (.slice A2 n c2))):=below_setRow HB2.out (Nat.le_refl _) _;have hz3:Bg (w.heap.size+1) (w2.setRow w.heap.size (ai t (.slice A2 n c2))) A2 zs2:=
  (rC.out.lower (by omega)).aP (by rw [hs3];exact Nat.le_refl _) fun k hk _=>setRow_other _ _ k _ (by omega)
 generalize w2.setRow w.heap.size (ai t (.slice A2 n c2))=w3 at hw3 hs3 hb3 hz3 ⊢;rw [←hs3];have hba:=ag w3 (.cells #[.slice none 0 0] 79);have hst:eY (w3.alloc (.cells #[.slice none 0 0] 79)) w3.heap.size (.slice none 0 0) []:=⟨heap_alloc_last w3 _,World.ownsRow_nil _ _ _ _⟩;have hl3:w.heap.size<w3.heap.size:=(bT.1 hw3).1;refine (Ju (w3.alloc (.cells #[.slice none 0 0] 79)) w3.heap.size w.heap.size n c2 t A2 zs2 (.slice none 0 0) HF.out (by rw [HE2.out];exact Zg.out) hy2 hl3 ⟨by simp;omega,fun i=>(hba.cell (p:=⟨w.heap.size,i,none⟩) hl3).trans (cell_of_row w3 _ i _ _ _ hw3)⟩ (hz3.low.keep hba) hst).mono ?_;rintro e w4 ⟨rfl,v4,hs4,hk4⟩;have hb4:Below w.heap.size w w4:=(ah hb3 hba).trans ((bf hst hk4).mono (by omega));have hc4:w4.cell? ⟨w3.heap.size,0,none⟩=some v4:=cell_of_row w4 _ 0 _ _ _ hs4.1;have hlen:=xE t HF.out;obtain ⟨g4,c4,rfl,hg4⟩:=dE hs4.2 (by omega);have HB4:=ae hb4;have GU:=ae (bD hs4.2 (base':=w.heap.size) (by omega));clear hw3 hs3 hb3 hz3 hba hst hs4 hk4 hb4 hlen hg4;go_wp2_with fail;go_ret2;exact ⟨⟨g4,c4,rfl,GU.out⟩,HB4.out⟩
end Go.Proofs.YtdibbemgpikgjaaGreatDoor
namespace Go.Proofs.YtdibbemgpikgjaaGreatDoor
open Go Go.RowKit
theorem Wp (x k s:Int) (w:World) (hk:bits BinOp.and IntKind.u64 (IntKind.u64.wrap k) 31=s) (h0:0≤s) (h1:s≤31):
  Calls Tryz.prog 75 #[.int .u32 x,I k] w fun e w'=>e= .returned (.int .u32 (kZ x s))∧w'=w:=by
 have hd:IntKind.u64.wrap (32 - s)=32 - s:=by rw [IntKind.wrap_u64];omega
 go_enter Tryz.func75,Tryz.ntmps75;go_wp2_with fail;go_ret;exact ⟨rfl,rfl⟩
def amt (k:Int):Int:=bits BinOp.and IntKind.u64 (IntKind.u64.wrap k) 31
theorem L8 (x k:Int) (w:World) (h:(decide (0≤amt k)&&decide (amt k≤31))=true):
  Calls Tryz.prog 75 #[.int .u32 x,I k] w fun e w'=>e= .returned (.int .u32 (kZ x (amt k)))∧w'=w:=by
 rw [Bool.and_eq_true,decide_eq_true_eq,decide_eq_true_eq] at h;exact Wp x k (amt k) w rfl h.1 h.2
def P8 (x0 x1 x2 x3:Int):Int:=
 bits BinOp.or IntKind.u32 (bits BinOp.or IntKind.u32 (bits BinOp.or IntKind.u32 (IntKind.u32.wrap (IntKind.u32.wrap x0*16777216)) (IntKind.u32.wrap (IntKind.u32.wrap x1*65536))) (IntKind.u32.wrap (IntKind.u32.wrap x2*256))) (IntKind.u32.wrap x3)
def wIn (xs:List UInt8) (i:Nat):Int:=P8 (xs[4*i]?.getD 0).toNat (xs[4*i+1]?.getD 0).toNat (xs[4*i+2]?.getD 0).toNat (xs[4*i+3]?.getD 0).toNat
def CJ (a x b y:Int):Int:=
 (a+bits BinOp.xor IntKind.u32 (bits BinOp.xor IntKind.u32 (kZ x (amt (-7))) (kZ x (amt (-18)))) (x / 8)+b+bits BinOp.xor IntKind.u32 (bits BinOp.xor IntKind.u32 (kZ y (amt (-17))) (kZ y (amt (-19)))) (y / 1024))%4294967296
def ER (zs:List Int) (i:Nat):Int:=CJ (zs[i - 16]?.getD 0) (zs[i - 15]?.getD 0) (zs[i - 7]?.getD 0) (zs[i - 2]?.getD 0)
def gy (xs:List UInt8):Nat→List Int
 |0=>List.replicate 64 0
 |i+1=>(gy xs i).set i (if i<16 then wIn xs i else ER (gy xs i) i)
theorem nD (xs:List UInt8) (i:Nat):(gy xs i).length=64:=by
 induction i with
 |zero=>simp [gy]
 |succ i ih=>simp [gy,ih]
structure JK (w:World) (zs:List Int) (wr:World):Prop where
 var:AV (w.heap.size+1) 170 (au zs) wr
 res:AV w.heap.size 170 (au (List.replicate 64 0)) wr
 lo:Below w.heap.size w wr
theorem JK.start (w:World) (xs:List UInt8):JK w (gy xs 0) ((w.alloc (.cells (au (List.replicate 64 0)) 170)).alloc (.cells (au (List.replicate 64 0)) 170)):=
 ⟨⟨heap_alloc2_new w _ _⟩,⟨heap_alloc2_old w _ _⟩,((Below.refl _ w).alloc (Nat.le_refl _) _).alloc (by simp) _⟩
theorem JK.drew {w wr:World} {zs:List Int} (h:JK w zs wr):JK w zs wr.drew:=⟨h.var.drew,h.res.drew,h.lo.drew⟩
theorem JK.put {w wr:World} {zs:List Int} (h:JK w zs wr) (i:Nat) (z:Int):JK w (zs.set i z) (wr.setCell ⟨w.heap.size+1,i,none⟩ (.int .u32 z)):=
 ⟨by rw [←rH];exact h.var.put i _,h.res.far (by omega) _ _,h.lo.setCell (p:=⟨w.heap.size+1,i,none⟩) (Nat.le_succ _) _⟩
theorem JK.drewN {w wr:World} {zs:List Int} (h:JK w zs wr) (n:Nat):JK w zs (wr.drewN n):=⟨⟨h.var.var⟩,⟨h.res.var⟩,⟨h.lo.os,h.lo.tape,h.lo.output,h.lo.size,h.lo.block⟩⟩
theorem Gl (w:World) (bb off c:Nat) (xs:List UInt8) (hx:xs.length=64) (hb:bb<w.heap.size) (hA:∀j,j<64→w.cell? ⟨bb,off+j,none⟩=some (Extern.Stop.cell (xs[j]?.getD 0))):
  Calls Tryz.prog 74 #[.slice (some ⟨bb,off,none⟩) 64 c] w fun e w'=>e= .returned (.agg (au (gy xs 64)))∧Below w.heap.size w w':=by
 have HX:=ae hx;have HA:=ae hA;have H0:=ae (JK.start w xs);clear hx hA;go_enter Tryz.func74,Tryz.ntmps74;go_wp2_with (refine aG rfl _ rfl (au (List.replicate 64 0)) iV ?_)
 go_loopw [9] (fun i wr=>∃k:Nat,k≤64∧i=I k∧JK w (gy xs k) wr) (fun i _=>64 - (intOf i).toNat)
 case atStart=>exact ⟨0,Nat.zero_le _,rfl,H0.out⟩
 case round=>
  obtain ⟨k,hk,rfl,hs⟩:=hrel;have HS:=ae hs;have hlen:=nD xs k;have HL:=ae hlen;clear H0 hs hlen;by_cases hlt:k<64
  ·have i1:(k:Int)<64:=by omega
   by_cases h16:k<16
   ·have i2:(k:Int)<16:=by omega
    obtain ⟨p,hp⟩:∃p:Nat,4*k=p:=⟨_,rfl⟩;obtain ⟨p1,hp1⟩:∃q:Nat,p+1=q:=⟨_,rfl⟩;obtain ⟨p2,hp2⟩:∃q:Nat,p+2=q:=⟨_,rfl⟩;obtain ⟨p3,hp3⟩:∃q:Nat,p+3=q:=⟨_,rfl⟩;have c0:wr.cell? ⟨bb,off+p,none⟩=some (Extern.Stop.cell (xs[p]?.getD 0)):=(HS.out.lo.cell (p:=⟨bb,off+p,none⟩) hb).trans (HA.out p (by omega));have c1:wr.cell? ⟨bb,off+p1,none⟩=some (Extern.Stop.cell (xs[p1]?.getD 0)):=(HS.out.lo.cell (p:=⟨bb,off+p1,none⟩) hb).trans (HA.out p1 (by omega));have c2:wr.cell? ⟨bb,off+p2,none⟩=some (Extern.Stop.cell (xs[p2]?.getD 0)):=(HS.out.lo.cell (p:=⟨bb,off+p2,none⟩) hb).trans (HA.out p2 (by omega));have c3:wr.cell? ⟨bb,off+p3,none⟩=some (Extern.Stop.cell (xs[p3]?.getD 0)):=(HS.out.lo.cell (p:=⟨bb,off+p3,none⟩) hb).trans (HA.out p3 (by omega));obtain ⟨x0,e0⟩:∃x:Int,((xs[p]?.getD 0).toNat:Int)=x:=⟨_,rfl⟩;obtain ⟨x1,e1⟩:∃x:Int,((xs[p1]?.getD 0).toNat:Int)=x:=⟨_,rfl⟩;obtain ⟨x2,e2⟩:∃x:Int,((xs[p2]?.getD 0).toNat:Int)=x:=⟨_,rfl⟩;obtain ⟨x3,e3⟩:∃x:Int,((xs[p3]?.getD 0).toNat:Int)=x:=⟨_,rfl⟩;replace c0:wr.cell? ⟨bb,off+p,none⟩=some (.int .u8 x0):=c0.trans (by rw [←e0];rfl);replace c1:wr.cell? ⟨bb,off+p1,none⟩=some (.int .u8 x1):=c1.trans (by rw [←e1];rfl);replace c2:wr.cell? ⟨bb,off+p2,none⟩=some (.int .u8 x2):=c2.trans (by rw [←e2];rfl);replace c3:wr.cell? ⟨bb,off+p3,none⟩=some (.int .u8 x3):=c3.trans (by rw [←e3];rfl);have g0:4*(k:Int)=(p:Int):=by omega
    have g1:(p:Int)+1=(p1:Int):=by omega
    have g2:(p:Int)+2=(p2:Int):=by omega
    have g3:(p:Int)+3=(p3:Int):=by omega
    have w0:IntKind.i64.wrap (p:Int)=(p:Int):=by rw [IntKind.wrap_i64];omega
    have w1:IntKind.i64.wrap (p1:Int)=(p1:Int):=by rw [IntKind.wrap_i64];omega
    have w2:IntKind.i64.wrap (p2:Int)=(p2:Int):=by rw [IntKind.wrap_i64];omega
    have w3:IntKind.i64.wrap (p3:Int)=(p3:Int):=by rw [IntKind.wrap_i64];omega
    have b0:(p:Int)<64:=by omega
    have b1:(p1:Int)<64:=by omega
    have b2:(p2:Int)<64:=by omega
    have b3:(p3:Int)<64:=by omega
    have HE:=ae (And.intro (And.intro e0 e1) (And.intro e2 e3));have HP:=ae (And.intro hp (And.intro hp1 (And.intro hp2 hp3)));clear e0 e1 e2 e3 hp hp1 hp2 hp3;obtain ⟨z0,hz0⟩:∃z,(gy xs k)[k]?.getD 0=z:=⟨_,rfl⟩;have hv:wr.cell? ⟨w.heap.size+1,k,none⟩=some (.int .u32 z0):=(HS.out.var.cell k).trans (by rw [bU _ _ (by rw [HL.out];exact hlt),hz0]);have hf:=HS.out.var.dV k;clear hz0;have HN:Hid (JK w (gy xs (k+1)) (wr.drew.setCell ⟨w.heap.size+1,k,none⟩ (.int .u32 (P8 x0 x1 x2 x3)))):=ae (by
     have h:=HS.out.drew.put k (P8 x0 x1 x2 x3);have e:P8 x0 x1 x2 x3=wIn xs k:=by
      obtain ⟨⟨e0,e1⟩,e2,e3⟩:=HE.out;obtain ⟨q0,q1,q2,q3⟩:=HP.out;unfold wIn;rw [q0,q1,q2,q3,e0,e1,e2,e3]
     unfold gy;rw [if_pos h16];rw [e] at h ⊢;exact h)
    go_wp2_with fail;go_still_tail 35,(by kernel_rfl);change wpList _ _ _ _ _ wr.drew;go_wp2_with fail;go_roundw
    case rel=>exact ⟨k+1,by omega,by go_num,HN.out⟩
    case measure=>simp [intOf];omega
   ·have i2:¬(k:Int)<16:=by omega
    obtain ⟨q16,Sv⟩:∃q:Nat,k - 16=q:=⟨_,rfl⟩;obtain ⟨L6,Su⟩:∃q:Nat,k - 15=q:=⟨_,rfl⟩;obtain ⟨q7,hq7⟩:∃q:Nat,k - 7=q:=⟨_,rfl⟩;obtain ⟨q2,hq2⟩:∃q:Nat,k - 2=q:=⟨_,rfl⟩;obtain ⟨za,hza⟩:∃z,(gy xs k)[q16]?.getD 0=z:=⟨_,rfl⟩;obtain ⟨zx,hzx⟩:∃z,(gy xs k)[L6]?.getD 0=z:=⟨_,rfl⟩;obtain ⟨zb,hzb⟩:∃z,(gy xs k)[q7]?.getD 0=z:=⟨_,rfl⟩;obtain ⟨zy,hzy⟩:∃z,(gy xs k)[q2]?.getD 0=z:=⟨_,rfl⟩;obtain ⟨z0,hz0⟩:∃z,(gy xs k)[k]?.getD 0=z:=⟨_,rfl⟩;have hv:wr.cell? ⟨w.heap.size+1,k,none⟩=some (.int .u32 z0):=(HS.out.var.cell k).trans (by rw [bU _ _ (by rw [HL.out];exact hlt),hz0]);have va:wr.cell? ⟨w.heap.size+1,q16,none⟩=some (.int .u32 za):=(HS.out.var.cell q16).trans (by rw [bU _ _ (by rw [HL.out];omega),hza]);have vx:wr.cell? ⟨w.heap.size+1,L6,none⟩=some (.int .u32 zx):=(HS.out.var.cell L6).trans (by rw [bU _ _ (by rw [HL.out];omega),hzx]);have vb:wr.cell? ⟨w.heap.size+1,q7,none⟩=some (.int .u32 zb):=(HS.out.var.cell q7).trans (by rw [bU _ _ (by rw [HL.out];omega),hzb]);have vy:wr.cell? ⟨w.heap.size+1,q2,none⟩=some (.int .u32 zy):=(HS.out.var.cell q2).trans (by rw [bU _ _ (by rw [HL.out];omega),hzy]);have hf:=HS.out.var.dV k;have g16:(k:Int) - 16=(q16:Int):=by omega
    have g15:(k:Int) - 15=(L6:Int):=by omega
    have g7:(k:Int) - 7=(q7:Int):=by omega
    have g2:(k:Int) - 2=(q2:Int):=by omega
    have b16:(q16:Int)<64:=by omega
    have b15:(L6:Int)<64:=by omega
    have b7:(q7:Int)<64:=by omega
    have b2:(q2:Int)<64:=by omega
    have w16:IntKind.i64.wrap (q16:Int)=(q16:Int):=by rw [IntKind.wrap_i64];omega
    have w15:IntKind.i64.wrap (L6:Int)=(L6:Int):=by rw [IntKind.wrap_i64];omega
    have w7:IntKind.i64.wrap (q7:Int)=(q7:Int):=by rw [IntKind.wrap_i64];omega
    have w2:IntKind.i64.wrap (q2:Int)=(q2:Int):=by rw [IntKind.wrap_i64];omega
    have HZ:=ae (And.intro (And.intro hza hzx) (And.intro hzb hzy));have HP:=ae (And.intro Sv (And.intro Su (And.intro hq7 hq2)));clear hz0 hza hzx hzb hzy Sv Su hq7 hq2;go_wp2_with fail;go_quiet (fail);obtain ⟨W2,hW2⟩:∃W,wr.drewN nq=W:=⟨_,rfl⟩;have HS2:Hid (JK w (gy xs k) W2):=ae (by rw [←hW2];exact HS.out.drewN nq);replace hv:W2.cell? ⟨w.heap.size+1,k,none⟩=some (.int .u32 z0):=by rw [←hW2];exact hv
    replace va:W2.cell? ⟨w.heap.size+1,q16,none⟩=some (.int .u32 za):=by rw [←hW2];exact va
    replace vb:W2.cell? ⟨w.heap.size+1,q7,none⟩=some (.int .u32 zb):=by rw [←hW2];exact vb
    replace hf:=HS2.out.var.dV k;rw [hW2];have HN:Hid (JK w (gy xs (k+1)) (W2.drew.setCell ⟨w.heap.size+1,k,none⟩ (.int .u32 (CJ za zx zb zy)))):=ae (by
     have h:=HS2.out.drew.put k (CJ za zx zb zy);have e:CJ za zx zb zy=ER (gy xs k) k:=by
      obtain ⟨⟨e0,e1⟩,e2,e3⟩:=HZ.out;obtain ⟨q0,q1,q2,q3⟩:=HP.out;unfold ER;rw [q0,q1,q2,q3,e0,e1,e2,e3]
     unfold gy;rw [if_neg h16];rw [e] at h ⊢;exact h)
    clear hW2 vx vy;go_wp2_with (go_at_call 75;refine (L8 _ _ _ (by kernel_rfl)).mono ?_;rintro e wq ⟨rfl,hwq⟩;have hwq:=hwq.symm;subst hwq);go_still_tail 15,(by kernel_rfl);change wpList _ _ _ _ _ W2.drew;go_wp2_with fail;go_roundw
    case rel=>exact ⟨k+1,by omega,by go_num,HN.out⟩
    case measure=>simp [intOf];omega
  ·have hke:k=64:=by omega
   subst hke;have HRW:Hid (fH wr (w.heap.size+1) (au (gy xs 64))):=ae ⟨HS.out.var.lt,HS.out.var.cell⟩;have ed:Hid ((Tryz.prog.info? 170).map (·.size)=some (au (gy xs 64)).size):=ae (by rw [aW,HL.out];kernel_rfl);have iP:Hid ((au (List.replicate 64 0)).size=(au (gy xs 64)).size):=ae (by rw [aW,aW,HL.out];simp);go_wp2_with (first
    |(refine aQ rfl _ _ rfl (w.heap.size+1) rfl (au (gy xs 64)) HRW.out _ Tryz.underlying170 rfl ed.out ?_)
    |(refine wpList_store_row rfl _ _ _ rfl w.heap.size (au (gy xs 64)) rfl rfl 170 (au (List.replicate 64 0)) HS.out.res.var ed.out iP.out (bH _) ?_))
   refine bodyPost_ret (v:= .agg (au (gy xs 64))) (results_cell_row rfl _ _ w.heap.size _ (au (gy xs 64)) (0,0) _ rfl (setRow_heap _ _ _ _ _ _ HS.out.res.var) Tryz.underlying170 rfl ed.out) rfl ?_;exact ⟨rfl,aB HS.out.lo (Nat.le_refl _) _⟩
end Go.Proofs.YtdibbemgpikgjaaGreatDoor
