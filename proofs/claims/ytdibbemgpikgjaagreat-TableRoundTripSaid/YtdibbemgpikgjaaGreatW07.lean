/- The texts TbV, TbP, TrZ, TrW, in this order. -/
import Derived.Test.YtdibbemgpikgjaaGreatW00
import Derived.Test.YtdibbemgpikgjaaGreatW03
import Derived.Test.YtdibbemgpikgjaaGreatW04
import Derived.Test.YtdibbemgpikgjaaGreatW05
import Derived.Test.YtdibbemgpikgjaaGreatW06
set_option maxRecDepth 10000
set_option maxHeartbeats 8000000
namespace Go.Proofs.YtdibbemgpikgjaaGreat
open Go Go.RowKit
structure TV (w:World) (cs:Array Value) (A:Option Addr) (zs:List dA) (W:World):Prop where
 row:Row W w.heap.size cs
 mem:E8 W w.heap.size A zs
 up:Below w.heap.size w W
theorem TV.below {w W W':World} {cs:Array Value} {A:Option Addr} {zs:List dA} (h:TV w cs A zs W) (hb:Below W.heap.size W W'):TV w cs A zs W':=
 ⟨h.row.keep hb,h.mem.keep (hb.mono h.up.size),ah h.up hb⟩
def iF (zs:List dA):Nat→ByteArray
 |0=>⟨#[]⟩
 |k+1=>(zs[k]?.map (·.e.name)).getD ⟨#[]⟩
theorem wK (w:World) (r:List UInt8) (h:r.length=32):(Op.equalIn 10000 24 (.agg (r.map Extern.Stop.cell).toArray) (.agg (r.map Extern.Stop.cell).toArray)).run Tryz.prog w= .ok true w:=by
 rw [run_equalIn_bytes w 9998 24 5 32 Tryz.underlying24 Tryz.underlying5 (fun w=>Hf w) r r h h,beq_self_eq_true]
def rF (zs:List dA):Prop:=∀k x,zs[k]? =some x→Op.bytesLess x.e.name.toList (iF zs k).toList=false∧(x.e.name.toList==(iF zs k).toList)=false
attribute [local go_sem] jm jo jq bK
theorem AB (t:Tb) (A:Option Addr) (n c:Nat) (zs:List dA) (w:World) (h:lF t) (hz:t.aK=zs.map (·.e)) (hn:zs.length=n) (hA:E8 w w.heap.size A zs) (hup:rF zs):
  Calls Tryz.prog 19 #[.agg (ai t (.slice A n c))] w (Gives (I 0) w):=by
 have HR0:=ae (Row.new w (ai t (.slice A n c)) 32);have HB0:=ae (ag w (.cells (ai t (.slice A n c)) 32));have k0:=HR0.out.2;have q1:=h.bC.1;have q2:=h.bC.2;have q3:=h.version.1;have q4:=h.version.2;have q5:=h.aH.1;have q6:=h.aH.2;have q7:¬(128:Int)<(n:Int):=by
  have:=h.num;rw [hz,List.length_map,hn] at this;omega
 have HF:=ae h;have HZ:=ae hz;have vg:Hid (TV w (ai t (.slice A n c)) A zs (w.alloc (.cells (ai t (.slice A n c)) 32))):=ae ⟨HR0.out,hA.keep HB0.out,HB0.out⟩;have Ir:=ae hn;have Ob:=ae hup;clear h hz hA hn HR0 HB0 hup;by_cases hv:t.version=1
 ·have hpz:t.prev=aS:=HF.out.first hv;have hneq:∀W,(binOp .neq 24 (.agg (au t.prev).toArray) (.agg (au aS).toArray)).run Tryz.prog W= .ok (.bool false) W:=fun W=>by
   rw [hpz];unfold au;rw [run_neq_struct,Go.Proofs.YtdibbemgpikgjaaGreat.wK W aS rfl];simp [Result.andThen]
  have h32:(Tryz.prog.info? 24).map (·.size)=some (au t.prev).length:=by rw [show (au t.prev).length=32 by simp [au,HF.out.prev]];kernel_rfl
  have HP:=ae (qh t (.slice A n c) vg.out.row);have Rl:=ae h32;clear hpz h32;rw [oK] at hneq;go_enter Tryz.func19,Tryz.ntmps19;go_wp2_with (with_reducible refine dM 24 ?_;refine bU rfl _ _ rfl w.heap.size 4 rfl (au t.prev) HP.out _ Tryz.underlying24 rfl Rl.out ?_);clear hneq
  go_loopw [3,56] (fun l i wr=>∃k:Nat,k≤n∧l= .string (iF zs k)∧i=I k∧TV w (ai t (.slice A n c)) A zs wr) (fun _ i _=>n - (intOf i).toNat)
  case atStart=>exact ⟨0,Nat.zero_le _,rfl,rfl,vg.out⟩
  case round=>
   obtain ⟨k,hk,rfl,rfl,D9⟩:=hrel;have HV:=ae D9;have k1:=D9.row.2;have hlt1:=D9.row.1;clear D9 vg k0;by_cases hlt:k<n
   ·have hkz:k<zs.length:=by rw [Ir.out];exact hlt
    obtain ⟨x,hx⟩:∃x,zs[k]? =some x:=⟨_,dK hkz⟩;obtain ⟨b,rfl,hbl,hr,hi⟩:∃b,A=some ⟨b,0,none⟩∧b<w.heap.size∧wr.rangeAt b (k*9) x.cells.toList∧fO wr w.heap.size x.s.A x.e.z.cal.aj:=by
     rcases HV.out.mem with h|⟨b,h1,h2,h3⟩
     ·omega
     ·exact ⟨b,h1,h2,h3 k x hx⟩
    have i0:(0:Int)≤(k:Int):=by omega
    have i1:(k:Int)<(n:Int):=by omega
    have c0:wr.cell? ⟨b,k*9,none⟩=some (.string x.e.name):=hr 0 _ rfl;have c1:wr.cell? ⟨b,k*9+1,none⟩=some (I x.e.z.cal.aI):=hr 1 _ rfl;have c2:wr.cell? ⟨b,k*9+2,none⟩=some (.slice x.s.A x.e.z.cal.aj.length x.s.a):=hr 2 _ rfl;have c3:wr.cell? ⟨b,k*9+3,none⟩=some (I x.e.z.cal.aY):=hr 3 _ rfl;have c4:wr.cell? ⟨b,k*9+4,none⟩=some (.slice x.s.B x.e.z.cal.rules.length x.s.b):=hr 4 _ rfl;have c5:wr.cell? ⟨b,k*9+5,none⟩=some (I x.e.z.start):=hr 5 _ rfl;have c6:wr.cell? ⟨b,k*9+6,none⟩=some (.slice x.s.C x.e.z.trans.length x.s.c):=hr 6 _ rfl;have c7:wr.cell? ⟨b,k*9+7,none⟩=some (I x.e.z.hor):=hr 7 _ rfl;have c8:wr.cell? ⟨b,k*9+8,none⟩=some (.slice x.s.D x.e.z.az.length x.s.d):=hr 8 _ rfl;have HX:=ae hx;have HI:=ae hi;have hxm:x.e∈t.aK:=by rw [HZ.out];exact List.mem_map_of_mem (gz hx)
    have Rx:=ae (HF.out.flat _ hxm);have q8:¬(32:Int)<(x.e.name.size:Int):=by have:=HF.out.short _ hxm;omega
    obtain ⟨s1,s2⟩:=Ob.out k x hx;obtain ⟨L,hL⟩:∃L,iF zs k=L:=⟨_,rfl⟩;have PW:Hid (∀w',Below wr.heap.size wr w'→Calls Tryz.prog 39 #[.agg #[I x.e.z.cal.aI, .slice x.s.A x.e.z.cal.aj.length x.s.a,I x.e.z.cal.aY, .slice x.s.B x.e.z.cal.rules.length x.s.b,I x.e.z.start, .slice x.s.C x.e.z.trans.length x.s.c,I x.e.z.hor, .slice x.s.D x.e.z.az.length x.s.d]] w' (Gives (I 0) w')):=ae fun w' hb=>
     uK x.e.z x.s w' Rx.out (((HI.out.more HV.out.up.size).keep hb).more hb.size)
    rw [hL] at s1 s2 ⊢;have hlb:b<wr.heap.size:=by omega
    have HB2:=ae (ag wr (.cells x.cells 55));have ET:Hid (iF zs (k+1)=x.e.name):=ae (by show (zs[k]?.map (·.e.name)).getD ⟨#[]⟩=_;rw [hx];rfl);clear hx hr hi hxm hkz hL;go_wp2_with fail;refine (PW.out _ HB2.out).mono ?_;rintro e w2 ⟨rfl,hb2⟩;have ni:=ae (HV.out.below (ah HB2.out hb2));have d0:w2.cell? ⟨wr.heap.size,0,none⟩=some (.string x.e.name):=((Row.new wr x.cells 55).keep hb2).2 0;clear hb2 c0 c1 c2 c3 c4 c5 c6 c7 c8 k1 PW;go_wp2_with fail;go_roundw
    case rel=>exact ⟨k+1,by omega,by rw [ET.out],by go_num,ni.out⟩
    case measure=>simp [intOf];omega
   ·go_wp2_with fail;go_ret;exact ⟨rfl,HV.out.up⟩
 ·go_enter Tryz.func19,Tryz.ntmps19;go_wp2_with fail
  go_loopw [3,56] (fun l i wr=>∃k:Nat,k≤n∧l= .string (iF zs k)∧i=I k∧TV w (ai t (.slice A n c)) A zs wr) (fun _ i _=>n - (intOf i).toNat)
  case atStart=>exact ⟨0,Nat.zero_le _,rfl,rfl,vg.out⟩
  case round=>
   obtain ⟨k,hk,rfl,rfl,D9⟩:=hrel;have HV:=ae D9;have k1:=D9.row.2;have hlt1:=D9.row.1;clear D9 vg k0;by_cases hlt:k<n
   ·have hkz:k<zs.length:=by rw [Ir.out];exact hlt
    obtain ⟨x,hx⟩:∃x,zs[k]? =some x:=⟨_,dK hkz⟩;obtain ⟨b,rfl,hbl,hr,hi⟩:∃b,A=some ⟨b,0,none⟩∧b<w.heap.size∧wr.rangeAt b (k*9) x.cells.toList∧fO wr w.heap.size x.s.A x.e.z.cal.aj:=by
     rcases HV.out.mem with h|⟨b,h1,h2,h3⟩
     ·omega
     ·exact ⟨b,h1,h2,h3 k x hx⟩
    have i0:(0:Int)≤(k:Int):=by omega
    have i1:(k:Int)<(n:Int):=by omega
    have c0:wr.cell? ⟨b,k*9,none⟩=some (.string x.e.name):=hr 0 _ rfl;have c1:wr.cell? ⟨b,k*9+1,none⟩=some (I x.e.z.cal.aI):=hr 1 _ rfl;have c2:wr.cell? ⟨b,k*9+2,none⟩=some (.slice x.s.A x.e.z.cal.aj.length x.s.a):=hr 2 _ rfl;have c3:wr.cell? ⟨b,k*9+3,none⟩=some (I x.e.z.cal.aY):=hr 3 _ rfl;have c4:wr.cell? ⟨b,k*9+4,none⟩=some (.slice x.s.B x.e.z.cal.rules.length x.s.b):=hr 4 _ rfl;have c5:wr.cell? ⟨b,k*9+5,none⟩=some (I x.e.z.start):=hr 5 _ rfl;have c6:wr.cell? ⟨b,k*9+6,none⟩=some (.slice x.s.C x.e.z.trans.length x.s.c):=hr 6 _ rfl;have c7:wr.cell? ⟨b,k*9+7,none⟩=some (I x.e.z.hor):=hr 7 _ rfl;have c8:wr.cell? ⟨b,k*9+8,none⟩=some (.slice x.s.D x.e.z.az.length x.s.d):=hr 8 _ rfl;have HX:=ae hx;have HI:=ae hi;have hxm:x.e∈t.aK:=by rw [HZ.out];exact List.mem_map_of_mem (gz hx)
    have Rx:=ae (HF.out.flat _ hxm);have q8:¬(32:Int)<(x.e.name.size:Int):=by have:=HF.out.short _ hxm;omega
    obtain ⟨s1,s2⟩:=Ob.out k x hx;obtain ⟨L,hL⟩:∃L,iF zs k=L:=⟨_,rfl⟩;have PW:Hid (∀w',Below wr.heap.size wr w'→Calls Tryz.prog 39 #[.agg #[I x.e.z.cal.aI, .slice x.s.A x.e.z.cal.aj.length x.s.a,I x.e.z.cal.aY, .slice x.s.B x.e.z.cal.rules.length x.s.b,I x.e.z.start, .slice x.s.C x.e.z.trans.length x.s.c,I x.e.z.hor, .slice x.s.D x.e.z.az.length x.s.d]] w' (Gives (I 0) w')):=ae fun w' hb=>
     uK x.e.z x.s w' Rx.out (((HI.out.more HV.out.up.size).keep hb).more hb.size)
    rw [hL] at s1 s2 ⊢;have hlb:b<wr.heap.size:=by omega
    have HB2:=ae (ag wr (.cells x.cells 55));have ET:Hid (iF zs (k+1)=x.e.name):=ae (by show (zs[k]?.map (·.e.name)).getD ⟨#[]⟩=_;rw [hx];rfl);clear hx hr hi hxm hkz hL;go_wp2_with fail;refine (PW.out _ HB2.out).mono ?_;rintro e w2 ⟨rfl,hb2⟩;have ni:=ae (HV.out.below (ah HB2.out hb2));have d0:w2.cell? ⟨wr.heap.size,0,none⟩=some (.string x.e.name):=((Row.new wr x.cells 55).keep hb2).2 0;clear hb2 c0 c1 c2 c3 c4 c5 c6 c7 c8 k1 PW;go_wp2_with fail;go_roundw
    case rel=>exact ⟨k+1,by omega,by rw [ET.out],by go_num,ni.out⟩
    case measure=>simp [intOf];omega
   ·go_wp2_with fail;go_ret;exact ⟨rfl,HV.out.up⟩
end Go.Proofs.YtdibbemgpikgjaaGreat
namespace Go.Proofs.YtdibbemgpikgjaaGreat
open Go Go.RowKit
attribute [local go_sem] jX kC jY kD nK nM jV ku jW kz
theorem LY (t:Tb) (A:Option Addr) (c lo:Nat) (zs:List dA) (w:World) (hz:∀x∈zs,ig x.e.z) (hn1:zs.length≤128) (h32:t.prev.length=32) (hm:t.bJ.length=32) (hO:gX lo w (.slice A zs.length c) zs):
  Calls Tryz.prog 22 #[.agg (ai t (.slice A zs.length c))] w (ClT w t zs):=by
 rcases hO.form with ⟨h1,h2⟩|⟨h1,g,c',h2,h3,h4⟩
 ·subst h1;rw [h2];exact Jo t h32 hm w
 ·injection h2 with e1 e2 e3;subst e1 e3;exact Jp t g c zs.length zs w (fun x hx=>⟨hz x hx,hO.nils x hx⟩) rfl h1 hn1 h32 hm (fun j u hu=>l9 hO.row j u hu) h4 (fun x hx=>(hO.aj x hx).ints)
def gq (zs:List Ze):List UInt8:=zs.flatMap oJ
theorem Ik (zs:List Ze) (x:Ze):gq (zs++ [x])=gq zs++oJ x:=by simp [gq]
theorem zY (zs:List Ze) (h:∀e∈zs,ig e.z∧e.name.size≤32):(gq zs).length≤zs.length*69:=by
 induction zs with
 |nil=>exact Nat.zero_le _
 |cons x zs ih=>
  have h1:=ih fun e he=>h e (List.mem_cons_of_mem _ he);have h2:=D6 x (h x List.mem_cons_self).1 (h x List.mem_cons_self).2;unfold gq at h1 ⊢;rw [List.flatMap_cons,bF,List.length_cons];omega
def WzRel (w:World) (g:Nat) (v:Value) (bs:List UInt8) (n:Nat) (zs:List Ze) (i:Value) (wr:World):Prop:=
 ∃k:Nat,k≤n∧i= .int .i64 k∧∃v',fG wr g v' (bs++(le n 1++gq (zs.take k)))∧iy g v w v' wr
theorem yf (w:World) (g lb lo:Nat) (A:Option Addr) (c:Nat) (v:Value) (bs:List UInt8) (hp:w.cell? ⟨lb,lo,none⟩=some (.slice A 0 c)) (hl:bs.length≤100000000) (hst:fG w g v bs):
  Calls Tryz.prog 42 #[.iface 71 (pt g), .pointer (some ⟨lb,lo,none⟩),I 1, .func (.func 43) #[] #[]] w (fJ w g v (bs++le 0 1)):=by
 have HC:=ae (fP w.drew g v bs 0 1 (by omega) (by omega) (by omega) (by omega) hst.drew);clear hst;go_enter Tryz.func42,Tryz.ntmps42;go_wp2_with fail;go_still_tail 9,(by kernel_rfl);go_wp2_with fail;refine HC.out.mono ?_;rintro e w1 ⟨rfl,v1,hs1,hk1⟩;have kS:=ae hs1;have gK:=ae (aJ hk1);clear hs1 hk1 HC hp;go_wp2_with fail
 go_loop [22] (fun i=>i= .int .i64 0) (fun _=>0)
 case atStart=>rfl
 case round=>
  subst hrel;go_wp2_with fail
  go_end0
  exact ⟨rfl,v1,kS.out,gK.out⟩
theorem Ie (w:World) (g lb lo zg n c:Nat) (zs:List dA) (v:Value) (bs:List UInt8) (hn:zs.length=n) (hn2:n≤128) (hp:w.cell? ⟨lb,lo,none⟩=some (.slice (some ⟨zg,0,none⟩) n c)) (MC:lb<g) (hzg:zg<g)
  (hcl:∀j u,(aP zs)[j]? =some u→w.cell? ⟨zg,j,none⟩=some u) (hfz:∀j,w.frozen? ⟨zg,j,none⟩=false) (hfl:∀x∈zs,ig x.e.z∧x.e.name.size≤32) (hI:∀x∈zs,fO w g x.s.A x.e.z.cal.aj)
  (hl:bs.length≤1000000) (hst:fG w g v bs):
  Calls Tryz.prog 42 #[.iface 71 (pt g), .pointer (some ⟨lb,lo,none⟩),I 1, .func (.func 43) #[] #[]] w (fJ w g v (bs++(le n 1++gq (zs.map (·.e))))):=by
 have HC:=ae (fP w.drew g v bs n 1 (by omega) (by omega) (by omega) (by omega) hst.drew);have HST:=ae hst;have HN:=ae hn;have HF:=ae hfl;have gJ:=ae hcl;have HFZ:=ae hfz;have HI:=ae hI;have HP:=ae hp;have hgl:=hst.lt;clear hst hn hfl hcl hfz hI;go_enter Tryz.func42,Tryz.ntmps42;go_wp2_with fail;go_still_tail 9,(by kernel_rfl);go_wp2_with fail;refine HC.out.mono ?_;rintro e w1 ⟨rfl,v1,hs1,hk1⟩;have kS:=ae hs1;have gK:=ae (aJ hk1);clear hs1 hk1 HC hp;go_wp2_with fail
 go_loopw [22] (fun i wr=>WzRel w g v bs n (zs.map (·.e)) i wr) (fun i _=>n - (intOf i).toNat)
 case atStart=>exact ⟨0,Nat.zero_le _,rfl,v1,by simpa [gq] using kS.out,gK.out⟩
 case round=>
  obtain ⟨k,hk,rfl,v2,hs2,hk2⟩:=hrel;have hb2:=bI HST.out hk2;have HB2:=ae hb2;have HS2:=ae hs2;have ja:=ae hk2;have hp2:wr.cell? ⟨lb,lo,none⟩=some (.slice (some ⟨zg,0,none⟩) n c):=(hb2.cell (p:=⟨lb,lo,none⟩) MC).trans HP.out;clear hs2 hk2 hb2 kS gK;by_cases hlt:k<n
  ·have hkz:k<zs.length:=by rw [HN.out];exact hlt
   obtain ⟨x,hx⟩:∃x,zs[k]? =some x:=⟨_,dK hkz⟩;have hxm:=gz hx;have hlen:(bs++(le (n:Int) 1++gq ((zs.map (·.e)).take k))).length≤9000000:=by
    have h1:=zY ((zs.map (·.e)).take k) fun e he=>by
     obtain ⟨y,hy,rfl⟩:=List.mem_map.1 (List.mem_of_mem_take he);exact HF.out y hy
    have h2:((zs.map (·.e)).take k).length≤128:=by rw [List.length_take,List.length_map,HN.out];omega
    simp only [bF,aA];omega
   have HM:=ae (Kw wr g zg (k*9) x v2 _ (HF.out x hxm).1 (HF.out x hxm).2 (fun j u hu=>(HB2.out.cell (p:=⟨zg,k*9+j,none⟩) hzg).trans (gJ.out _ _ (by
    have hj:j<9:=(iP.1 hu).1;rw [lN zs k j x hx hj];simpa using hu))) ((HB2.out.frozen (p:=⟨zg,k*9+1+2,none⟩) hzg).trans (HFZ.out _)) hzg ((HI.out x hxm).keep HB2.out) hlen HS2.out)
   have HX:=ae hx;have i0:(0:Int)≤(k:Int):=by omega
   have i1:(k:Int)<(n:Int):=by omega
   have i2:((k:Int)==(n:Int))=false:=by simp;omega
   clear hkz hx hlen hxm;go_wp2_with fail;refine HM.out.mono ?_;rintro e w3 ⟨rfl,v3,hs3,hk3⟩;have nS:=ae hs3;have kX:=ae (ja.out.trans hk3);clear hs3 hk3 hp2;go_wp2_with fail;go_roundw
   case rel=>exact ⟨k+1,by omega,by go_num,v3,by rw [jJ (zs.map (·.e)) k x.e (by rw [List.getElem?_map,HX.out];rfl),Ik,←List.append_assoc (le _ _),←List.append_assoc];exact nS.out,kX.out⟩
   case measure=>simp [intOf];omega
  ·have hkn:k=n:=by omega
   have kY:=ae hkn;clear hkn;go_wp2_with fail
   go_end0
   exact ⟨rfl,v2,by have h:=HS2.out;rwa [kY.out,List.take_of_length_le (by rw [List.length_map,HN.out];exact Nat.le_refl _)] at h,ja.out⟩
structure Fa (g:Nat) (w:World) (A:Option Addr) (zs:List dA):Prop where
 row:zs.length=0∨∃zg,A=some ⟨zg,0,none⟩∧zg<g∧(∀j u,(aP zs)[j]? =some u→w.cell? ⟨zg,j,none⟩=some u)∧∀j,w.frozen? ⟨zg,j,none⟩=false
 aj:∀x∈zs,fO w g x.s.A x.e.z.cal.aj
theorem Fa.keep {g:Nat} {w w':World} {A:Option Addr} {zs:List dA} (h:Fa g w A zs) (hb:Below g w w'):Fa g w' A zs:=
 ⟨h.row.elim .inl fun ⟨zg,h1,h2,h3,h4⟩=> .inr ⟨zg,h1,h2,fun j u hu=>(hb.cell (p:=⟨zg,j,none⟩) h2).trans (h3 j u hu),fun j=>(hb.frozen (p:=⟨zg,j,none⟩) h2).trans (h4 j)⟩,fun x hx=>(h.aj x hx).keep hb⟩
theorem gX.low {lo n c:Nat} {w:World} {A:Option Addr} {zs:List dA} (h:gX lo w (.slice A n c) zs):Fa w.heap.size w A zs:=by
 refine ⟨?_,fun x hx=>(h.aj x hx).ints⟩;rcases h.form with ⟨h1,_⟩|⟨_,g,c',h2,_,h4⟩
 ·exact .inl (by rw [h1];rfl)
 ·injection h2 with e1 e2 e3;subst e1 e2;exact .inr ⟨g,rfl,h4,fun j u hu=>l9 h.row j u hu,xK h.row⟩
def fF (t:Tb):List UInt8:=le t.bC 1++(le t.version 1++(le t.aH 1++(t.prev++(le t.aK.length 1++gq t.aK))))
theorem JY (t:Tb) (h:lF t):36≤(fF t).length∧(fF t).length≤9000:=by
 have h1:=zY t.aK fun e he=>⟨h.flat e he,h.short e he⟩;have h2:=h.num;have h3:=h.prev;simp only [fF,bF,aA];omega
theorem Ky (w:World) (g lb lo n c:Nat) (A:Option Addr) (zs:List dA) (v:Value) (bs:List UInt8) (hn:zs.length=n) (hn2:n≤128) (hp:w.cell? ⟨lb,lo,none⟩=some (.slice A n c)) (MC:lb<g) (hz:Fa g w A zs) (hfl:∀x∈zs,ig x.e.z∧x.e.name.size≤32)
  (hl:bs.length≤1000000) (hst:fG w g v bs):
  Calls Tryz.prog 42 #[.iface 71 (pt g), .pointer (some ⟨lb,lo,none⟩),I 1, .func (.func 43) #[] #[]] w (fJ w g v (bs++(le n 1++gq (zs.map (·.e))))):=by
 by_cases h0:n=0
 ·subst h0;have:=yf w g lb lo A c v bs hp (by omega) hst;rw [List.eq_nil_of_length_eq_zero hn];simpa [gq] using this
 ·rcases hz.row with h|⟨zg,rfl,h2,h3,h4⟩
  ·omega
  ·exact Ie w g lb lo zg n c zs v bs hn hn2 hp MC h2 h3 h4 hfl hz.aj hl hst
attribute [local go_sem] jm jo jq bK
theorem KA (w:World) (g tb n c:Nat) (t:Tb) (A:Option Addr) (zs:List dA) (v:Value) (h:lF t) (hzz:t.aK=zs.map (·.e)) (hn:zs.length=n) (htb:tb<g) (hr:Row w tb (ai t (.slice A n c))) (hz:Fa g w A zs) (hst:fG w g v []):
  Calls Tryz.prog 23 #[.iface 71 (pt g), .pointer (some ⟨tb,0,none⟩)] w (fJ w g v (fF t)):=by
 have hgl:=hst.lt;have c0:=hr.2 0;have c1:w.cell? ⟨tb,1,none⟩=some (I t.version):=(hr.2 1).trans (jo _ _);have c2:w.cell? ⟨tb,2,none⟩=some (I t.aH):=(hr.2 2).trans (jq _ _);have c3:w.cell? ⟨tb,3,none⟩=some (.slice A n c):=(hr.2 3).trans (bK _ _);have hn2:n≤128:=by have:=h.num;rw [hzz,List.length_map] at this;omega
 have q1:=h.bC;have q2:=h.version;have q3:=h.aH;have jO:=ae (cu w.drew g ⟨tb,0,none⟩ v [] t.bC 1 (by omega) (by omega) (by omega) (by decide) hst.lt hst.drew (c0.trans (jm _ _)));have HPV:=ae (qh t (.slice A n c) hr);have HST:=ae hst;have HF:=ae h;have HZ:=ae hz;have HZZ:=ae hzz;have HN:=ae hn;have Gi:Hid (∀j u,Below g w u→u.cell? ⟨tb,j,none⟩=w.cell? ⟨tb,j,none⟩):=ae fun j u hb=>hb.cell (p:=⟨tb,j,none⟩) htb;have Rx:Hid (∀x∈zs,ig x.e.z∧x.e.name.size≤32):=ae fun x hx=>by
  have hm:x.e∈t.aK:=by rw [hzz];exact List.mem_map_of_mem hx
  exact ⟨h.flat _ hm,h.short _ hm⟩
 clear h hr hst hz hzz hn c0;go_enter Tryz.func23,Tryz.ntmps23;go_wp2_with fail;go_still_tail 7,(by kernel_rfl);go_wp2_with fail;refine jO.out.mono ?_;rintro e w1 ⟨rfl,v1,hs1,hk1⟩;obtain ⟨B1,hB1⟩:∃B,[]++le t.bC 1=B:=⟨_,rfl⟩;have hl1:B1.length≤1:=by rw [←hB1];simp [aA]
 rw [hB1] at hs1;have hb1:=bI HST.out (aJ hk1);have HB1:=ae hb1;have kS:=ae hs1;have gK:=ae (aJ hk1);have jS:=ae hB1;have HC2:=ae (cu w1.drew g ⟨tb,1,none⟩ v1 B1 t.version 1 (by omega) (by omega) (by omega) (by omega) hs1.lt hs1.drew ((Gi.out _ _ hb1).trans c1));clear hs1 hk1 hb1 jO hB1 c1;go_wp2_with fail;go_still_tail 7,(by kernel_rfl);go_wp2_with fail;refine HC2.out.mono ?_;rintro e w2 ⟨rfl,v2,hs2,hk2⟩;obtain ⟨B2,hB2⟩:∃B,B1++le t.version 1=B:=⟨_,rfl⟩;have hl2:B2.length≤2:=by rw [←hB2,bF,aA];omega
 rw [hB2] at hs2;have hb2:=HB1.out.trans (bI kS.out (aJ hk2));have HB2:=ae hb2;have HS2:=ae hs2;have ja:=ae (gK.out.trans (aJ hk2));have jr:=ae hB2;have qy:=ae (cu w2.drew g ⟨tb,2,none⟩ v2 B2 t.aH 1 (by omega) (by omega) (by omega) (by omega) hs2.lt hs2.drew ((Gi.out _ _ hb2).trans c2));clear hs2 hk2 hb2 HC2 hB2 c2;go_wp2_with fail;go_still_tail 7,(by kernel_rfl);go_wp2_with fail;refine qy.out.mono ?_;rintro e w3 ⟨rfl,v3,hs3,hk3⟩;obtain ⟨B3,hB3⟩:∃B,B2++le t.aH 1=B:=⟨_,rfl⟩;have hl3:B3.length≤3:=by rw [←hB3,bF,aA];omega
 rw [hB3] at hs3;have hb3:=HB2.out.trans (bI HS2.out (aJ hk3));have HB3:=ae hb3;have nS:=ae hs3;have kX:=ae (ja.out.trans (aJ hk3));have xg:=ae hB3;have qH:=ae (zN w3.drew g tb 4 v3 B3 t.prev (by omega) (fun j u hu=>(Gi.out _ _ hb3).trans (HPV.out j u hu)) HF.out.prev hs3.drew);clear hs3 hk3 hb3 qy hB3;go_wp2_with fail;go_still_tail 7,(by kernel_rfl);go_wp2_with fail;refine qH.out.mono ?_;rintro e w4 ⟨rfl,v4,hs4,hk4⟩;obtain ⟨B4,hB4⟩:∃B,B3++t.prev=B:=⟨_,rfl⟩;have hl4:B4.length≤35:=by rw [←hB4,bF,HF.out.prev];omega
 rw [hB4] at hs4;have hb4:=HB3.out.trans (bI nS.out (aJ hk4));have yu:=ae hs4;have KL:=ae (kX.out.trans (aJ hk4));have PK:=ae hB4;have yt:=ae (Ky w4 g tb 3 n c A zs v4 B4 HN.out hn2 ((Gi.out _ _ hb4).trans c3) htb (HZ.out.keep hb4) Rx.out (by omega) hs4);clear hs4 hk4 hb4 qH hB4 c3;go_wp2_with fail;refine yt.out.mono ?_;rintro e w5 ⟨rfl,v5,hs5,hk5⟩;have vV:=ae hs5;have zq:=ae (KL.out.trans hk5);clear hs5 hk5 yt;go_wp2_with fail
 go_end0
 refine ⟨rfl,v5,?_,zq.out⟩;have hh:=vV.out;rw [←PK.out,←xg.out,←jr.out,←jS.out] at hh;unfold fF;rw [HZZ.out,List.length_map,HN.out];simpa only [List.append_assoc,List.nil_append] using hh
end Go.Proofs.YtdibbemgpikgjaaGreat
namespace Go.Proofs.YtdibbemgpikgjaaGreat
open Go Go.RowKit
attribute [local go_sem] dD dH dE dI ed eu dB dF dC dG
theorem uT (ls bs:List Value) (j:Nat) (v:Value) (hj:j<bs.length):(ls++bs).set (ls.length+j) v=ls++bs.set j v:=by
 have h:=set_mid ls bs [] j v hj;rw [List.append_nil,List.append_nil] at h;exact h
def Qa (xs:List Value) (eo:Nat) (e:Ze) (A:Option Addr) (a:Nat):List Value:=
 (((((xs.set eo (.string e.name)).set (eo+1) (I e.z.cal.aI)).set (eo+1+1) (.slice A e.z.cal.aj.length a)).set (eo+1+2) (I (-1))).set (eo+1+4) (I e.z.start)).set (eo+1+6) (I e.z.hor)
theorem Qb (cs:Array Value) (eo m:Nat) (e:Ze) (A:Option Addr) (a:Nat):(um cs eo e A a).toList.take m=Qa (cs.toList.take m) eo e A a:=by
 unfold um Qa;simp only [Array.toList_setIfInBounds,List.take_set]
theorem TD (ys:List dA) (x:Ze) (hx:ig x.z) (A:Option Addr) (a:Nat):Qa (aP ys++fZ.toList) (ys.length*9) x A a=aP (ys++ [⟨x,⟨A,a,none,0,none,0,none,0⟩⟩]):=by
 rw [zV];unfold Qa;rw [←dN];have h9:fZ.toList.length=9:=rfl;have e0:(aP ys).length=(aP ys).length+0:=rfl;rw [e0,uT _ _ 0 _ (by omega),Nat.add_zero,uT _ _ 1 _ (by simp [h9])];rw [show (aP ys).length+1+1=(aP ys).length+2 from rfl,uT _ _ 2 _ (by simp [h9])];rw [show (aP ys).length+1+2=(aP ys).length+3 from rfl,uT _ _ 3 _ (by simp [h9])];rw [show (aP ys).length+1+4=(aP ys).length+5 from rfl,uT _ _ 5 _ (by simp [h9])];rw [show (aP ys).length+1+6=(aP ys).length+7 from rfl,uT _ _ 7 _ (by simp [h9])];congr 1;unfold aP dA.cells fZ;simp [hx.cal.le,hx.cal.ru,hx.trans,hx.az]
theorem XA {W W':World} {lo g n m cap rb eo:Nat} {xs:List Value} {e:Ze} {A:Option Addr} {a:Nat} {cur:Array Value} (h:W.ownsRow lo 55 9 (.slice (some ⟨g,0,none⟩) n cap) m xs) (hg:W.heap[g]? =some (.cells cur 55 (0,0))) (hp:bD W rb g 55 (um cur eo e A a) W'):
  W'.ownsRow lo 55 9 (.slice (some ⟨g,0,none⟩) n cap) m (Qa xs eo e A a):=by
 obtain ⟨cur',h1,h2,h3,h4,h5,h6,h7,rfl⟩:=ji h;rw [hg] at h1;injection h1 with h1;injection h1 with h1;subst h1;refine G8 hp.tgt h2 h3 h4 ?_ (by rw [Qb,h6]) (by unfold Qa;simp only [List.length_set];exact h7);unfold um;simp only [Array.size_setIfInBounds];exact h5
def RzRel (M:Nat) (w:World) (rb pb po:Nat) (t:TypeId) (cs:Array Value) (n:Nat) (zs:List Ze) (R:List UInt8) (i:Value) (wr:World):Prop:=
 ∃(k:Nat) (A:Option Addr) (c:Nat) (ys:List dA),k≤n∧i= .int .i64 k∧ys.length=k∧ys.map (·.e)=zs.take k∧fQ M wr rb (gq (zs.drop k)++R)∧bD w rb pb t (cs.setIfInBounds po (.slice A k c)) wr∧
  wr.ownsRow w.heap.size 55 9 (.slice A k c) k (aP ys)∧(∀y∈ys,zt y.s∧∃g,A=some ⟨g,0,none⟩∧LX w.heap.size g wr y.s.A y.e.z.cal.aj)∧(k=0→A=none∧c=0)
def TZeR (M:Nat) (w:World) (rb pb po:Nat) (t:TypeId) (cs:Array Value) (zs:List Ze) (n:Nat) (R:List UInt8) (e:Ending) (w':World):Prop:=
 e= .returned (.tuple #[])∧∃A c ys,fQ M w' rb R∧bD w rb pb t (cs.setIfInBounds po (.slice A n c)) w'∧gX w.heap.size w' (.slice A n c) ys∧ys.map (·.e)=zs
theorem U2 (M:Nat) (w:World) (rb pb po n:Nat) (t:TypeId) (cs:Array Value) (zs:List Ze) (R:List UInt8) (hn:zs.length=n) (hn2:n≤128) (hfl:∀x∈zs,ig x.z∧x.name.size≤32) (hr:fQ M w rb ((le n 1++gq zs)++R)) (hp:w.heap[pb]? =some (.cells cs t (0,0))) (hpo:cs[po]? =some (.slice none 0 0)) (mG:M≤pb) (hne:pb≠rb):
  Calls Tryz.prog 42 #[.iface 109 (pt rb), .pointer (some ⟨pb,po,none⟩),I 1, .func (.func 43) #[] #[]] w (TZeR M w rb pb po t cs zs n R):=by
 rw [List.append_assoc] at hr;have hpl:pb<w.heap.size:=(bY.1 hp).1;have hlo:=hr.lo;have hrl:=hr.lt;have hcs:cs.setIfInBounds po (.slice none 0 0)=cs:=by
  apply Array.ext_getElem?;intro i;rw [Array.getElem?_setIfInBounds];split
  ·rename_i e;subst e;split
   ·exact hpo.symm
   ·rename_i e2;rw [Array.getElem?_eq_none (by omega)] at hpo;cases hpo
  ·rfl
 have hc0:w.cell? ⟨pb,po,none⟩=some (.slice none 0 0):=(cell_of_row w pb po _ _ _ hp).trans hpo;have hpos:po<cs.size:=(bY.1 hpo).1;have HC:=ae (kH M w.drew rb 1 0 n n (gq zs++R) hr.drew (by omega) (iG _ (by omega) (by omega) _));have HP:Hid (bD w rb pb t (cs.setIfInBounds po (.slice none 0 0)) w):=ae (by rw [hcs];exact bD.refl hp);have HN:=ae hn;have HF:=ae hfl;clear hr hp hpo hcs hn hfl;obtain ⟨i0,hi,hz0,hz1,hz2⟩:=info_parts uQ;go_enter Tryz.func42,Tryz.ntmps42;go_wp2_with fail;go_still_tail 9,(by kernel_rfl);go_wp2_with fail;refine HC.out.mono ?_;rintro e w1 ⟨rfl,hr1,hk1⟩;have HR1:=ae hr1;have lU:=ae (HP.out.drew.jZ hk1 hpl hne);clear hr1 hk1 HC hc0;go_wp2_with fail
 go_loopw [22] (fun i wr=>RzRel M w rb pb po t cs n zs R i wr) (fun i _=>n - (intOf i).toNat)
 case atStart=>exact ⟨0,none,0,[],Nat.zero_le _,rfl,rfl,rfl,HR1.out,lU.out,World.ownsRow_nil _ _ _ _,(fun _ h=>nomatch h),fun _=>⟨rfl,rfl⟩⟩
 case round=>
  obtain ⟨k,A,c,ys,hk,rfl,hyl,hye,hr,hp,hown,hym,hnl⟩:=hrel;have HR:=ae hr;have lV:=ae hp;have HO:=ae hown;have lW:=ae hyl;have Oe:=ae hye;have IY:=ae hym;have KX:=ae hnl;have hcp:wr.cell? ⟨pb,po,none⟩=some (.slice A k c):=(hp.cell po).trans (by simp [hpos]);have hsw:=hp.size;clear hr hp hown hyl hye hym hnl HR1 lU HP;by_cases hlt:k<n
  ·have Ri:(0:Int)≤(k:Int):=by omega
   have i1:(k:Int)<(n:Int):=by omega
   have hkz:k<zs.length:=by rw [HN.out];exact hlt
   obtain ⟨x,hx⟩:∃x,zs[k]? =some x:=⟨_,dK hkz⟩;have Uk:=HF.out x (gz hx);have HX:=ae hx;have KO:=ae Uk;clear hx Uk;have BB:Hid (∀j u,fZ.toList[j]? =some u→(((wr.alloc (.cells fZ 55)).alloc (.cells fZ 55)).drew).cell? ((⟨wr.heap.size+1,0,none⟩:Addr).add j)=some u):=ae fun j u hu=>by
    rw [addr_add];have h:=(Row.new (wr.alloc (.cells fZ 55)) fZ 55).2 j;rw [World.size_alloc] at h;exact h.trans (by simpa using hu)
   have vU:Hid (∀u∈fZ.toList,u.oneCell'=true):=ae (by
    intro u hu;have h:fZ.all (·.oneCell')=true:=by kernel_rfl
    rw [Array.all_eq_true_iff_forall_mem] at h;exact h u (by simpa using hu))
   have Uh:pb<wr.heap.size:=by omega
   have hmx:k+1≤maxLen:=by unfold maxLen;omega
   have hby:(k+1)*144≤140737488355328:=by omega
   have N7:Hid (w.heap.size≤(((wr.alloc (.cells fZ 55)).alloc (.cells fZ 55)).drew).heap.size):=ae (by simp;omega);have dR:Hid ((((wr.alloc (.cells fZ 55)).alloc (.cells fZ 55)).drew).heap.size=wr.heap.size+2):=ae (by simp);have RH:Hid ((((wr.alloc (.cells fZ 55)).alloc (.cells fZ 55)).drew).ownsRow w.heap.size 55 9 (.slice A k c) k (aP ys)):=ae ((HO.out.alloc _).alloc _).drew;have yF:Hid (∀b,b<wr.heap.size→(((wr.alloc (.cells fZ 55)).alloc (.cells fZ 55)).drew).heap[b]? =wr.heap[b]?):=ae fun b hb=>(Below.heap_alloc (wr.alloc (.cells fZ 55)) _ b (by simp;omega)).trans (Below.heap_alloc wr _ b hb);go_wp2_with fail
   go_region_law (refine step_append_lies _ (by rfl) _ _ _ (by rfl) w.heap.size 55 i0 (.agg fZ) 9 144 Tryz.underlying30 hi hz0 hz1 hz2 (by rfl) (by omega) (.slice A k c) k (aP ys) (by rfl) RH.out ⟨wr.heap.size+1,0,none⟩ 1 1 fZ.toList (by rfl) (by rfl) BB.out vU.out (by omega) hmx hby N7.out (wr.heap.size+2) dR.out ?_;intro g2 c2 w2 hown2 hgrow2 qE hlt2;have hbw:∀b,b<w.heap.size→w2.heap[b]? =wr.heap[b]? :=fun b hb=>(hgrow2.block b (Nat.lt_of_lt_of_eq (show b<wr.heap.size+2 by omega) dR.out.symm) (eG HO.out b hb)).trans (yF.out b (by omega));have HP2:Hid (w2.heap[pb]? =some (.cells (cs.setIfInBounds po (.slice A k c)) t (0,0))):=ae ((hbw pb hpl).trans lV.out.tgt);have hcp2:w2.cell? ⟨pb,po,none⟩=some (.slice A k c):=(cell_of_row w2 pb po _ _ _ HP2.out).trans (by simp [hpos]);have xw:=frozen_of_row w2 pb po _ _ HP2.out;have nR:=ae hbw;have mJ:=ae hown2;have HG2:=ae hgrow2;have HA2:=ae qE;clear hbw hown2 hgrow2 qE)
   all_goals
    have hs2:wr.heap.size+2≤w2.heap.size:=Nat.le_trans (Nat.le_of_eq dR.out.symm) HG2.out.size;have hkeep:∀b,b<wr.heap.size→some b≠(Value.slice A k c).ownBlock→w2.heap[b]? =wr.heap[b]? :=fun b hb hne=>(HG2.out.block b (Nat.lt_of_lt_of_eq (show b<wr.heap.size+2 by omega) dR.out.symm) hne).trans (yF.out b hb);have hlo2:=fM mJ.out;have hP3:bD w rb pb t (cs.setIfInBounds po (.slice (some ⟨g2,0,none⟩) (k+1) c2)) (w2.setCell ⟨pb,po,none⟩ (.slice (some ⟨g2,0,none⟩) (k+1) c2)):=by
     have h:bD w rb pb t (cs.setIfInBounds po (.slice A k c)) w2:=⟨HG2.out.os.trans lV.out.os,HG2.out.tape.trans lV.out.tape,HG2.out.output.trans lV.out.output,by omega,fun b hb h1 h2=>(nR.out b hb).trans (lV.out.block b hb h1 h2),HP2.out⟩;have h:=h.put po (.slice (some ⟨g2,0,none⟩) (k+1) c2)
     rwa [Array.setIfInBounds_setIfInBounds] at h
    have CP:fQ M (w2.setCell ⟨pb,po,none⟩ (.slice (some ⟨g2,0,none⟩) (k+1) c2)) rb (gq (zs.drop k)++R):=(HR.out.of (nR.out rb hrl) fun b hb=>nR.out b (by omega)).put mG hne _;have hO3:(w2.setCell ⟨pb,po,none⟩ (.slice (some ⟨g2,0,none⟩) (k+1) c2)).ownsRow w.heap.size 55 9 (.slice (some ⟨g2,0,none⟩) (k+1) c2) (k+1) (aP ys++fZ.toList):=dn (p:=⟨pb,po,none⟩) mJ.out (by intro e;injection e with e;simp only at e;omega);have hM3:∀y∈ys,zt y.s∧LX w.heap.size g2 (w2.setCell ⟨pb,po,none⟩ (.slice (some ⟨g2,0,none⟩) (k+1) c2)) y.s.A y.e.z.cal.aj:=by
     intro y hy;obtain ⟨h1,g,hA,b,off,b1,b2,b3,b4,b5⟩:=IY.out y hy;have hne1:some b≠(Value.slice A k c).ownBlock:=by
      rw [hA];intro e;injection e with e;exact b4 e
     refine ⟨h1,b,off,b1,b2,by simp [World.setCell];omega,?_,fun j hj=>?_⟩
     ·rcases HA2.out with h|h
      ·rw [hA] at h;injection h with h;intro e;exact b4 (e.trans h.symm)
      ·omega
     ·exact (World.cell?_of_block (a:=⟨b,off+j,none⟩) ((heap_setCell_other w2 _ b _ (by show b≠pb;omega)).trans (hkeep b b3 hne1))).trans (b5 j hj)
    have dV:=ae hP3;have HR3:=ae CP;have mV:=ae hO3;have HM3:=ae hM3;clear hkeep hP3 CP hO3 hM3 HP2 nR mJ HG2 HA2 hcp;go_wp2_with fail;obtain ⟨w3,hw3⟩:∃W,w2.setCell ⟨pb,po,none⟩ (.slice (some ⟨g2,0,none⟩) (k+1) c2)=W:=⟨_,rfl⟩;rw [hw3] at dV HR3 mV HM3 ⊢;obtain ⟨cur,q1,q2,q3,q4,q5,q6,q7,_⟩:=ji mV.out;have hcz:gq (zs.drop k)++R=oJ x++(gq (zs.drop (k+1))++R):=by
     have hd:zs.drop k=x::zs.drop (k+1):=by
      rw [List.drop_eq_getElem_cons hkz];have h:=HX.out;rw [dK hkz] at h;injection h with h;rw [h]
     rw [hd];simp [gq]
    have hr3:=HR3.out;rw [hcz] at hr3;have hzz:∀j,j<9→cur[k*9+j]? =fZ[j]? :=fun j hj=>by
     have h:(cur.toList.take ((k+1)*9))[k*9+j]? =(aP ys++fZ.toList)[k*9+j]? :=by rw [q6]
     rw [List.getElem?_take_of_lt (by omega),List.getElem?_append_right (by rw [dN,lW.out];omega),dN,lW.out,show k*9+j - k*9=j by omega] at h;simpa using h
    refine (Ht M w3 rb g2 (k*9) 55 cur x _ KO.out.1 KO.out.2 hr3 q1 hzz (by omega) (by omega)).mono ?_;rintro e w4 ⟨rfl,A4,a4,hr4,gW,CS⟩;have hO4:=XA mV.out q1 gW;rw [←lW.out,TD ys x KO.out.1 A4 a4,lW.out] at hO4;have FB:bD w rb pb t (cs.setIfInBounds po (.slice (some ⟨g2,0,none⟩) (k+1) c2)) w4:=⟨gW.os.trans dV.out.os,gW.tape.trans dV.out.tape,gW.output.trans dV.out.output,Nat.le_trans dV.out.size gW.size,fun b hb h1 h2=>(gW.block b (dS hb dV.out.size) (by omega) h2).trans (dV.out.block b hb h1 h2),(gW.block pb (dS hpl dV.out.size) (by omega) hne).trans dV.out.tgt⟩;have hs3:w3.heap.size=w2.heap.size:=by rw [←hw3];simp [World.setCell]
    have hM4:∀y∈ys++ [(⟨x,⟨A4,a4,none,0,none,0,none,0⟩⟩:dA)],zt y.s∧∃g,(some ⟨g2,0,none⟩:Option Addr)=some ⟨g,0,none⟩∧LX w.heap.size g w4 y.s.A y.e.z.cal.aj:=by
     intro y hy;rcases List.mem_append.1 hy with hy|hy
     ·obtain ⟨h1,b,off,b1,b2,b3,b4,b5⟩:=HM3.out y hy;exact ⟨h1,g2,rfl,b,off,b1,b2,dS b3 gW.size,b4,fun j hj=>(World.cell?_of_block (a:=⟨b,off+j,none⟩) (gW.block b b3 b4 (by omega))).trans (b5 j hj)⟩
     ·rw [List.mem_singleton.1 hy];obtain ⟨g4,cc4,e4,_⟩:=eU CS (by have:=KO.out.1.cal.mo.1;omega);injection e4 with e4 _ _;subst e4;exact ⟨⟨⟨rfl,rfl⟩,⟨rfl,rfl⟩,⟨rfl,rfl⟩⟩,g2,rfl,LX.fA CS (by omega) (by omega)⟩
    have HR4:=ae hr4;have pV:=ae FB;have uZ:=ae hO4;have Iq:=ae hM4;have HE4:Hid ((ys++ [(⟨x,⟨A4,a4,none,0,none,0,none,0⟩⟩:dA)]).map (·.e)=zs.take (k+1)):=ae (by rw [List.map_append,Oe.out,jJ zs k x HX.out];rfl);clear hr4 gW CS hO4 FB hM4 hr3 hcz q1 q2 q3 q4 q5 q6 q7 hw3 hcp2 xw hzz;go_wp2_with fail;go_roundw
    case rel=>exact ⟨k+1,some ⟨g2,0,none⟩,c2,_,by omega,by go_num,by rw [bF,lW.out];rfl,HE4.out,HR4.out,pV.out,uZ.out,Iq.out,fun h=>by omega⟩
    case measure=>simp [intOf];omega
  ·have hkn:k=n:=by omega
   have kY:=ae hkn;have hlt':¬(k:Int)<(n:Int):=by omega
   clear hkn hlt hcp;go_wp2_with fail
   go_end0
   refine ⟨rfl,A,c,ys,?_,?_,⟨?_,fun y hy=>?_,fun y hy=>(IY.out y hy).1,fun h=>?_⟩,?_⟩
   ·have h:=HR.out;rw [kY.out,List.drop_of_length_le (by rw [HN.out];exact Nat.le_refl _)] at h;exact h
   ·have h:=lV.out
    rwa [kY.out] at h
   ·have h:=HO.out;rw [kY.out] at h;rw [lW.out,kY.out];exact h
   ·obtain ⟨_,g,_,h⟩:=IY.out y hy;exact h.li
   ·obtain ⟨h1,h2⟩:=KX.out (lW.out.symm.trans h);have h0:n=0:=by have:=lW.out;have:=kY.out;omega
    rw [h1,h2,h0]
   ·rw [Oe.out,kY.out,List.take_of_length_le (by rw [HN.out];exact Nat.le_refl _)]
end Go.Proofs.YtdibbemgpikgjaaGreat
namespace Go.Proofs.YtdibbemgpikgjaaGreat
open Go Go.RowKit
attribute [local go_sem] dD dH dE dI ed eu dB dF dC dG
def bn:Tb:=⟨0,0,0,aS,aS,[]⟩
theorem fK:Tryz.zeroCells32=ai bn (.slice none 0 0):=by kernel_rfl
theorem rW (t:Tb) (v:Value) (n:Int):(ai t v).setIfInBounds 0 (I n)=ai {t with bC:=n} v:=by simp [ai,kV]
theorem qG (t:Tb) (v:Value) (n:Int):(ai t v).setIfInBounds 1 (I n)=ai {t with version:=n} v:=by simp [ai,kV]
theorem nZ (t:Tb) (v:Value) (n:Int):(ai t v).setIfInBounds 2 (I n)=ai {t with aH:=n} v:=by simp [ai,kV]
theorem wM (t:Tb) (v:Value) (xs:List UInt8) (h:t.prev.length=32) (hx:xs.length=32):putRow (ai t v) 4 (au xs)=ai {t with prev:=xs} v:=by
 unfold putRow splice ai kV;have h1:(au xs).length=32:=by simp [au,hx]
 have h2:(au t.prev).length=32:=by simp [au,h]
 rw [h1];simp [h2]
def TWhR (M:Nat) (w:World) (rb tb:Nat) (t:Tb) (n:Nat) (R:List UInt8) (e:Ending) (w':World):Prop:=
 e= .returned (.tuple #[])∧∃A c ys,fQ M w' rb R∧bD w rb tb 32 (ai {t with bJ:=aS} (.slice A n c)) w'∧gX w.heap.size w' (.slice A n c) ys∧ys.map (·.e)=t.aK
theorem Yd (M:Nat) (w:World) (rb tb n:Nat) (t:Tb) (R:List UInt8) (h:lF t) (hn:t.aK.length=n) (hr:fQ M w rb (fF t++R)) (hp:w.heap[tb]? =some (.cells (ai bn (.slice none 0 0)) 32 (0,0))) (hM:M≤tb) (hne:tb≠rb):
  Calls Tryz.prog 23 #[.iface 109 (pt rb), .pointer (some ⟨tb,0,none⟩)] w (TWhR M w rb tb t n R):=by
 have hel:tb<w.heap.size:=(bY.1 hp).1;have hrw:=hr.lt;have hz:∀(u:Tb) (v:Value),u.prev.length=32→u.bJ.length=32→(ai u v).size=68:=fun u v h1 h2=>aZ u v h1 h2;have hr':fQ M w.drew rb (le t.bC 1++(le t.version 1++(le t.aH 1++(t.prev++((le n 1++gq t.aK)++R))))):=by
  have h:=hr.drew;unfold fF at h;rw [hn] at h;simpa only [List.append_assoc] using h
 have q1:=h.bC;have q2:=h.version;have q3:=h.aH;have hn2:n≤128:=by have:=h.num;omega
 have jO:=ae (iY M w.drew rb tb 0 1 32 _ t.bC t.bC _ hr' (by omega) (iG _ (by omega) (by omega) _) hp (by rw [hz _ _ rfl rfl];decide) hM hne);have HF:=ae h;have HZ:=ae hz;have HN:=ae hn;clear h hr hr' hp hz hn;unfold TWhR;go_enter Tryz.func23,Tryz.ntmps23;go_wp2_with fail;go_still_tail 7,(by kernel_rfl);go_wp2_with fail;refine jO.out.mono ?_;rintro e w1 ⟨rfl,hr1,hp1⟩;rw [rW] at hp1;have lU:=ae hp1.bz;have HC2:=ae (iY M w1.drew rb tb 1 1 32 _ t.version t.version _ hr1.drew (by omega) (iG _ (by omega) (by omega) _) hp1.tgt (by rw [HZ.out _ _ rfl rfl];decide) hM hne);clear hr1 hp1 jO;go_wp2_with fail;go_still_tail 7,(by kernel_rfl);go_wp2_with fail;refine HC2.out.mono ?_;rintro e w2 ⟨rfl,hr2,hp2⟩;rw [qG] at hp2;have HP2:=ae (lU.out.trans hp2.bz);have qy:=ae (iY M w2.drew rb tb 2 1 32 _ t.aH t.aH _ hr2.drew (by omega) (iG _ (by omega) (by omega) _) hp2.tgt (by rw [HZ.out _ _ rfl rfl];decide) hM hne);clear hr2 hp2 HC2;go_wp2_with fail;go_still_tail 7,(by kernel_rfl);go_wp2_with fail;refine qy.out.mono ?_;rintro e w3 ⟨rfl,hr3,hp3⟩;rw [nZ] at hp3;have dV:=ae (HP2.out.trans hp3.bz);have qH:=ae (uD M w3.drew rb tb 4 32 _ t.prev _ hr3.drew HF.out.prev hp3.tgt (by rw [HZ.out _ _ rfl rfl];decide) hM hne);clear hr3 hp3 qy;go_wp2_with fail;go_still_tail 7,(by kernel_rfl);go_wp2_with fail;refine qH.out.mono ?_;rintro e w4 ⟨rfl,hr4,gW⟩;rw [wM _ _ _ rfl HF.out.prev] at gW;have pV:=ae (dV.out.trans gW.bz);have yt:=ae (U2 M w4 rb tb 3 n 32 _ t.aK R HN.out hn2 (fun x hx=>⟨HF.out.flat x hx,HF.out.short x hx⟩) hr4 gW.tgt (bK _ _) hM hne);clear hr4 gW qH;go_wp2_with fail;refine yt.out.mono ?_;rintro e w5 ⟨rfl,A,c,ys,tq,xA,Zg,he5⟩;rw [lM] at xA;have qJ:=ae tq;have EU:=ae (pV.out.trans xA);have sH:=ae (Zg.lower pV.out.size);have HE5:=ae he5;clear tq xA Zg he5 yt;go_wp2_with fail
 go_end0
 exact ⟨rfl,A,c,ys,qJ.out,EU.out,sH.out,HE5.out⟩
end Go.Proofs.YtdibbemgpikgjaaGreat
