/- The texts Nm, TbV, Oa, TbP, TbB, in this order. -/
import Derived.Test.YtdibbemgpikgjaaGreatDoorY00
import Derived.Test.YtdibbemgpikgjaaGreatDoorY02
import Derived.Test.YtdibbemgpikgjaaGreatDoorY03
import Derived.Test.YtdibbemgpikgjaaGreatDoorY04
import Derived.Test.YtdibbemgpikgjaaGreatDoorY05
import Derived.Test.YtdibbemgpikgjaaGreatDoorY21
set_option maxRecDepth 10000
set_option maxHeartbeats 8000000
namespace Go.Proofs.YtdibbemgpikgjaaGreatDoor
open Go Go.RowKit
theorem uB (z:Zn) (s:Zs) (w:World) (hm:uS z) (h:jG w w.heap.size s z) (hv:zM z=0):Calls Tryz.prog 43 #[.agg (ay z s)] w (Gives (I 0) w):=by
 have HO:Hid (∀w',Below w.heap.size w w'→Calls Tryz.prog 63 #[.agg (ay z s)] w' fun e w2=>(∃b:Nat,e= .returned (.tuple #[pt b, .bool true]))∧Below w'.heap.size w' w2):=ae fun w' hb=>NF z s w' hm (h.grow hb) hv;have HR0:=ae (Row.new w (ay z s) 67);have HB0:=ae (ag w (.cells (ay z s) 67));have hT:¬(512:Int)<(z.trans.length:Int):=by have:=hm.U7;omega
 obtain ⟨m,hmm⟩:∃m,z.trans.length=m:=⟨_,rfl⟩;rw [hmm] at hT;have e0:ay z s= #[I z.cal.aX, .slice s.A z.cal.az.length s.a,I z.cal.dM, .slice s.B z.cal.rules.length s.b,I z.start, .slice s.C m s.c,I z.hor, .slice s.D z.aN.length s.d]:=by unfold ay;rw [hmm]
 rw [e0] at HO HR0 HB0 ⊢;clear h e0 hm hmm hv;go_enter Tryz.func43,Tryz.ntmps43;go_wp2_with fail;refine (HO.out _ HB0.out).mono ?_;rintro e w1 ⟨⟨b,rfl⟩,hb1⟩;have HB1:=ae (ah HB0.out hb1);clear hb1;go_wp2_with fail;go_ret;exact ⟨rfl,HB1.out⟩
structure TV (w:World) (cs:Array Value) (A:Option Addr) (zs:List dB) (W:World):Prop where
 row:Row W w.heap.size cs
 mem:Ew W w.heap.size A zs
 up:Below w.heap.size w W
theorem TV.below {w W W':World} {cs:Array Value} {A:Option Addr} {zs:List dB} (h:TV w cs A zs W) (hb:Below W.heap.size W W'):TV w cs A zs W':=
 ⟨h.row.keep hb,h.mem.keep (hb.mono h.up.size),ah h.up hb⟩
def fK (zs:List dB):Nat→ByteArray
 |0=>⟨#[]⟩
 |k+1=>(zs[k]?.map (·.e.name)).getD ⟨#[]⟩
theorem o9 (w:World) (r:List UInt8) (h:r.length=32):(Op.equalIn 10000 23 (.agg (r.map Extern.Stop.cell).toArray) (.agg (r.map Extern.Stop.cell).toArray)).run Tryz.prog w= .ok true w:=by
 rw [run_equalIn_bytes w 9998 23 5 32 Tryz.underlying23 Tryz.underlying5 (fun w=>Aq w) r r h h,beq_self_eq_true]
def jv (zs:List dB):Prop:=∀k x,zs[k]? =some x→Op.bytesLess x.e.name.toList (fK zs k).toList=false∧(x.e.name.toList==(fK zs k).toList)=false
attribute [local go_sem] jy jA jQ bD
theorem zN (t:Tb) (A:Option Addr) (n c:Nat) (zs:List dB) (w:World) (h:kJ t) (hz:t.aK=zs.map (·.e)) (hn:zs.length=n) (hA:Ew w w.heap.size A zs) (hup:jv zs):
  Calls Tryz.prog 26 #[.agg (ai t (.slice A n c))] w (Gives (I 0) w):=by
 have HR0:=ae (Row.new w (ai t (.slice A n c)) 37);have HB0:=ae (ag w (.cells (ai t (.slice A n c)) 37));have k0:=HR0.out.2;have q1:=h.aP.1;have q2:=h.aP.2;have q3:=h.version.1;have q4:=h.version.2;have q5:=h.aC.1;have q6:=h.aC.2;have q7:¬(128:Int)<(n:Int):=by
  have:=h.num;rw [hz,List.length_map,hn] at this;omega
 have HF:=ae h;have HZ:=ae hz;have Ku:Hid (TV w (ai t (.slice A n c)) A zs (w.alloc (.cells (ai t (.slice A n c)) 37))):=ae ⟨HR0.out,hA.keep HB0.out,HB0.out⟩;have Dv:=ae hn;have NT:=ae hup;clear h hz hA hn HR0 HB0 hup;by_cases hv:t.version=1
 ·have hpz:t.prev=aU:=HF.out.first hv;have hneq:∀W,(binOp .neq 23 (.agg (aj t.prev).toArray) (.agg (aj aU).toArray)).run Tryz.prog W= .ok (.bool false) W:=fun W=>by
   rw [hpz];unfold aj;rw [run_neq_struct,Go.Proofs.YtdibbemgpikgjaaGreatDoor.o9 W aU rfl];simp [Result.andThen]
  have h32:(Tryz.prog.info? 23).map (·.size)=some (aj t.prev).length:=by rw [show (aj t.prev).length=32 by simp [aj,HF.out.prev]];kernel_rfl
  have HP:=ae (mY t (.slice A n c) Ku.out.row);have QE:=ae h32;clear hpz h32;rw [oG] at hneq;go_enter Tryz.func26,Tryz.ntmps26;go_wp2_with (with_reducible refine dN 23 ?_;refine bP rfl _ _ rfl w.heap.size 4 rfl (aj t.prev) HP.out _ Tryz.underlying23 rfl QE.out ?_);clear hneq
  go_loopw [3,56] (fun l i wr=>∃k:Nat,k≤n∧l= .string (fK zs k)∧i=I k∧TV w (ai t (.slice A n c)) A zs wr) (fun _ i _=>n - (intOf i).toNat)
  case atStart=>exact ⟨0,Nat.zero_le _,rfl,rfl,Ku.out⟩
  case round=>
   obtain ⟨k,hk,rfl,rfl,zK⟩:=hrel;have HV:=ae zK;have k1:=zK.row.2;have hlt1:=zK.row.1;clear zK Ku k0;by_cases hlt:k<n
   ·have hkz:k<zs.length:=by rw [Dv.out];exact hlt
    obtain ⟨x,hx⟩:∃x,zs[k]? =some x:=⟨_,bZ hkz⟩;obtain ⟨b,rfl,hbl,hr,hi⟩:∃b,A=some ⟨b,0,none⟩∧b<w.heap.size∧wr.rangeAt b (k*9) x.cells.toList∧fJ wr w.heap.size x.s.A x.e.z.cal.az:=by
     rcases HV.out.mem with h|⟨b,h1,h2,h3⟩
     ·omega
     ·exact ⟨b,h1,h2,h3 k x hx⟩
    have i0:(0:Int)≤(k:Int):=by omega
    have i1:(k:Int)<(n:Int):=by omega
    have c0:wr.cell? ⟨b,k*9,none⟩=some (.string x.e.name):=hr 0 _ rfl;have c1:wr.cell? ⟨b,k*9+1,none⟩=some (I x.e.z.cal.aX):=hr 1 _ rfl;have c2:wr.cell? ⟨b,k*9+2,none⟩=some (.slice x.s.A x.e.z.cal.az.length x.s.a):=hr 2 _ rfl;have c3:wr.cell? ⟨b,k*9+3,none⟩=some (I x.e.z.cal.dM):=hr 3 _ rfl;have c4:wr.cell? ⟨b,k*9+4,none⟩=some (.slice x.s.B x.e.z.cal.rules.length x.s.b):=hr 4 _ rfl;have c5:wr.cell? ⟨b,k*9+5,none⟩=some (I x.e.z.start):=hr 5 _ rfl;have c6:wr.cell? ⟨b,k*9+6,none⟩=some (.slice x.s.C x.e.z.trans.length x.s.c):=hr 6 _ rfl;have c7:wr.cell? ⟨b,k*9+7,none⟩=some (I x.e.z.hor):=hr 7 _ rfl;have c8:wr.cell? ⟨b,k*9+8,none⟩=some (.slice x.s.D x.e.z.aN.length x.s.d):=hr 8 _ rfl;have HX:=ae hx;have HI:=ae hi;have hxm:x.e∈t.aK:=by rw [HZ.out];exact List.mem_map_of_mem (dS hx)
    have Em:=ae (HF.out.flat _ hxm);have q8:¬(32:Int)<(x.e.name.size:Int):=by have:=HF.out.short _ hxm;omega
    obtain ⟨s1,s2⟩:=NT.out k x hx;obtain ⟨L,hL⟩:∃L,fK zs k=L:=⟨_,rfl⟩;have KI:Hid (∀w',Below wr.heap.size wr w'→Calls Tryz.prog 43 #[.agg #[I x.e.z.cal.aX, .slice x.s.A x.e.z.cal.az.length x.s.a,I x.e.z.cal.dM, .slice x.s.B x.e.z.cal.rules.length x.s.b,I x.e.z.start, .slice x.s.C x.e.z.trans.length x.s.c,I x.e.z.hor, .slice x.s.D x.e.z.aN.length x.s.d]] w' (Gives (I 0) w')):=ae fun w' hb=>
     uA x.e.z x.s w' Em.out (((HI.out.more HV.out.up.size).keep hb).more hb.size)
    rw [hL] at s1 s2 ⊢;have hlb:b<wr.heap.size:=by omega
    have HB2:=ae (ag wr (.cells x.cells 90));have NM:Hid (fK zs (k+1)=x.e.name):=ae (by show (zs[k]?.map (·.e.name)).getD ⟨#[]⟩=_;rw [hx];rfl);clear hx hr hi hxm hkz hL;go_wp2_with fail;refine (KI.out _ HB2.out).mono ?_;rintro e w2 ⟨rfl,hb2⟩;have nJ:=ae (HV.out.below (ah HB2.out hb2));have d0:w2.cell? ⟨wr.heap.size,0,none⟩=some (.string x.e.name):=((Row.new wr x.cells 90).keep hb2).2 0;clear hb2 c0 c1 c2 c3 c4 c5 c6 c7 c8 k1 KI;go_wp2_with fail;go_roundw
    case rel=>exact ⟨k+1,by omega,by rw [NM.out],by go_num,nJ.out⟩
    case measure=>simp [intOf];omega
   ·go_wp2_with fail;go_ret;exact ⟨rfl,HV.out.up⟩
 ·go_enter Tryz.func26,Tryz.ntmps26;go_wp2_with fail
  go_loopw [3,56] (fun l i wr=>∃k:Nat,k≤n∧l= .string (fK zs k)∧i=I k∧TV w (ai t (.slice A n c)) A zs wr) (fun _ i _=>n - (intOf i).toNat)
  case atStart=>exact ⟨0,Nat.zero_le _,rfl,rfl,Ku.out⟩
  case round=>
   obtain ⟨k,hk,rfl,rfl,zK⟩:=hrel;have HV:=ae zK;have k1:=zK.row.2;have hlt1:=zK.row.1;clear zK Ku k0;by_cases hlt:k<n
   ·have hkz:k<zs.length:=by rw [Dv.out];exact hlt
    obtain ⟨x,hx⟩:∃x,zs[k]? =some x:=⟨_,bZ hkz⟩;obtain ⟨b,rfl,hbl,hr,hi⟩:∃b,A=some ⟨b,0,none⟩∧b<w.heap.size∧wr.rangeAt b (k*9) x.cells.toList∧fJ wr w.heap.size x.s.A x.e.z.cal.az:=by
     rcases HV.out.mem with h|⟨b,h1,h2,h3⟩
     ·omega
     ·exact ⟨b,h1,h2,h3 k x hx⟩
    have i0:(0:Int)≤(k:Int):=by omega
    have i1:(k:Int)<(n:Int):=by omega
    have c0:wr.cell? ⟨b,k*9,none⟩=some (.string x.e.name):=hr 0 _ rfl;have c1:wr.cell? ⟨b,k*9+1,none⟩=some (I x.e.z.cal.aX):=hr 1 _ rfl;have c2:wr.cell? ⟨b,k*9+2,none⟩=some (.slice x.s.A x.e.z.cal.az.length x.s.a):=hr 2 _ rfl;have c3:wr.cell? ⟨b,k*9+3,none⟩=some (I x.e.z.cal.dM):=hr 3 _ rfl;have c4:wr.cell? ⟨b,k*9+4,none⟩=some (.slice x.s.B x.e.z.cal.rules.length x.s.b):=hr 4 _ rfl;have c5:wr.cell? ⟨b,k*9+5,none⟩=some (I x.e.z.start):=hr 5 _ rfl;have c6:wr.cell? ⟨b,k*9+6,none⟩=some (.slice x.s.C x.e.z.trans.length x.s.c):=hr 6 _ rfl;have c7:wr.cell? ⟨b,k*9+7,none⟩=some (I x.e.z.hor):=hr 7 _ rfl;have c8:wr.cell? ⟨b,k*9+8,none⟩=some (.slice x.s.D x.e.z.aN.length x.s.d):=hr 8 _ rfl;have HX:=ae hx;have HI:=ae hi;have hxm:x.e∈t.aK:=by rw [HZ.out];exact List.mem_map_of_mem (dS hx)
    have Em:=ae (HF.out.flat _ hxm);have q8:¬(32:Int)<(x.e.name.size:Int):=by have:=HF.out.short _ hxm;omega
    obtain ⟨s1,s2⟩:=NT.out k x hx;obtain ⟨L,hL⟩:∃L,fK zs k=L:=⟨_,rfl⟩;have KI:Hid (∀w',Below wr.heap.size wr w'→Calls Tryz.prog 43 #[.agg #[I x.e.z.cal.aX, .slice x.s.A x.e.z.cal.az.length x.s.a,I x.e.z.cal.dM, .slice x.s.B x.e.z.cal.rules.length x.s.b,I x.e.z.start, .slice x.s.C x.e.z.trans.length x.s.c,I x.e.z.hor, .slice x.s.D x.e.z.aN.length x.s.d]] w' (Gives (I 0) w')):=ae fun w' hb=>
     uA x.e.z x.s w' Em.out (((HI.out.more HV.out.up.size).keep hb).more hb.size)
    rw [hL] at s1 s2 ⊢;have hlb:b<wr.heap.size:=by omega
    have HB2:=ae (ag wr (.cells x.cells 90));have NM:Hid (fK zs (k+1)=x.e.name):=ae (by show (zs[k]?.map (·.e.name)).getD ⟨#[]⟩=_;rw [hx];rfl);clear hx hr hi hxm hkz hL;go_wp2_with fail;refine (KI.out _ HB2.out).mono ?_;rintro e w2 ⟨rfl,hb2⟩;have nJ:=ae (HV.out.below (ah HB2.out hb2));have d0:w2.cell? ⟨wr.heap.size,0,none⟩=some (.string x.e.name):=((Row.new wr x.cells 90).keep hb2).2 0;clear hb2 c0 c1 c2 c3 c4 c5 c6 c7 c8 k1 KI;go_wp2_with fail;go_roundw
    case rel=>exact ⟨k+1,by omega,by rw [NM.out],by go_num,nJ.out⟩
    case measure=>simp [intOf];omega
   ·go_wp2_with fail;go_ret;exact ⟨rfl,HV.out.up⟩
end Go.Proofs.YtdibbemgpikgjaaGreatDoor
namespace Go.Proofs.YtdibbemgpikgjaaGreatDoor
open Go Go.RowKit
structure VH (t:Tb):Prop where
 aP:0≤t.aP∧t.aP<16
 version:1≤t.version∧t.version≤64
 aC:0≤t.aC∧t.aC<t.version
 prev:t.prev.length=32
 bn:t.bn.length=32
 first:t.version=1→t.prev=aU
 num:t.aK.length≤128
 good:∀e∈t.aK,uS e.z∧zM e.z=0
 short:∀e∈t.aK,e.name.size≤32
theorem lW.at {w:World} {B:Nat} {A:Option Addr} {zs:List dB} {k:Nat} {x:dB} (h:lW w B A zs) (hx:zs[k]? =some x):∃b off,A=some ⟨b,off,none⟩∧b<B∧w.rangeAt b (off+k*9) x.cells.toList:=by
 have hk:=(eG.1 hx).1;obtain ⟨b,off,e,hb,hc⟩:=h.row.there (by rw [dL];omega);exact ⟨b,off,e,hb,aA.elem (s:=9) (f:=fun x:dB=>x.cells.toList) (fun _ _=>rfl) hc k x hx⟩
structure TG (w:World) (cs:Array Value) (A:Option Addr) (zs:List dB) (W:World):Prop where
 row:Row W w.heap.size cs
 mem:lW W w.heap.size A zs
 up:Below w.heap.size w W
theorem TG.below {w W W':World} {cs:Array Value} {A:Option Addr} {zs:List dB} (h:TG w cs A zs W) (hb:Below W.heap.size W W'):TG w cs A zs W':=
 ⟨h.row.keep hb,h.mem.keep (hb.mono h.up.size),ah h.up hb⟩
attribute [local go_sem] jy jA jQ bD
theorem zO (t:Tb) (A:Option Addr) (n c:Nat) (zs:List dB) (w:World) (h:VH t) (hz:t.aK=zs.map (·.e)) (hn:zs.length=n) (hA:lW w w.heap.size A zs) (hup:jv zs):
  Calls Tryz.prog 26 #[.agg (ai t (.slice A n c))] w (Gives (I 0) w):=by
 have HR0:=ae (Row.new w (ai t (.slice A n c)) 37);have HB0:=ae (ag w (.cells (ai t (.slice A n c)) 37));have k0:=HR0.out.2;have q1:=h.aP.1;have q2:=h.aP.2;have q3:=h.version.1;have q4:=h.version.2;have q5:=h.aC.1;have q6:=h.aC.2;have q7:¬(128:Int)<(n:Int):=by
  have:=h.num;rw [hz,List.length_map,hn] at this;omega
 have HF:=ae h;have HZ:=ae hz;have Ku:Hid (TG w (ai t (.slice A n c)) A zs (w.alloc (.cells (ai t (.slice A n c)) 37))):=ae ⟨HR0.out,hA.keep HB0.out,HB0.out⟩;have Dv:=ae hn;have NT:=ae hup;clear h hz hA hn HR0 HB0 hup;by_cases hv:t.version=1
 ·have hpz:t.prev=aU:=HF.out.first hv;have hneq:∀W,(binOp .neq 23 (.agg (aj t.prev).toArray) (.agg (aj aU).toArray)).run Tryz.prog W= .ok (.bool false) W:=fun W=>by
   rw [hpz];unfold aj;rw [run_neq_struct,Go.Proofs.YtdibbemgpikgjaaGreatDoor.o9 W aU rfl];simp [Result.andThen]
  have h32:(Tryz.prog.info? 23).map (·.size)=some (aj t.prev).length:=by rw [show (aj t.prev).length=32 by simp [aj,HF.out.prev]];kernel_rfl
  have HP:=ae (mY t (.slice A n c) Ku.out.row);have QE:=ae h32;clear hpz h32;rw [oG] at hneq;go_enter Tryz.func26,Tryz.ntmps26;go_wp2_with (with_reducible refine dN 23 ?_;refine bP rfl _ _ rfl w.heap.size 4 rfl (aj t.prev) HP.out _ Tryz.underlying23 rfl QE.out ?_);clear hneq
  go_loopw [3,56] (fun l i wr=>∃k:Nat,k≤n∧l= .string (fK zs k)∧i=I k∧TG w (ai t (.slice A n c)) A zs wr) (fun _ i _=>n - (intOf i).toNat)
  case atStart=>exact ⟨0,Nat.zero_le _,rfl,rfl,Ku.out⟩
  case round=>
   obtain ⟨k,hk,rfl,rfl,zK⟩:=hrel;have HV:=ae zK;have k1:=zK.row.2;have hlt1:=zK.row.1;clear zK Ku k0;by_cases hlt:k<n
   ·have hkz:k<zs.length:=by rw [Dv.out];exact hlt
    obtain ⟨x,hx⟩:∃x,zs[k]? =some x:=⟨_,bZ hkz⟩;obtain ⟨b,off,rfl,hbl,hr⟩:=lW.at HV.out.mem hx;have hi:=HV.out.mem.each x (dS hx);have i0:(0:Int)≤(k:Int):=by omega
    have i1:(k:Int)<(n:Int):=by omega
    have c0:wr.cell? ⟨b,off+k*9,none⟩=some (.string x.e.name):=hr 0 _ rfl;have c1:wr.cell? ⟨b,off+k*9+1,none⟩=some (I x.e.z.cal.aX):=hr 1 _ rfl;have c2:wr.cell? ⟨b,off+k*9+2,none⟩=some (.slice x.s.A x.e.z.cal.az.length x.s.a):=hr 2 _ rfl;have c3:wr.cell? ⟨b,off+k*9+3,none⟩=some (I x.e.z.cal.dM):=hr 3 _ rfl;have c4:wr.cell? ⟨b,off+k*9+4,none⟩=some (.slice x.s.B x.e.z.cal.rules.length x.s.b):=hr 4 _ rfl;have c5:wr.cell? ⟨b,off+k*9+5,none⟩=some (I x.e.z.start):=hr 5 _ rfl;have c6:wr.cell? ⟨b,off+k*9+6,none⟩=some (.slice x.s.C x.e.z.trans.length x.s.c):=hr 6 _ rfl;have c7:wr.cell? ⟨b,off+k*9+7,none⟩=some (I x.e.z.hor):=hr 7 _ rfl;have c8:wr.cell? ⟨b,off+k*9+8,none⟩=some (.slice x.s.D x.e.z.aN.length x.s.d):=hr 8 _ rfl;have HX:=ae hx;have HI:=ae hi;have hxm:x.e∈t.aK:=by rw [HZ.out];exact List.mem_map_of_mem (dS hx)
    have Em:=ae (HF.out.good _ hxm);have q8:¬(32:Int)<(x.e.name.size:Int):=by have:=HF.out.short _ hxm;omega
    obtain ⟨s1,s2⟩:=NT.out k x hx;obtain ⟨L,hL⟩:∃L,fK zs k=L:=⟨_,rfl⟩;have KI:Hid (∀w',Below wr.heap.size wr w'→Calls Tryz.prog 43 #[.agg #[I x.e.z.cal.aX, .slice x.s.A x.e.z.cal.az.length x.s.a,I x.e.z.cal.dM, .slice x.s.B x.e.z.cal.rules.length x.s.b,I x.e.z.start, .slice x.s.C x.e.z.trans.length x.s.c,I x.e.z.hor, .slice x.s.D x.e.z.aN.length x.s.d]] w' (Gives (I 0) w')):=ae fun w' hb=>
     uB x.e.z x.s w' Em.out.1 (((HI.out.more HV.out.up.size).keep hb).more hb.size) Em.out.2
    rw [hL] at s1 s2 ⊢;have hlb:b<wr.heap.size:=by omega
    have HB2:=ae (ag wr (.cells x.cells 90));have NM:Hid (fK zs (k+1)=x.e.name):=ae (by show (zs[k]?.map (·.e.name)).getD ⟨#[]⟩=_;rw [hx];rfl);clear hx hr hi hxm hkz hL;go_wp2_with fail;refine (KI.out _ HB2.out).mono ?_;rintro e w2 ⟨rfl,hb2⟩;have nJ:=ae (HV.out.below (ah HB2.out hb2));have d0:w2.cell? ⟨wr.heap.size,0,none⟩=some (.string x.e.name):=((Row.new wr x.cells 90).keep hb2).2 0;clear hb2 c0 c1 c2 c3 c4 c5 c6 c7 c8 k1 KI;go_wp2_with fail;go_roundw
    case rel=>exact ⟨k+1,by omega,by rw [NM.out],by go_num,nJ.out⟩
    case measure=>simp [intOf];omega
   ·go_wp2_with fail;go_ret;exact ⟨rfl,HV.out.up⟩
 ·go_enter Tryz.func26,Tryz.ntmps26;go_wp2_with fail
  go_loopw [3,56] (fun l i wr=>∃k:Nat,k≤n∧l= .string (fK zs k)∧i=I k∧TG w (ai t (.slice A n c)) A zs wr) (fun _ i _=>n - (intOf i).toNat)
  case atStart=>exact ⟨0,Nat.zero_le _,rfl,rfl,Ku.out⟩
  case round=>
   obtain ⟨k,hk,rfl,rfl,zK⟩:=hrel;have HV:=ae zK;have k1:=zK.row.2;have hlt1:=zK.row.1;clear zK Ku k0;by_cases hlt:k<n
   ·have hkz:k<zs.length:=by rw [Dv.out];exact hlt
    obtain ⟨x,hx⟩:∃x,zs[k]? =some x:=⟨_,bZ hkz⟩;obtain ⟨b,off,rfl,hbl,hr⟩:=lW.at HV.out.mem hx;have hi:=HV.out.mem.each x (dS hx);have i0:(0:Int)≤(k:Int):=by omega
    have i1:(k:Int)<(n:Int):=by omega
    have c0:wr.cell? ⟨b,off+k*9,none⟩=some (.string x.e.name):=hr 0 _ rfl;have c1:wr.cell? ⟨b,off+k*9+1,none⟩=some (I x.e.z.cal.aX):=hr 1 _ rfl;have c2:wr.cell? ⟨b,off+k*9+2,none⟩=some (.slice x.s.A x.e.z.cal.az.length x.s.a):=hr 2 _ rfl;have c3:wr.cell? ⟨b,off+k*9+3,none⟩=some (I x.e.z.cal.dM):=hr 3 _ rfl;have c4:wr.cell? ⟨b,off+k*9+4,none⟩=some (.slice x.s.B x.e.z.cal.rules.length x.s.b):=hr 4 _ rfl;have c5:wr.cell? ⟨b,off+k*9+5,none⟩=some (I x.e.z.start):=hr 5 _ rfl;have c6:wr.cell? ⟨b,off+k*9+6,none⟩=some (.slice x.s.C x.e.z.trans.length x.s.c):=hr 6 _ rfl;have c7:wr.cell? ⟨b,off+k*9+7,none⟩=some (I x.e.z.hor):=hr 7 _ rfl;have c8:wr.cell? ⟨b,off+k*9+8,none⟩=some (.slice x.s.D x.e.z.aN.length x.s.d):=hr 8 _ rfl;have HX:=ae hx;have HI:=ae hi;have hxm:x.e∈t.aK:=by rw [HZ.out];exact List.mem_map_of_mem (dS hx)
    have Em:=ae (HF.out.good _ hxm);have q8:¬(32:Int)<(x.e.name.size:Int):=by have:=HF.out.short _ hxm;omega
    obtain ⟨s1,s2⟩:=NT.out k x hx;obtain ⟨L,hL⟩:∃L,fK zs k=L:=⟨_,rfl⟩;have KI:Hid (∀w',Below wr.heap.size wr w'→Calls Tryz.prog 43 #[.agg #[I x.e.z.cal.aX, .slice x.s.A x.e.z.cal.az.length x.s.a,I x.e.z.cal.dM, .slice x.s.B x.e.z.cal.rules.length x.s.b,I x.e.z.start, .slice x.s.C x.e.z.trans.length x.s.c,I x.e.z.hor, .slice x.s.D x.e.z.aN.length x.s.d]] w' (Gives (I 0) w')):=ae fun w' hb=>
     uB x.e.z x.s w' Em.out.1 (((HI.out.more HV.out.up.size).keep hb).more hb.size) Em.out.2
    rw [hL] at s1 s2 ⊢;have hlb:b<wr.heap.size:=by omega
    have HB2:=ae (ag wr (.cells x.cells 90));have NM:Hid (fK zs (k+1)=x.e.name):=ae (by show (zs[k]?.map (·.e.name)).getD ⟨#[]⟩=_;rw [hx];rfl);clear hx hr hi hxm hkz hL;go_wp2_with fail;refine (KI.out _ HB2.out).mono ?_;rintro e w2 ⟨rfl,hb2⟩;have nJ:=ae (HV.out.below (ah HB2.out hb2));have d0:w2.cell? ⟨wr.heap.size,0,none⟩=some (.string x.e.name):=((Row.new wr x.cells 90).keep hb2).2 0;clear hb2 c0 c1 c2 c3 c4 c5 c6 c7 c8 k1 KI;go_wp2_with fail;go_roundw
    case rel=>exact ⟨k+1,by omega,by rw [NM.out],by go_num,nJ.out⟩
    case measure=>simp [intOf];omega
   ·go_wp2_with fail;go_ret;exact ⟨rfl,HV.out.up⟩
end Go.Proofs.YtdibbemgpikgjaaGreatDoor
namespace Go.Proofs.YtdibbemgpikgjaaGreatDoor
open Go Go.RowKit
attribute [local go_sem] mF mO mG mP qN qO mr mJ mD mM
theorem La (t:Tb) (A:Option Addr) (c lo:Nat) (zs:List dB) (w:World) (hz:∀x∈zs,gU x.e.z) (hn1:zs.length≤128) (h32:t.prev.length=32) (hm:t.bn.length=32) (hO:gJ lo w (.slice A zs.length c) zs):
  Calls Tryz.prog 29 #[.agg (ai t (.slice A zs.length c))] w (ClT w t zs):=by
 rcases hO.form with ⟨h1,h2⟩|⟨h1,g,c',h2,h3,h4⟩
 ·subst h1;rw [h2];exact IJ t h32 hm w
 ·injection h2 with e1 e2 e3;subst e1 e3;exact IK t g c zs.length zs w (fun x hx=>⟨hz x hx,hO.nils x hx⟩) rfl h1 hn1 h32 hm (fun j u hu=>oW hO.row j u hu) h4 (fun x hx=>(hO.az x hx).ints)
def fZ (zs:List Ze):List UInt8:=zs.flatMap oD
theorem G7 (zs:List Ze) (x:Ze):fZ (zs++ [x])=fZ zs++oD x:=by simp [fZ]
theorem zB (zs:List Ze) (h:∀e∈zs,gU e.z∧e.name.size≤32):(fZ zs).length≤zs.length*69:=by
 induction zs with
 |nil=>exact Nat.zero_le _
 |cons x zs ih=>
  have h1:=ih fun e he=>h e (List.mem_cons_of_mem _ he);have h2:=Dp x (h x List.mem_cons_self).1 (h x List.mem_cons_self).2;unfold fZ at h1 ⊢;rw [List.flatMap_cons,aZ,List.length_cons];omega
def WzRel (w:World) (g:Nat) (v:Value) (bs:List UInt8) (n:Nat) (zs:List Ze) (i:Value) (wr:World):Prop:=
 ∃k:Nat,k≤n∧i= .int .i64 k∧∃v',fA wr g v' (bs++(le n 1++fZ (zs.take k)))∧gX g v w v' wr
theorem xK (w:World) (g lb lo:Nat) (A:Option Addr) (c:Nat) (v:Value) (bs:List UInt8) (hp:w.cell? ⟨lb,lo,none⟩=some (.slice A 0 c)) (hl:bs.length≤100000000) (hst:fA w g v bs):
  Calls Tryz.prog 48 #[.iface 77 (pt g), .pointer (some ⟨lb,lo,none⟩),I 1, .func (.func 49) #[] #[]] w (fE w g v (bs++le 0 1)):=by
 have HC:=ae (fP w.drew g v bs 0 1 (by omega) (by omega) (by omega) (by omega) hst.drew);clear hst;go_enter Tryz.func48,Tryz.ntmps48;go_wp2_with fail;go_still_tail 9,(by kernel_rfl);go_wp2_with fail;refine HC.out.mono ?_;rintro e w1 ⟨rfl,v1,hs1,hk1⟩;have iq:=ae hs1;have iF:=ae (aI hk1);clear hs1 hk1 HC hp;go_wp2_with fail
 go_loop [22] (fun i=>i= .int .i64 0) (fun _=>0)
 case atStart=>rfl
 case round=>
  subst hrel;go_wp2_with fail
  go_end0
  exact ⟨rfl,v1,iq.out,iF.out⟩
theorem GX (w:World) (g lb lo zg n c:Nat) (zs:List dB) (v:Value) (bs:List UInt8) (hn:zs.length=n) (hn2:n≤128) (hp:w.cell? ⟨lb,lo,none⟩=some (.slice (some ⟨zg,0,none⟩) n c)) (Lu:lb<g) (hzg:zg<g)
  (hcl:∀j u,(aO zs)[j]? =some u→w.cell? ⟨zg,j,none⟩=some u) (hfz:∀j,w.frozen? ⟨zg,j,none⟩=false) (hfl:∀x∈zs,gU x.e.z∧x.e.name.size≤32) (hI:∀x∈zs,fJ w g x.s.A x.e.z.cal.az)
  (hl:bs.length≤1000000) (hst:fA w g v bs):
  Calls Tryz.prog 48 #[.iface 77 (pt g), .pointer (some ⟨lb,lo,none⟩),I 1, .func (.func 49) #[] #[]] w (fE w g v (bs++(le n 1++fZ (zs.map (·.e))))):=by
 have HC:=ae (fP w.drew g v bs n 1 (by omega) (by omega) (by omega) (by omega) hst.drew);have HST:=ae hst;have HN:=ae hn;have HF:=ae hfl;have gu:=ae hcl;have HFZ:=ae hfz;have HI:=ae hI;have HP:=ae hp;have hgl:=hst.lt;clear hst hn hfl hcl hfz hI;go_enter Tryz.func48,Tryz.ntmps48;go_wp2_with fail;go_still_tail 9,(by kernel_rfl);go_wp2_with fail;refine HC.out.mono ?_;rintro e w1 ⟨rfl,v1,hs1,hk1⟩;have iq:=ae hs1;have iF:=ae (aI hk1);clear hs1 hk1 HC hp;go_wp2_with fail
 go_loopw [22] (fun i wr=>WzRel w g v bs n (zs.map (·.e)) i wr) (fun i _=>n - (intOf i).toNat)
 case atStart=>exact ⟨0,Nat.zero_le _,rfl,v1,by simpa [fZ] using iq.out,iF.out⟩
 case round=>
  obtain ⟨k,hk,rfl,v2,hs2,hk2⟩:=hrel;have hb2:=bu HST.out hk2;have HB2:=ae hb2;have HS2:=ae hs2;have iO:=ae hk2;have hp2:wr.cell? ⟨lb,lo,none⟩=some (.slice (some ⟨zg,0,none⟩) n c):=(hb2.cell (p:=⟨lb,lo,none⟩) Lu).trans HP.out;clear hs2 hk2 hb2 iq iF;by_cases hlt:k<n
  ·have hkz:k<zs.length:=by rw [HN.out];exact hlt
   obtain ⟨x,hx⟩:∃x,zs[k]? =some x:=⟨_,bZ hkz⟩;have hxm:=dS hx;have hlen:(bs++(le (n:Int) 1++fZ ((zs.map (·.e)).take k))).length≤9000000:=by
    have h1:=zB ((zs.map (·.e)).take k) fun e he=>by
     obtain ⟨y,hy,rfl⟩:=List.mem_map.1 (List.mem_of_mem_take he);exact HF.out y hy
    have h2:((zs.map (·.e)).take k).length≤128:=by rw [List.length_take,List.length_map,HN.out];omega
    simp only [aZ,aF];omega
   have HM:=ae (JE wr g zg (k*9) x v2 _ (HF.out x hxm).1 (HF.out x hxm).2 (fun j u hu=>(HB2.out.cell (p:=⟨zg,k*9+j,none⟩) hzg).trans (gu.out _ _ (by
    have hj:j<9:=(eG.1 hu).1;rw [lq zs k j x hx hj];simpa using hu))) ((HB2.out.frozen (p:=⟨zg,k*9+1+2,none⟩) hzg).trans (HFZ.out _)) hzg ((HI.out x hxm).keep HB2.out) hlen HS2.out)
   have HX:=ae hx;have i0:(0:Int)≤(k:Int):=by omega
   have i1:(k:Int)<(n:Int):=by omega
   have i2:((k:Int)==(n:Int))=false:=by simp;omega
   clear hkz hx hlen hxm;go_wp2_with fail;refine HM.out.mono ?_;rintro e w3 ⟨rfl,v3,hs3,hk3⟩;have jU:=ae hs3;have mV:=ae (iO.out.trans hk3);clear hs3 hk3 hp2;go_wp2_with fail;go_roundw
   case rel=>exact ⟨k+1,by omega,by go_num,v3,by rw [lh (zs.map (·.e)) k x.e (by rw [List.getElem?_map,HX.out];rfl),G7,←List.append_assoc (le _ _),←List.append_assoc];exact jU.out,mV.out⟩
   case measure=>simp [intOf];omega
  ·have hkn:k=n:=by omega
   have sW:=ae hkn;clear hkn;go_wp2_with fail
   go_end0
   exact ⟨rfl,v2,by have h:=HS2.out;rwa [sW.out,List.take_of_length_le (by rw [List.length_map,HN.out];exact Nat.le_refl _)] at h,iO.out⟩
structure Ey (g:Nat) (w:World) (A:Option Addr) (zs:List dB):Prop where
 row:zs.length=0∨∃zg,A=some ⟨zg,0,none⟩∧zg<g∧(∀j u,(aO zs)[j]? =some u→w.cell? ⟨zg,j,none⟩=some u)∧∀j,w.frozen? ⟨zg,j,none⟩=false
 az:∀x∈zs,fJ w g x.s.A x.e.z.cal.az
theorem Ey.keep {g:Nat} {w w':World} {A:Option Addr} {zs:List dB} (h:Ey g w A zs) (hb:Below g w w'):Ey g w' A zs:=
 ⟨h.row.elim .inl fun ⟨zg,h1,h2,h3,h4⟩=> .inr ⟨zg,h1,h2,fun j u hu=>(hb.cell (p:=⟨zg,j,none⟩) h2).trans (h3 j u hu),fun j=>(hb.frozen (p:=⟨zg,j,none⟩) h2).trans (h4 j)⟩,fun x hx=>(h.az x hx).keep hb⟩
theorem gJ.low {lo n c:Nat} {w:World} {A:Option Addr} {zs:List dB} (h:gJ lo w (.slice A n c) zs):Ey w.heap.size w A zs:=by
 refine ⟨?_,fun x hx=>(h.az x hx).ints⟩;rcases h.form with ⟨h1,_⟩|⟨_,g,c',h2,_,h4⟩
 ·exact .inl (by rw [h1];rfl)
 ·injection h2 with e1 e2 e3;subst e1 e2;exact .inr ⟨g,rfl,h4,fun j u hu=>oW h.row j u hu,xw h.row⟩
def eY (t:Tb):List UInt8:=le t.aP 1++(le t.version 1++(le t.aC 1++(t.prev++(le t.aK.length 1++fZ t.aK))))
theorem Jr (t:Tb) (h:kJ t):36≤(eY t).length∧(eY t).length≤9000:=by
 have h1:=zB t.aK fun e he=>⟨h.flat e he,h.short e he⟩;have h2:=h.num;have h3:=h.prev;simp only [eY,aZ,aF];omega
theorem JG (w:World) (g lb lo n c:Nat) (A:Option Addr) (zs:List dB) (v:Value) (bs:List UInt8) (hn:zs.length=n) (hn2:n≤128) (hp:w.cell? ⟨lb,lo,none⟩=some (.slice A n c)) (Lu:lb<g) (hz:Ey g w A zs) (hfl:∀x∈zs,gU x.e.z∧x.e.name.size≤32)
  (hl:bs.length≤1000000) (hst:fA w g v bs):
  Calls Tryz.prog 48 #[.iface 77 (pt g), .pointer (some ⟨lb,lo,none⟩),I 1, .func (.func 49) #[] #[]] w (fE w g v (bs++(le n 1++fZ (zs.map (·.e))))):=by
 by_cases h0:n=0
 ·subst h0;have:=xK w g lb lo A c v bs hp (by omega) hst;rw [List.eq_nil_of_length_eq_zero hn];simpa [fZ] using this
 ·rcases hz.row with h|⟨zg,rfl,h2,h3,h4⟩
  ·omega
  ·exact GX w g lb lo zg n c zs v bs hn hn2 hp Lu h2 h3 h4 hfl hz.az hl hst
attribute [local go_sem] jy jA jQ bD
theorem JI (w:World) (g tb n c:Nat) (t:Tb) (A:Option Addr) (zs:List dB) (v:Value) (h:kJ t) (hzz:t.aK=zs.map (·.e)) (hn:zs.length=n) (htb:tb<g) (hr:Row w tb (ai t (.slice A n c))) (hz:Ey g w A zs) (hst:fA w g v []):
  Calls Tryz.prog 30 #[.iface 77 (pt g), .pointer (some ⟨tb,0,none⟩)] w (fE w g v (eY t)):=by
 have hgl:=hst.lt;have c0:=hr.2 0;have c1:w.cell? ⟨tb,1,none⟩=some (I t.version):=(hr.2 1).trans (jA _ _);have c2:w.cell? ⟨tb,2,none⟩=some (I t.aC):=(hr.2 2).trans (jQ _ _);have c3:w.cell? ⟨tb,3,none⟩=some (.slice A n c):=(hr.2 3).trans (bD _ _);have hn2:n≤128:=by have:=h.num;rw [hzz,List.length_map] at this;omega
 have q1:=h.aP;have q2:=h.version;have q3:=h.aC;have lV:=ae (bH w.drew g ⟨tb,0,none⟩ v [] t.aP 1 (by omega) (by omega) (by omega) (by decide) hst.lt hst.drew (c0.trans (jy _ _)));have HPV:=ae (mY t (.slice A n c) hr);have HST:=ae hst;have HF:=ae h;have HZ:=ae hz;have ZW:=ae hzz;have HN:=ae hn;have zZ:Hid (∀j u,Below g w u→u.cell? ⟨tb,j,none⟩=w.cell? ⟨tb,j,none⟩):=ae fun j u hb=>hb.cell (p:=⟨tb,j,none⟩) htb;have Em:Hid (∀x∈zs,gU x.e.z∧x.e.name.size≤32):=ae fun x hx=>by
  have hm:x.e∈t.aK:=by rw [hzz];exact List.mem_map_of_mem hx
  exact ⟨h.flat _ hm,h.short _ hm⟩
 clear h hr hst hz hzz hn c0;go_enter Tryz.func30,Tryz.ntmps30;go_wp2_with fail;go_still_tail 7,(by kernel_rfl);go_wp2_with fail;refine lV.out.mono ?_;rintro e w1 ⟨rfl,v1,hs1,hk1⟩;obtain ⟨B1,hB1⟩:∃B,[]++le t.aP 1=B:=⟨_,rfl⟩;have hl1:B1.length≤1:=by rw [←hB1];simp [aF]
 rw [hB1] at hs1;have hb1:=bu HST.out (aI hk1);have HB1:=ae hb1;have iq:=ae hs1;have iF:=ae (aI hk1);have nY:=ae hB1;have HC2:=ae (bH w1.drew g ⟨tb,1,none⟩ v1 B1 t.version 1 (by omega) (by omega) (by omega) (by omega) hs1.lt hs1.drew ((zZ.out _ _ hb1).trans c1));clear hs1 hk1 hb1 lV hB1 c1;go_wp2_with fail;go_still_tail 7,(by kernel_rfl);go_wp2_with fail;refine HC2.out.mono ?_;rintro e w2 ⟨rfl,v2,hs2,hk2⟩;obtain ⟨B2,hB2⟩:∃B,B1++le t.version 1=B:=⟨_,rfl⟩;have hl2:B2.length≤2:=by rw [←hB2,aZ,aF];omega
 rw [hB2] at hs2;have hb2:=HB1.out.trans (bu iq.out (aI hk2));have HB2:=ae hb2;have HS2:=ae hs2;have iO:=ae (iF.out.trans (aI hk2));have lC:=ae hB2;have sG:=ae (bH w2.drew g ⟨tb,2,none⟩ v2 B2 t.aC 1 (by omega) (by omega) (by omega) (by omega) hs2.lt hs2.drew ((zZ.out _ _ hb2).trans c2));clear hs2 hk2 hb2 HC2 hB2 c2;go_wp2_with fail;go_still_tail 7,(by kernel_rfl);go_wp2_with fail;refine sG.out.mono ?_;rintro e w3 ⟨rfl,v3,hs3,hk3⟩;obtain ⟨B3,hB3⟩:∃B,B2++le t.aC 1=B:=⟨_,rfl⟩;have hl3:B3.length≤3:=by rw [←hB3,aZ,aF];omega
 rw [hB3] at hs3;have hb3:=HB2.out.trans (bu HS2.out (aI hk3));have HB3:=ae hb3;have jU:=ae hs3;have mV:=ae (iO.out.trans (aI hk3));have Ac:=ae hB3;have sQ:=ae (zk w3.drew g tb 4 v3 B3 t.prev (by omega) (fun j u hu=>(zZ.out _ _ hb3).trans (HPV.out j u hu)) HF.out.prev hs3.drew);clear hs3 hk3 hb3 sG hB3;go_wp2_with fail;go_still_tail 7,(by kernel_rfl);go_wp2_with fail;refine sQ.out.mono ?_;rintro e w4 ⟨rfl,v4,hs4,hk4⟩;obtain ⟨B4,hB4⟩:∃B,B3++t.prev=B:=⟨_,rfl⟩;have hl4:B4.length≤35:=by rw [←hB4,aZ,HF.out.prev];omega
 rw [hB4] at hs4;have hb4:=HB3.out.trans (bu jU.out (aI hk4));have Ad:=ae hs4;have NJ:=ae (mV.out.trans (aI hk4));have Zk:=ae hB4;have zY:=ae (JG w4 g tb 3 n c A zs v4 B4 HN.out hn2 ((zZ.out _ _ hb4).trans c3) htb (HZ.out.keep hb4) Em.out (by omega) hs4);clear hs4 hk4 hb4 sQ hB4 c3;go_wp2_with fail;refine zY.out.mono ?_;rintro e w5 ⟨rfl,v5,hs5,hk5⟩;have sS:=ae hs5;have xP:=ae (NJ.out.trans hk5);clear hs5 hk5 zY;go_wp2_with fail
 go_end0
 refine ⟨rfl,v5,?_,xP.out⟩;have hh:=sS.out;rw [←Zk.out,←Ac.out,←lC.out,←nY.out] at hh;unfold eY;rw [ZW.out,List.length_map,HN.out];simpa only [List.append_assoc,List.nil_append] using hh
end Go.Proofs.YtdibbemgpikgjaaGreatDoor
namespace Go.Proofs.YtdibbemgpikgjaaGreatDoor
open Go Go.RowKit
def Bj (w:World) (bs:List UInt8) (e:Ending) (w':World):Prop:=
 (∃g c,e= .returned (.tuple #[.slice (some ⟨g,0,none⟩) bs.length c,I 0])∧w'.ownsRow w.heap.size 5 1 (.slice (some ⟨g,0,none⟩) bs.length c) bs.length (bs.map Extern.Stop.cell))∧Below w.heap.size w w'
theorem rY (t:Tb) (A:Option Addr) (n c lo:Nat) (zs:List dB) (w:World) (h:kJ t) (hzz:t.aK=zs.map (·.e)) (hn:zs.length=n) (hO:gJ lo w (.slice A n c) zs) (hup:jv zs):
  Calls Tryz.prog 9 #[.agg (ai t (.slice A n c))] w (Bj w (eY t)):=by
 have HR0:=ae (Row.new w (ai t (.slice A n c)) 37);have HB0:=ae (ag w (.cells (ai t (.slice A n c)) 37));have HH0:=ae (heap_alloc_last w (.cells (ai t (.slice A n c)) 37));have dR:Hid (∀v,(Tryz.prog.info? 37).map (·.size)=some (ai t v).size):=ae fun v=>bU t v h.prev h.bn;have Af:Hid (∀u v,(ai t u).size=(ai t v).size):=ae fun u v=>by rw [bF _ _ h.prev h.bn,bF _ _ h.prev h.bn]
 have HV:Hid (∀W,Below w.heap.size w W→Calls Tryz.prog 26 #[.agg (ai t (.slice A n c))] W (Gives (I 0) W)):=ae fun W hb=>
  zN t A n c zs W h hzz hn ((hO.below hb).zes) hup
 have gu:Hid (∀W,Below w.heap.size w W→Calls Tryz.prog 29 #[.agg (ai t (.slice A n c))] W (ClT W t zs)):=ae fun W hb=>by
  have h2:zs.length≤128:=by have:=h.num;rw [hzz,List.length_map] at this;exact this
  subst hn;exact La t A c lo zs W (fun x hx=>h.flat _ (by rw [hzz];exact List.mem_map_of_mem hx)) h2 h.prev h.bn (hO.below hb)
 have HF:=ae h;have ZW:=ae hzz;have HN:=ae hn;clear h hzz hn hO hup;go_enter Tryz.func9,Tryz.ntmps9;go_wp2_with (with_reducible refine dN 37 ?_;refine aY rfl _ _ rfl w.heap.size rfl (ai t (.slice A n c)) HR0.out _ Tryz.underlying37 rfl (dR.out _) ?_);refine (HV.out _ HB0.out).mono ?_;rintro e w1 ⟨rfl,hb1⟩;have HR1:=ae (HR0.out.keep hb1);have HB1:=ae (ah HB0.out hb1);have HH1:Hid (w1.heap[w.heap.size]? =some (.cells (ai t (.slice A n c)) 37 (0,0))):=ae ((hb1.block _ (by simp)).trans HH0.out);clear hb1 HR0 HB0 HH0 HV;go_wp2_with (with_reducible refine dN 37 ?_;refine aY rfl _ _ rfl w.heap.size rfl (ai t (.slice A n c)) HR1.out _ Tryz.underlying37 rfl (dR.out _) ?_);refine (gu.out _ HB1.out).mono ?_;rintro e w2 ⟨A2,c2,zs2,rfl,hO2,he2,hb2⟩;have pI:=ae hO2;have HE2:=ae he2;have HH2:Hid (w2.heap[w.heap.size]? =some (.cells (ai t (.slice A n c)) 37 (0,0))):=ae ((hb2.block _ HR1.out.1).trans HH1.out);have HB2:=ae (ah HB1.out hb2);have hl1:w.heap.size<w1.heap.size:=HR1.out.1;rw [HN.out];clear hO2 he2 hb2 gu;go_wp2_with (with_reducible refine cZ 37 ?_;refine wpList_store_row rfl _ _ _ rfl w.heap.size (ai t (.slice A2 n c2)) rfl rfl 37 (ai t (.slice A n c)) HH2.out (dR.out _) (Af.out _ _) (bz _ _ _ _) ?_);have hw3:(w2.setRow w.heap.size (ai t (.slice A2 n c2))).heap[w.heap.size]? =some (.cells (ai t (.slice A2 n c2)) 37 (0,0)):=setRow_heap _ _ _ _ _ _ HH2.out;have hs3:(w2.setRow w.heap.size (ai t (.slice A2 n c2))).heap.size=w2.heap.size:=by simp [World.setRow]
 have hb3:Below w.heap.size w (w2.setRow w.heap.size (ai t (.slice A2 n c2))):=below_setRow HB2.out (Nat.le_refl _) _;have hz3:gJ (w.heap.size+1) (w2.setRow w.heap.size (ai t (.slice A2 n c2))) (.slice A2 n c2) zs2:=by
  have h1:=pI.out;rw [HN.out] at h1;exact (h1.lower (by omega)).aS (by rw [hs3];exact Nat.le_refl _) fun k hk _=>setRow_other _ _ k _ (by omega)
 generalize w2.setRow w.heap.size (ai t (.slice A2 n c2))=w3 at hw3 hs3 hb3 hz3 ⊢;rw [←hs3];have hba:=ag w3 (.cells #[.slice none 0 0] 79);have hst:fA (w3.alloc (.cells #[.slice none 0 0] 79)) w3.heap.size (.slice none 0 0) []:=⟨heap_alloc_last w3 _,World.ownsRow_nil _ _ _ _⟩;have hn2:zs2.length=n:=by have:=congrArg List.length HE2.out;simpa [HN.out] using this
 have hl3:w.heap.size<w3.heap.size:=(bT.1 hw3).1;refine (JI (w3.alloc (.cells #[.slice none 0 0] 79)) w3.heap.size w.heap.size n c2 t A2 zs2 (.slice none 0 0) HF.out (by rw [HE2.out];exact ZW.out) hn2 hl3 ⟨by simp;omega,fun i=>(hba.cell (p:=⟨w.heap.size,i,none⟩) hl3).trans (cell_of_row w3 _ i _ _ _ hw3)⟩ (hz3.low.keep hba) hst).mono ?_;rintro e w4 ⟨rfl,v4,hs4,hk4⟩;have hb4:Below w.heap.size w w4:=(ah hb3 hba).trans ((bu hst hk4).mono (by omega));have hc4:w4.cell? ⟨w3.heap.size,0,none⟩=some v4:=cell_of_row w4 _ 0 _ _ _ hs4.1;have hlen:=Jr t HF.out;obtain ⟨g4,c4,rfl,hg4⟩:=dE hs4.2 (by omega);have HB4:=ae hb4;have He:=ae (bf hs4.2 (base':=w.heap.size) (by omega));clear hw3 hs3 hb3 hz3 hba hst hn2 hs4 hk4 hb4 hlen hg4;go_wp2_with fail;go_ret2;exact ⟨⟨g4,c4,rfl,He.out⟩,HB4.out⟩
end Go.Proofs.YtdibbemgpikgjaaGreatDoor
