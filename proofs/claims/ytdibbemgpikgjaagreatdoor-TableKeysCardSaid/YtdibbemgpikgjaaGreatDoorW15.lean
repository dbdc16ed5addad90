/- The texts Kq, Kv, La, Qh, TrA, RsP, in this order. -/
import Derived.Test.YtdibbemgpikgjaaGreatDoorW00
import Derived.Laws.BitsAllLaws
import Derived.Laws.Cover3
import Derived.MapKept
import Derived.Test.YtdibbemgpikgjaaGreatDoorW01
import Derived.Test.YtdibbemgpikgjaaGreatDoorW02
import Derived.Test.YtdibbemgpikgjaaGreatDoorW04
import Derived.Test.YtdibbemgpikgjaaGreatDoorW05
import Derived.Test.YtdibbemgpikgjaaGreatDoorW09
import Derived.Test.YtdibbemgpikgjaaGreatDoorW11
import Derived.Test.YtdibbemgpikgjaaGreatDoorW14
set_option maxRecDepth 10000
set_option maxHeartbeats 8000000
namespace Go.Proofs.YtdibbemgpikgjaaGreatDoor
open Go Go.RowKit
def bP (k:Nat):ByteArray:=⟨#[122,(97+k).toUInt8]⟩
theorem rZ (k:Nat):(bP k).size=2:=rfl
def xy:Nat→ByteArray
 |0=>⟨#[]⟩
 |k+1=>bP k
theorem JC:∀k,k<3→(Op.bytesLess (bP k).toList (xy k).toList=false∧((bP k).toList==(xy k).toList)=false):=by decide+kernel
structure ZnV0 (z:Zn):Prop where
 made:uZ z
 ok:yD z=0
theorem Wq (z:Zn) (h:z.aK= []):yD z=0:=by
 have e1:ry z= []:=by unfold ry;rw [h]
 unfold yD qO;rw [e1];simp [jT,eP]
theorem Pq (x:Du):ZnV0 (fJ x):=by
 refine ⟨SY x,?_⟩;unfold fJ;split
 ·rename_i h;exact h.2
 ·exact Wq _ rfl
theorem uZ.z14 {z:Zn} (h:uZ z):Z14 z:=by
 obtain ⟨hc,hs,hh,hl,ht,_,hy⟩:=h;refine ⟨⟨⟨by have:=hc.ep;omega,by have:=hc.ep;omega⟩,by rw [hc.mo];omega,fun x hx=>⟨by have:=hc.all x hx;omega,by have:=hc.all x hx;omega⟩,⟨hc.le.1,by have:=hc.le;omega⟩,by have:=hc.ru;omega,fun r hr=>?_⟩,⟨by omega,by omega⟩,by omega,fun x hx=>?_,⟨by omega,by omega⟩,?_,fun y hm=>?_⟩
 ·obtain ⟨h1,h2,h3⟩:=hc.rl r hr;exact ⟨⟨by omega,by omega⟩,⟨by omega,by omega⟩⟩
 ·obtain ⟨⟨h1,h2⟩,h3,h4⟩:=ht x hx;exact ⟨⟨by omega,by omega⟩,⟨by omega,by omega⟩⟩
 ·rcases hy with h|⟨r0,r1,h,_,_⟩<;>rw [h]<;>simp
 ·have hS:yj y:=by
   rcases hy with h|⟨r0,r1,h,h0,h1⟩
   ·rw [h] at hm;cases hm
   ·rw [h] at hm;rcases List.mem_cons.1 hm with rfl|hm
    ·exact h0
    ·rcases List.mem_cons.1 hm with rfl|hm
     ·exact h1
     ·cases hm
  exact ⟨by have:=hS.mo;constructor<;>omega,by have:=hS.wk;constructor<;>omega,by have:=hS.wd;constructor<;>omega,by have:=hS.mi;constructor<;>omega,by have:=hS.of;constructor<;>omega⟩
theorem Ug (z:Zn) (h:uZ z):(JB z).length≤100:=by
 have g1:=iD (le · 1) z.cal.az 1 z.cal.az.length (fun _=>aC _ _);have g2:=iD UF z.cal.rules 5 z.cal.rules.length FZ;have g3:=iD UG z.trans 10 z.trans.length Oq;have g4:=iD WX z.aK 7 z.aK.length Oy;rw [List.take_length] at g1 g2 g3 g4;have h1:=h.cal.mo;have h2:=h.cal.ru;have h3:=h.UH;have h4:z.aK.length≤2:=by rcases h.yr with e|⟨r0,r1,e,_,_⟩<;>rw [e]<;>simp
 simp only [JB,uj,aZ,aC];omega
structure Fj (t:Tb):Prop where
 aT:0≤t.aT∧t.aT≤15
 version:1≤t.version∧t.version≤64
 aJ:0≤t.aJ∧t.aJ<t.version
 first:t.version=1→t.prev=aX
 num:t.aS.length≤3
 aS:∀e∈t.aS,ZnV0 e.z
 names:∀k e,t.aS[k]? =some e→e.name=bP k
theorem og (w:World) (r:List UInt8) (h:r.length=32):(Op.equalIn 10000 23 (.agg (r.map Extern.Stop.cell).toArray) (.agg (r.map Extern.Stop.cell).toArray)).run Tryz.prog w= .ok true w:=by
 rw [run_equalIn_bytes w 9998 23 5 32 Tryz.underlying23 Tryz.underlying5 (fun w=>Ai w) r r h h,beq_self_eq_true]
attribute [local go_sem] jQ jR kJ bC
theorem Jo (t:Tb) (A:Option Addr) (n c:Nat) (w:World) (h:Fj t) (hp:t.prev.length=32):
  Calls Tryz.prog 88 #[.agg (ai t (.slice A n c))] w (Gives (.bool true) w):=by
 have HR0:=ae (Row.new w (ai t (.slice A n c)) 37);have HB0:=ae (ag w (.cells (ai t (.slice A n c)) 37));have k0:=HR0.out.2;have q1:=h.aT.1;have q2:=h.aT.2;have q3:=h.version.1;have q4:=h.version.2;have q5:=h.aJ.1;have q6:=h.aJ.2;have HF:=ae h;clear h;by_cases hv:t.version=1
 ·have hpz:t.prev=aX:=HF.out.first hv;have heq:∀W,(binOp .eql 23 (.agg (aj t.prev).toArray) (.agg (aj aX).toArray)).run Tryz.prog W= .ok (.bool true) W:=fun W=>by
   rw [hpz];unfold aj;rw [run_eql_struct,Go.Proofs.YtdibbemgpikgjaaGreatDoor.og W aX rfl];simp [Result.andThen]
  have h32:(Tryz.prog.info? 23).map (·.size)=some (aj t.prev).length:=by rw [show (aj t.prev).length=32 by simp [aj,hp]];kernel_rfl
  have HP:=ae (oI t (.slice A n c) HR0.out);have Um:=ae h32;clear hpz h32 hp;rw [rY] at heq;go_enter Tryz.func88,Tryz.ntmps88;go_wp2_with (with_reducible refine dY 23 ?_;refine bY rfl _ _ rfl w.heap.size 4 rfl (aj t.prev) HP.out _ Tryz.underlying23 rfl Um.out ?_);go_ret;exact ⟨rfl,HB0.out⟩
 ·go_enter Tryz.func88,Tryz.ntmps88;go_wp2_with fail;go_ret;exact ⟨rfl,HB0.out⟩
structure TVr (w:World) (cs:Array Value) (A:Option Addr) (zs:List dD) (W:World):Prop where
 row:Row W w.heap.size cs
 mem:oz W w.heap.size A zs
 up:Below w.heap.size w W
theorem TVr.below {w W W':World} {cs:Array Value} {A:Option Addr} {zs:List dD} (h:TVr w cs A zs W) (hb:Below W.heap.size W W'):TVr w cs A zs W':=
 ⟨h.row.keep hb,h.mem.keep (hb.mono h.up.size),ah h.up hb⟩
theorem P5 (x:dI) (w:World) (hx:kM w w.heap.size x) (h:Fj x.t):
  Calls Tryz.prog 64 #[.agg (ai x.t (.slice x.A x.zs.length x.c))] w (Gives (.int .i64 0) w):=by
 obtain ⟨t,A,c,zs⟩:=x;obtain ⟨hz,hp,hm,hA⟩:=hx;simp only at hz hp hm hA h ⊢;obtain ⟨n,hn⟩:∃n,zs.length=n:=⟨_,rfl⟩;rw [hn];have HB0:=ae (ag w (.cells (ai t (.slice A n c)) 37));have J4:Hid (TVr w (ai t (.slice A n c)) A zs (w.alloc (.cells (ai t (.slice A n c)) 37))):=ae ⟨Row.new w _ _,hA.keep HB0.out,HB0.out⟩;have HHD:Hid (∀W,Calls Tryz.prog 88 #[.agg (ai t (.slice A n c))] W (Gives (.bool true) W)):=ae fun W=>Jo t A n c W h hp;have ed:=ae (cu t (.slice A n c) hp hm);have hn3:n≤3:=by have:=h.num;rw [hz,List.length_map,hn] at this;exact this
 have HF:=ae h;have HZ:=ae hz;have Dl:=ae hn;clear h hz hp hm hA hn HB0;go_enter Tryz.func64,Tryz.ntmps64;go_wp2_with ((with_reducible refine fA 37 ?_);go_must (refine aV rfl _ _ rfl w.heap.size rfl (ai t (.slice A n c)) J4.out.row _ Tryz.underlying37 rfl ed.out ?_));refine (HHD.out _).mono ?_;rintro e w1 ⟨rfl,hb1⟩;have pO:=ae (J4.out.below hb1);have k1:=pO.out.row.2;have hlt1:=pO.out.row.1;clear hb1 J4;go_wp2_with fail
 go_loopw [3] (fun i wr=>∃k:Nat,k≤n∧i=I k∧TVr w (ai t (.slice A n c)) A zs wr) (fun i _=>n - (intOf i).toNat)
 case atStart=>exact ⟨0,Nat.zero_le _,rfl,pO.out⟩
 case round=>
  obtain ⟨k,hk,rfl,zJ⟩:=hrel;have HV:=ae zJ;clear zJ k1 hlt1 pO;have k1:=HV.out.row.2;have hlt1:=HV.out.row.1;by_cases hlt:(k:Int)<(n:Int)
  ·have hkz:k<zs.length:=by rw [Dl.out];omega
   obtain ⟨x,hx⟩:∃x,zs[k]? =some x:=⟨_,dw hkz⟩;obtain ⟨b,off,rfl,nO,hcl⟩:=HV.out.mem.row.there (by rw [dM];omega);have gq:Hid (∀k x,zs[k]? =some x→wr.rangeAt b (off+k*9) x.cells.toList):=ae fun k x hx=>aA.elem (s:=9) (f:=fun x:dD=>x.cells.toList) (fun _ _=>rfl) hcl k x hx;have c0:wr.cell? ⟨b,off+k*9,none⟩=some (.string x.e.name):=gq.out k x hx 0 _ rfl;have c1:wr.cell? ⟨b,off+k*9+1,none⟩=some (I x.e.z.cal.aY):=gq.out k x hx 1 _ rfl;have c2:wr.cell? ⟨b,off+k*9+2,none⟩=some (.slice x.s.A x.e.z.cal.az.length x.s.a):=gq.out k x hx 2 _ rfl;have c3:wr.cell? ⟨b,off+k*9+3,none⟩=some (I x.e.z.cal.dP):=gq.out k x hx 3 _ rfl;have c4:wr.cell? ⟨b,off+k*9+4,none⟩=some (.slice x.s.B x.e.z.cal.rules.length x.s.b):=gq.out k x hx 4 _ rfl;have c5:wr.cell? ⟨b,off+k*9+5,none⟩=some (I x.e.z.start):=gq.out k x hx 5 _ rfl;have c6:wr.cell? ⟨b,off+k*9+6,none⟩=some (.slice x.s.C x.e.z.trans.length x.s.c):=gq.out k x hx 6 _ rfl;have c7:wr.cell? ⟨b,off+k*9+7,none⟩=some (I x.e.z.hor):=gq.out k x hx 7 _ rfl;have c8:wr.cell? ⟨b,off+k*9+8,none⟩=some (.slice x.s.D x.e.z.aK.length x.s.d):=gq.out k x hx 8 _ rfl;have hxm:x.e∈t.aS:=by rw [HZ.out];exact List.mem_map_of_mem (fZ hx)
   have hnm:x.e.name=bP k:=HF.out.names k x.e (by rw [HZ.out,List.getElem?_map,hx];rfl);have uY:=ae hnm;have Kw:Hid (∀W,Below wr.heap.size wr W→Calls Tryz.prog 53 #[.agg (ay x.e.z x.s)] W (Gives (.int .i64 0) W)):=ae fun W hb=>by
    have hz:=HF.out.aS _ hxm;have:=wL x.e.z x.s W hz.made (((HV.out.mem.each x (fZ hx)).more HV.out.up.size).grow hb);rw [hz.ok] at this;exact this
   have hup:=JC k (by omega);have q7:(bP k).size=2:=rfl;rw [hnm] at c0;obtain ⟨nm,VQ⟩:∃s,bP k=s:=⟨_,rfl⟩;rw [VQ] at hup q7 c0;unfold ay at Kw;have NC:=ae hup;have HNM2:=ae VQ;rcases Nat.eq_zero_or_pos k with h0|h0
   ·subst h0;clear hx hcl hxm hkz hnm VQ hup;simp only [Nat.zero_mul,Nat.add_zero] at c0 c1 c2 c3 c4 c5 c6 c7 c8;go_wp2_with fail;refine (Kw.out _ (Below.refl _ _)).mono ?_;rintro e w2 ⟨rfl,hb2⟩;have nK:=ae (HV.out.below hb2);clear hb2;go_wp2_with fail;go_roundw
    case rel=>exact ⟨1,by omega,rfl,nK.out⟩
    case measure=>simp [intOf];omega
   ·obtain ⟨j,rfl⟩:∃j,k=j+1:=⟨k - 1,by omega⟩;obtain ⟨y,hy⟩:∃y,zs[j]? =some y:=⟨_,dw (by omega)⟩;have hnmy:y.e.name=bP j:=HF.out.names j y.e (by rw [HZ.out,List.getElem?_map,hy];rfl);have d0:wr.cell? ⟨b,off+j*9,none⟩=some (.string (bP j)):=by rw [←hnmy];exact gq.out j y hy 0 _ rfl
    obtain ⟨pn,hpn⟩:∃s,bP j=s:=⟨_,rfl⟩;obtain ⟨s1,s2⟩:=hup;simp only [xy] at s1 s2;rw [hpn] at d0 s1 s2;clear hx hcl hxm hkz hnm VQ hy hnmy hpn;go_wp2_with fail;refine (Kw.out _ (Below.refl _ _)).mono ?_;rintro e w2 ⟨rfl,hb2⟩;have nK:=ae (HV.out.below hb2);clear hb2;go_wp2_with fail;go_roundw
    case rel=>exact ⟨j+2,by omega,by go_num,nK.out⟩
    case measure=>simp [intOf];omega
  ·go_wp2_with fail;go_ret;exact ⟨rfl,HV.out.up⟩
end Go.Proofs.YtdibbemgpikgjaaGreatDoor
namespace Go.Proofs.YtdibbemgpikgjaaGreatDoor
open Go Go.RowKit
theorem NY {α β:Type} (f:α→List β) (l:List α) (s k:Nat) (h:∀x∈l,(f x).length≤s):((l.take k).flatMap f).length≤l.length*s:=by
 induction l generalizing k with
 |nil=>simp
 |cons x l ih=>
  cases k with
  |zero=>simp
  |succ k=>
   rw [List.take_succ_cons,List.flatMap_cons,aZ,List.length_cons,Nat.succ_mul];have h1:=h x (List.mem_cons_self ..);have h2:=ih k (fun y hy=>h y (List.mem_cons_of_mem _ hy));omega
def vF (e:Ze):List UInt8:=le e.name.size 1++(e.name.data.toList++JB e.z)
def xC (t:Tb):List UInt8:= [byteOf t.aT,byteOf t.version,byteOf t.aJ]++(t.prev++(le t.aS.length 1++t.aS.flatMap vF))
theorem OB (e:Ze) (h:uZ e.z) (hn:e.name.size≤2):(vF e).length≤103:=by
 have h1:=Ug e.z h;have h2:e.name.data.toList.length=e.name.size:=by rw [Array.length_toList];rfl
 simp only [vF,aZ,aC];omega
theorem CB.lit {w W:World} {cs:Array Value} (hr:Row W w.heap.size cs) (hb:Below w.heap.size w W) (bs:List UInt8) (n:Nat) (hl:bs.length=n) (hn:n≤1000) (vs:Array Value) (hv:vs.toList=bs.map Extern.Stop.cell):CB w.heap.size (.slice none 0 0) w cs bs (some ⟨W.heap.size,0,none⟩) n n (W.alloc (.cells vs 5)):=by
 have hlt:=hr.1;have ho:(W.alloc (.cells vs 5)).ownsRow W.heap.size 5 1 (.slice (some ⟨W.heap.size,0,none⟩) n n) n vs.toList:=World.ownsRow_lit W vs n (Nat.le_refl _) (by unfold maxLen;omega) (by rw [←Array.length_toList,hv,List.length_map,hl,Nat.mul_one]);have hb2:Below w.heap.size w (W.alloc (.cells vs 5)):=ah hb (ag W _);refine ⟨hr.keep (ag W _),nJ.lower (lo:=W.heap.size) (by rw [hv] at ho;exact ho) hb.size,hl,⟨hb2.os,hb2.tape,hb2.output,hb2.size,fun k hk _=>hb2.block k hk, .inr ⟨W.heap.size,rfl,hb.size⟩⟩,fun e=>?_⟩;have h:w.heap.size=W.heap.size:=Option.some.inj e;omega
def Yd (w:World) (t:Tb) (e:Ending) (w':World):Prop:=∃A n c,(xC t).length=n∧e= .returned (.tuple #[.slice A n c, .int .i64 0])∧nJ w.heap.size w' A n c (xC t)∧Below w.heap.size w w'
attribute [local go_sem] jQ jR kJ bC
theorem Ep (x:dI) (w:World) (hx:kM w w.heap.size x) (h:Fj x.t):
  Calls Tryz.prog 44 #[.agg (ai x.t (.slice x.A x.zs.length x.c))] w (Yd w x.t):=by
 obtain ⟨i0,hi,hz0,hz1,hz2⟩:=info_parts kG;have HI:=ae hi;have HZ0:=ae hz0;have HZ1:=ae hz1;have HZ2:=ae hz2;clear hi hz0 hz1 hz2;have Qq:Hid (∀W,Below w.heap.size w W→Calls Tryz.prog 64 #[.agg (ai x.t (.slice x.A x.zs.length x.c))] W (Gives (.int .i64 0) W)):=ae fun W hb=>P5 x W (hx.grow hb) h;obtain ⟨t,A,c,zs⟩:=x;obtain ⟨hz,hp,hm,hA⟩:=hx;simp only at hz hp hm hA h Qq ⊢;obtain ⟨n,hn⟩:∃n,zs.length=n:=⟨_,rfl⟩;rw [hn] at Qq ⊢;have HB0:=ae (ag w (.cells (ai t (.slice A n c)) 37));have HR0:=ae (Row.new w (ai t (.slice A n c)) 37);have ed:=ae (cu t (.slice A n c) hp hm);have hn3:n≤3:=by have:=h.num;rw [hz,List.length_map,hn] at this;exact this
 have HF:=ae h;have HZ:=ae hz;have Dl:=ae hn;have Dn:=ae hp;have HA:=ae hA;have h32:(Tryz.prog.info? 23).map (·.size)=some (aj t.prev).length:=by rw [show (aj t.prev).length=32 by simp [aj,hp]];kernel_rfl
 have Um:=ae h32;clear h hz hp hm hA hn h32;go_enter Tryz.func44,Tryz.ntmps44;go_wp2_with ((with_reducible refine fA 37 ?_);go_must (refine aV rfl _ _ rfl w.heap.size rfl (ai t (.slice A n c)) HR0.out _ Tryz.underlying37 rfl ed.out ?_));refine (Qq.out _ HB0.out).mono ?_;rintro e w1 ⟨rfl,hb1⟩;have HR1:=ae (HR0.out.keep hb1);have HB1:=ae (ah HB0.out hb1);have lY:Hid (CB w.heap.size (.slice none 0 0) w (ai t (.slice A n c)) [byteOf t.aT,byteOf t.version,byteOf t.aJ] (some ⟨w1.heap.size,0,none⟩) 3 3 (w1.alloc (.cells #[Value.int .u8 (t.aT%256),Value.int .u8 (t.version%256),Value.int .u8 (t.aJ%256)] 5))):=ae (CB.lit HR1.out HB1.out _ 3 rfl (by omega) _ (by simp only [List.map_cons,List.map_nil,dK]));have wZ:=ae (oI t (.slice A n c) lY.out.row);have k1:=HR1.out.2;have hlt1:=HR1.out.1;clear hb1 HR0 HB0 Qq;go_wp2_with (with_reducible refine dY 23 ?_;refine bY rfl _ _ rfl w.heap.size 4 rfl (aj t.prev) wZ.out _ Tryz.underlying23 rfl Um.out ?_);generalize w1.alloc (.cells #[Value.int .u8 (t.aT%256),Value.int .u8 (t.version%256),Value.int .u8 (t.aJ%256)] 5)=W1 at lY wZ ⊢;refine (yw t.prev W1 Dn.out).mono ?_;rintro e w2 ⟨A2,n2,c2,l2,rfl,o2,k2⟩;have hn2:n2=32:=by rw [←l2,Dn.out]
 subst hn2;have HC2:=ae (lY.out.grow k2.jf);obtain ⟨g,cap,hgv,hgl⟩:=dE o2 (by omega);injection hgv with hA2 _ hC2;subst hA2 hC2;have QG:Hid (∀j u,(t.prev.map Extern.Stop.cell)[j]? =some u→w2.cell? ((⟨g,0,none⟩:Addr).add j)=some u):=ae (fun j u hu=>World.ownsRow.cells o2 (g:=g) rfl j u hu);have HNL:Hid ((t.prev.map Extern.Stop.cell).length=32*1):=ae (by rw [List.length_map,Dn.out]);have JX:Hid (∀u∈t.prev.map Extern.Stop.cell,u.oneCell'=true):=ae (fun u hu=>by obtain ⟨x,_,rfl⟩:=List.mem_map.1 hu;rfl);have hsz2:w.heap.size≤w2.heap.size:=HC2.out.keep.size;obtain ⟨hd,hhd⟩:∃l,[byteOf t.aT,byteOf t.version,byteOf t.aJ]=l:=⟨_,rfl⟩;have HHD:=ae hhd;rw [hhd] at HC2;have rC:=ae HC2.out.own;clear o2 l2 k2 hgl hhd k1 hlt1;go_wp2_with (at_builtin;go_must (refine wpList_append_own_at _ rfl _ _ 32 rfl w.heap.size 5 i0 (.int .u8 0) 1 1 Tryz.underlying32 HI.out HZ0.out HZ1.out HZ2.out rfl (by decide) _ 3 (hd.map Extern.Stop.cell) rfl rC.out ⟨g,0,none⟩ 32 c2 (t.prev.map Extern.Stop.cell) rfl HNL.out QG.out JX.out (by unfold maxLen;omega) (by omega) (by omega) ?_));intro v' w3 hown hg _ hat;obtain ⟨A3,c3,rfl⟩:=eG hown;have sO:Hid (CB w.heap.size (.slice none 0 0) w (ai t (.slice A n c)) (hd++t.prev) A3 35 c3 w3):=ae (HC2.out.next (by unfold nJ;rw [List.map_append];exact hown) (by rw [aZ,HC2.out.len,Dn.out]) (uK.app0 hg hat));clear hown hg hat;have k1:=sO.out.row.2;have hlt1:=sO.out.row.1;go_wp2_with fail;refine (dR w.heap.size _ _ 1 _ _ n _ sO.out.len (by omega) (by omega) ⟨by omega,by omega⟩ sO.out.keep.size sO.out.own).mono ?_;rintro e w4 ⟨A4,n4,c4,l4,rfl,o4,k4⟩;have sV:=ae (sO.out.next o4 l4 k4);have HZL:Hid (∀k,((t.aS.take k).flatMap vF).length≤400):=ae (fun k=>by
  have:=NY vF t.aS 103 k (fun e he=>OB e (HF.out.aS e he).made (by obtain ⟨j,hj⟩:=List.getElem?_of_mem he;rw [HF.out.names j e hj,rZ];omega));have h2:=HF.out.num;omega)
 clear l4 o4 k4 k1 hlt1;have k1:=sV.out.row.2;have hlt1:=sV.out.row.1;go_wp2_with fail
 go_loopw [5,6] (fun b i wr=>GZ w.heap.size (.slice none 0 0) w (ai t (.slice A n c)) (fun k=>hd++t.prev++le n 1++(t.aS.take k).flatMap vF) n b i wr) (fun _ i _=>n - (intOf i).toNat)
 case atStart=>exact ⟨0,n4,c4,A4,Nat.zero_le _,rfl,by go_num,by simpa using sV.out⟩
 case round=>
  clear k1 hlt1;obtain ⟨k,n5,c5,A5,hk,rfl,rfl,hb⟩:=hrel;have HB:Hid (CB w.heap.size (.slice none 0 0) w (ai t (.slice A n c)) (hd++t.prev++le n 1++(t.aS.take k).flatMap vF) A5 n5 c5 wr):=ae hb;have hn5:n5≤436:=by
   have h1:=HB.out.len;have h2:=HZL.out k;rw [aZ,aZ,aC,sO.out.len] at h1;omega
  clear hb;obtain ⟨pre,hpre⟩:∃l,hd++t.prev++le n 1++(t.aS.take k).flatMap vF=l:=⟨_,rfl⟩;have DC:=ae hpre;rw [hpre] at HB;clear hpre;have k1:=HB.out.row.2;have hlt1:=HB.out.row.1;have hsz:=HB.out.keep.size;by_cases hlt:(k:Int)<(n:Int)
  ·have hkz:k<zs.length:=by rw [Dl.out];omega
   obtain ⟨x,hx⟩:∃x,zs[k]? =some x:=⟨_,dw hkz⟩;obtain ⟨b,off,rfl,nO,hcl⟩:=HA.out.row.there (by rw [dM];omega);have hxm:x.e∈t.aS:=by rw [HZ.out];exact List.mem_map_of_mem (fZ hx)
   have hzx:t.aS[k]? =some x.e:=by rw [HZ.out,List.getElem?_map,hx];rfl
   have hns:x.e.name.size=2:=by rw [HF.out.names k x.e hzx,rZ]
   obtain ⟨nm,hnm⟩:∃s,x.e.name=s:=⟨_,rfl⟩;rw [hnm] at hns;have gq:Hid (∀i u,x.cells.toList[i]? =some u→w.cell? ⟨b,off+k*9+i,none⟩=some u):=ae (aA.elem (s:=9) (f:=fun x:dD=>x.cells.toList) (fun _ _=>rfl) hcl k x hx);have HNS:=ae hns;have hz1:Z14 x.e.z:=(HF.out.aS _ hxm).made.z14;have HZ14:=ae hz1;have Vd:=ae (HA.out.each x (fZ hx));have HZX:=ae hzx;have XE:=ae hnm;have z0:wr.cell? ⟨b,off+k*9,none⟩=some (.string nm):=(HB.out.keep.jf.cell (p:=⟨b,off+k*9,none⟩) nO).trans (by rw [←hnm];exact gq.out 0 _ rfl);have z1:wr.cell? ⟨b,off+k*9+1,none⟩=some (I x.e.z.cal.aY):=(HB.out.keep.jf.cell (p:=⟨b,off+k*9+1,none⟩) nO).trans (gq.out 1 _ rfl);have z2:wr.cell? ⟨b,off+k*9+2,none⟩=some (.slice x.s.A x.e.z.cal.az.length x.s.a):=(HB.out.keep.jf.cell (p:=⟨b,off+k*9+2,none⟩) nO).trans (gq.out 2 _ rfl);have z3:wr.cell? ⟨b,off+k*9+3,none⟩=some (I x.e.z.cal.dP):=(HB.out.keep.jf.cell (p:=⟨b,off+k*9+3,none⟩) nO).trans (gq.out 3 _ rfl);have z4:wr.cell? ⟨b,off+k*9+4,none⟩=some (.slice x.s.B x.e.z.cal.rules.length x.s.b):=(HB.out.keep.jf.cell (p:=⟨b,off+k*9+4,none⟩) nO).trans (gq.out 4 _ rfl);have z5:wr.cell? ⟨b,off+k*9+5,none⟩=some (I x.e.z.start):=(HB.out.keep.jf.cell (p:=⟨b,off+k*9+5,none⟩) nO).trans (gq.out 5 _ rfl);have z6:wr.cell? ⟨b,off+k*9+6,none⟩=some (.slice x.s.C x.e.z.trans.length x.s.c):=(HB.out.keep.jf.cell (p:=⟨b,off+k*9+6,none⟩) nO).trans (gq.out 6 _ rfl);have z7:wr.cell? ⟨b,off+k*9+7,none⟩=some (I x.e.z.hor):=(HB.out.keep.jf.cell (p:=⟨b,off+k*9+7,none⟩) nO).trans (gq.out 7 _ rfl);have z8:wr.cell? ⟨b,off+k*9+8,none⟩=some (.slice x.s.D x.e.z.aK.length x.s.d):=(HB.out.keep.jf.cell (p:=⟨b,off+k*9+8,none⟩) nO).trans (gq.out 8 _ rfl);have f1:fits ((nm.size:Nat):Int):=⟨by omega,by omega⟩;clear hx hcl hxm hkz hzx hns hz1;go_wp2_with fail;refine (dR w.heap.size _ _ 1 _ _ (nm.size:Nat) _ HB.out.len (by omega) (by omega) f1 HB.out.keep.size HB.out.own).mono ?_;rintro e w6 ⟨A6,n6,d6,l6,rfl,o6,k6⟩;have sQ:=ae (HB.out.next o6 l6 k6);have hn6:n6≤440:=by
    have h1:=HB.out.len;rw [aZ,aC] at l6;omega
   have VT:=sQ.out.keep.size;obtain ⟨pre2,Sr⟩:∃l,pre++le (nm.size:Nat) 1=l:=⟨_,rfl⟩;have HP2:=ae Sr;rw [Sr] at sQ;have qA:=ae sQ.out.own;clear l6 o6 k6 k1 hlt1 Sr z0 z1 z2 z3 z4 z5 z6 z7 z8;have k1:=sQ.out.row.2;have hlt1:=sQ.out.row.1;have z0:w6.cell? ⟨b,off+k*9,none⟩=some (.string nm):=(sQ.out.keep.jf.cell (p:=⟨b,off+k*9,none⟩) nO).trans (by rw [←hnm];exact gq.out 0 _ rfl);have z1:w6.cell? ⟨b,off+k*9+1,none⟩=some (I x.e.z.cal.aY):=(sQ.out.keep.jf.cell (p:=⟨b,off+k*9+1,none⟩) nO).trans (gq.out 1 _ rfl);have z2:w6.cell? ⟨b,off+k*9+2,none⟩=some (.slice x.s.A x.e.z.cal.az.length x.s.a):=(sQ.out.keep.jf.cell (p:=⟨b,off+k*9+2,none⟩) nO).trans (gq.out 2 _ rfl);have z3:w6.cell? ⟨b,off+k*9+3,none⟩=some (I x.e.z.cal.dP):=(sQ.out.keep.jf.cell (p:=⟨b,off+k*9+3,none⟩) nO).trans (gq.out 3 _ rfl);have z4:w6.cell? ⟨b,off+k*9+4,none⟩=some (.slice x.s.B x.e.z.cal.rules.length x.s.b):=(sQ.out.keep.jf.cell (p:=⟨b,off+k*9+4,none⟩) nO).trans (gq.out 4 _ rfl);have z5:w6.cell? ⟨b,off+k*9+5,none⟩=some (I x.e.z.start):=(sQ.out.keep.jf.cell (p:=⟨b,off+k*9+5,none⟩) nO).trans (gq.out 5 _ rfl);have z6:w6.cell? ⟨b,off+k*9+6,none⟩=some (.slice x.s.C x.e.z.trans.length x.s.c):=(sQ.out.keep.jf.cell (p:=⟨b,off+k*9+6,none⟩) nO).trans (gq.out 6 _ rfl);have z7:w6.cell? ⟨b,off+k*9+7,none⟩=some (I x.e.z.hor):=(sQ.out.keep.jf.cell (p:=⟨b,off+k*9+7,none⟩) nO).trans (gq.out 7 _ rfl);have z8:w6.cell? ⟨b,off+k*9+8,none⟩=some (.slice x.s.D x.e.z.aK.length x.s.d):=(sQ.out.keep.jf.cell (p:=⟨b,off+k*9+8,none⟩) nO).trans (gq.out 8 _ rfl);go_wp2_with (at_builtin;go_must (refine CY rfl _ _ rfl w.heap.size _ n6 (pre2.map Extern.Stop.cell) rfl qA.out nm rfl (by have:=HNS.out;omega) (by omega) ?_));intro v' w7 hown hg hat;obtain ⟨A7,d7,rfl⟩:=eG hown;have JG:Hid (CB w.heap.size (.slice none 0 0) w (ai t (.slice (some ⟨b,off,none⟩) n c)) (pre2++nm.data.toList) A7 (n6+nm.size) d7 w7):=ae (sQ.out.next (by unfold nJ;rw [List.map_append];exact hown) (by rw [aZ,sQ.out.len,Array.length_toList];rfl) (uK.app0 hg hat));clear hown hg hat k1 hlt1 z0 z1 z2 z3 z4 z5 z6 z7 z8;have k1:=JG.out.row.2;have hlt1:=JG.out.row.1;have z0:w7.cell? ⟨b,off+k*9,none⟩=some (.string nm):=(JG.out.keep.jf.cell (p:=⟨b,off+k*9,none⟩) nO).trans (by rw [←hnm];exact gq.out 0 _ rfl);have z1:w7.cell? ⟨b,off+k*9+1,none⟩=some (I x.e.z.cal.aY):=(JG.out.keep.jf.cell (p:=⟨b,off+k*9+1,none⟩) nO).trans (gq.out 1 _ rfl);have z2:w7.cell? ⟨b,off+k*9+2,none⟩=some (.slice x.s.A x.e.z.cal.az.length x.s.a):=(JG.out.keep.jf.cell (p:=⟨b,off+k*9+2,none⟩) nO).trans (gq.out 2 _ rfl);have z3:w7.cell? ⟨b,off+k*9+3,none⟩=some (I x.e.z.cal.dP):=(JG.out.keep.jf.cell (p:=⟨b,off+k*9+3,none⟩) nO).trans (gq.out 3 _ rfl);have z4:w7.cell? ⟨b,off+k*9+4,none⟩=some (.slice x.s.B x.e.z.cal.rules.length x.s.b):=(JG.out.keep.jf.cell (p:=⟨b,off+k*9+4,none⟩) nO).trans (gq.out 4 _ rfl);have z5:w7.cell? ⟨b,off+k*9+5,none⟩=some (I x.e.z.start):=(JG.out.keep.jf.cell (p:=⟨b,off+k*9+5,none⟩) nO).trans (gq.out 5 _ rfl);have z6:w7.cell? ⟨b,off+k*9+6,none⟩=some (.slice x.s.C x.e.z.trans.length x.s.c):=(JG.out.keep.jf.cell (p:=⟨b,off+k*9+6,none⟩) nO).trans (gq.out 6 _ rfl);have z7:w7.cell? ⟨b,off+k*9+7,none⟩=some (I x.e.z.hor):=(JG.out.keep.jf.cell (p:=⟨b,off+k*9+7,none⟩) nO).trans (gq.out 7 _ rfl);have z8:w7.cell? ⟨b,off+k*9+8,none⟩=some (.slice x.s.D x.e.z.aK.length x.s.d):=(JG.out.keep.jf.cell (p:=⟨b,off+k*9+8,none⟩) nO).trans (gq.out 8 _ rfl);go_wp2_with fail;refine (Ui w.heap.size (n6+nm.size) d7 A7 _ x.e.z x.s w7 JG.out.len (by have:=HNS.out;omega) HZ14.out (Vd.out.keep JG.out.keep.jf) JG.out.keep.size JG.out.own).mono ?_;rintro e w8 ⟨A8,n8,d8,l8,rfl,o8,k8⟩;have HC8:=ae (JG.out.next o8 l8 k8);clear l8 o8 k8 k1 hlt1 z0 z1 z2 z3 z4 z5 z6 z7 z8;go_wp2_with fail;go_roundw
   case rel=>exact ⟨k+1,n8,d8,A8,by omega,rfl,by go_num,by
    have hc:=HC8.out;rw [←HP2.out,←DC.out] at hc;show CB _ _ _ _ (_++(t.aS.take (k+1)).flatMap vF) _ _ _ _;rw [qM _ _ _ _ HZX.out,show vF x.e=le (nm.size:Nat) 1++(nm.data.toList++JB x.e.z) by unfold vF;rw [XE.out]];simpa [List.append_assoc] using hc⟩
   case measure=>simp [intOf];omega
  ·have HK:Hid (k=n):=ae (by omega);go_wp2_with fail;go_ret2;have hb:=HB.out;have e1:pre=xC t:=by
    rw [←DC.out,HK.out,List.take_of_length_le (by rw [HZ.out,List.length_map,Dl.out];exact Nat.le_refl _),←HHD.out];simp [xC,HZ.out,Dl.out,List.append_assoc]
   rw [e1] at hb;exact ⟨A5,n5,c5,hb.len,rfl,hb.own,hb.keep.jf⟩
end Go.Proofs.YtdibbemgpikgjaaGreatDoor
namespace Go.Proofs.YtdibbemgpikgjaaGreatDoor
open Go Go.RowKit
section
variable {P:Program} {ops:Array Oper} {a:Act} {w:World} {rest:List Oper} {o:Oper}
theorem zU {Q:Act→Prop} (hw:Region.wanted o (yielded ops a.tmps)=true) (ty:TypeId) (x:Operand) (ho:o.op= .load ty x) (g:Nat) (hx:a.eval x= .pointer (some ⟨g,0,none⟩)) (cs:Array Value) (hr:fH w g cs)
  (d:TypeDesc) (hu:P.underlying ty=some d) (hd:d.isRow=true) (hi:(P.info? ty).map (·.size)=some cs.size)
  (h:wpStill P ops w Q rest (a.put o.dst (.agg cs))):wpStill P ops w Q (o::rest) a:=by
 refine wpStill_step fun K hK=>?_;rw [if_pos hw];have hc:w.rangeAt g 0 cs.toList:=fun j v hv=>by rw [Nat.zero_add,hr.2 j];simpa using hv
 unfold Oper.still execOp;simp only [ho,hx,Instr.loadAt,Instr.sureAddr,Sem.run_bind,Sem.run_pure,Result.andThen_ok,run_loadVar_mid w g 0 ty cs.toList d hc hu hd (by rw [hi];simp)];exact ⟨rfl,hK _ (by simpa using h)⟩
end
def cD (bs:List UInt8):Array Value:=(aj bs).toArray
theorem lH (bs:List UInt8):(cD bs).size=bs.length:=by simp [cD,aj]
theorem vZ (bs:List UInt8):(cD bs).all (·.oneCell')=true:=by
 rw [Array.all_eq_true_iff_forall_mem];intro v hv;have h:v∈bs.map Extern.Stop.cell:=by simpa [cD,aj] using hv
 obtain ⟨x,_,rfl⟩:=List.mem_map.1 h;rfl
theorem Zo (bs:List UInt8) (i:Nat) (x:UInt8):(cD bs).setIfInBounds i (Extern.Stop.cell x)=cD (bs.set i x):=by
 simp [cD,aj,List.map_set]
theorem Zm (bs:List UInt8) (i:Nat) (h:i<bs.length):(cD bs)[i]? =some (Extern.Stop.cell (bs[i]?.getD 0)):=by
 simp [cD,aj,h]
def d32:List UInt8:=List.replicate 32 0
theorem um:(Tryz.prog.info? 23).map (fun i=>(i.zero,i.size))=some (some (.agg (cD d32)),(cD d32).size):=by kernel_rfl
theorem Af:d32.length=32:=by simp [d32]
def X4:List Int:= [1779033703,3144134277,1013904242,2773480762,1359893119,2600822924,528734635,1541459225]
structure DI (w:World) (zs:List Int) (W:World):Prop where
 r:AV w.heap.size 23 (cD d32) W
 s:AV (w.heap.size+1) 117 (au zs) W
 lo:Below w.heap.size w W
theorem DI.start (w:World) (z:List Int):DI w X4 (((w.alloc (.cells (cD d32) 23)).alloc (.cells (au z) 117)).setRow (w.heap.size+1) (au X4)):=
 ⟨⟨(setRow_other _ _ _ _ (by omega)).trans (heap_alloc2_old w _ _)⟩,⟨setRow_heap _ _ _ _ _ _ (heap_alloc2_new w _ _)⟩,aB (ah (ag w _) (ag _ _)) (Nat.le_succ _) _⟩
theorem DI.grow {w W W':World} {zs:List Int} (h:DI w zs W) (hb:Below W.heap.size W W'):DI w zs W':=⟨h.r.below hb,h.s.below hb,ah h.lo hb⟩
theorem DI.row {w W:World} {zs:List Int} (h:DI w zs W) (ds:List Int):DI w ds (W.setRow (w.heap.size+1) (au ds)):=
 ⟨h.r.rV (by omega) _,h.s.pG _,aB h.lo (Nat.le_succ _) _⟩
theorem DI.drew {w W:World} {zs:List Int} (h:DI w zs W):DI w zs W.drew:=⟨⟨h.r.var⟩,⟨h.s.var⟩,⟨h.lo.os,h.lo.tape,h.lo.output,h.lo.size,h.lo.block⟩⟩
theorem DI.far {w W:World} {zs:List Int} (h:DI w zs W) (b:Nat) (hb:w.heap.size+1<b) (o:Nat) (v:Value):DI w zs (W.setCell ⟨b,o,none⟩ v):=
 ⟨h.r.far (by omega) _ _,h.s.far (by omega) _ _,h.lo.setCell (p:=⟨b,o,none⟩) (show w.heap.size≤b by omega) _⟩
theorem DI.Zu {w W:World} {zs:List Int} (h:DI w zs W) (b:Nat) (hb:w.heap.size+1<b) (cs:Array Value):DI w zs (W.setRow b cs):=
 ⟨h.r.rV (by omega) _,h.s.rV (by omega) _,aB h.lo (by omega) _⟩
theorem EI {w:World} {lo n c:Nat} {A:Option Addr} {bs:List UInt8} (h:nJ lo w A n c bs) (h0:0<n):∃g cur,A=some ⟨g,0,none⟩∧lo≤g∧n≤c∧c≤maxLen∧AV g 5 cur w∧∀j,j<n→cur[j]? =some (Extern.Stop.cell (bs[j]?.getD 0)):=by
 have hl:bs.length=n:=by have:=h.1;rw [List.length_map] at this;omega
 rcases h.2 with ⟨_,hn⟩|⟨g,cap,cur,hv,hlo,hh,hnc,hcm,_,ht⟩
 ·omega
 ·injection hv with h1 _ h3;subst h3;refine ⟨g,cur,h1,hlo,hnc,hcm,⟨hh⟩,fun j hj=>?_⟩;have e:(cur.toList.take (n*1))[j]? =some (Extern.Stop.cell (bs[j]?.getD 0)):=by rw [ht,List.getElem?_map,dw (by omega)];rfl
  rw [List.getElem?_take_of_lt (by omega)] at e;simpa using e
theorem kF {ops:Array Oper} {rest:List Oper} {o:Oper} {a:Act} {Q:Exit→Act→World→Prop} {w:World} (hgd:o.guard=none) (sl x:Operand)
  (ho:o.op= .call {callee:= .builtin .append,args:= #[sl,x],argTypes:= #[32,32]}) (lo n c:Nat) (A:Option Addr) (bs:List UInt8) (hs:a.eval sl= .slice A n c) (hown:nJ lo w A n c bs)
  (B:Nat) (A2:Option Addr) (m c2:Nat) (ds:List UInt8) (hx:a.eval x= .slice A2 m c2) (hl:ds.length=m) (hm:0<m) (hc:aA w B A2 (ds.map Extern.Stop.cell)) (hlen:n+m≤1000000000) (hbase:lo≤w.heap.size)
  (h:∀A' c' w',nJ lo w' A' (n+m) c' (bs++ds)→uK (.slice A n c) w (.slice A' (n+m) c') w'→wpList Tryz.prog ops Q rest (a.put o.dst (.slice A' (n+m) c')) w'):wpList Tryz.prog ops Q (o::rest) a w:=by
 obtain ⟨i0,hi,hz0,hz1,hz2⟩:=info_parts kG;obtain ⟨b,off,rfl,_,hcl⟩:=hc.there (by rw [List.length_map];omega);refine wpList_append_own_at _ hgd sl x 32 ho lo 5 i0 (.int .u8 0) 1 1 Tryz.underlying32 hi hz0 hz1 hz2 rfl (by decide) _ n (bs.map Extern.Stop.cell) hs hown ⟨b,off,none⟩ m c2 (ds.map Extern.Stop.cell) hx (by rw [List.length_map];omega) (fun j u hu=>by rw [show (⟨b,off,none⟩:Addr).add j=⟨b,off+j,none⟩ by unfold Addr.add;split<;>simp_all];exact hcl j u hu)
  (fun u hu=>by obtain ⟨y,_,rfl⟩:=List.mem_map.1 hu;rfl) (by unfold maxLen;omega) (by omega) hbase ?_
 intro v' w' hown' hg _ hat;obtain ⟨A',c',rfl⟩:=eG hown';exact h A' c' w' (by unfold nJ;rw [List.map_append];exact hown') (uK.app0 hg hat)
structure V2 (w:World) (t:TypeId) (cs:Array Value) (t2:TypeId) (ds:Array Value) (W:World):Prop where
 s:AV w.heap.size t cs W
 r:AV (w.heap.size+1) t2 ds W
 lo:Below w.heap.size w W
theorem V2.start (w:World) (t:TypeId) (cs:Array Value) (t2:TypeId) (ds:Array Value):V2 w t cs t2 ds ((w.alloc (.cells cs t)).alloc (.cells ds t2)):=
 ⟨⟨heap_alloc2_old w _ _⟩,⟨heap_alloc2_new w _ _⟩,ah (ag w _) (ag _ _)⟩
theorem V2.Iz {w W W':World} {t t2:TypeId} {cs ds:Array Value} {L:Nat} (h:V2 w t cs t2 ds W) (hb:Below L W W') (hL:w.heap.size+1<L):V2 w t cs t2 ds W':=
 ⟨⟨(hb.block _ (by omega)).trans h.s.var⟩,⟨(hb.block _ (by omega)).trans h.r.var⟩,h.lo.trans (hb.mono (by omega))⟩
theorem V2.grow {w W W':World} {t t2:TypeId} {cs ds:Array Value} (h:V2 w t cs t2 ds W) (hb:Below W.heap.size W W'):V2 w t cs t2 ds W':=h.Iz hb h.r.lt
structure jW (M:Nat) (w:World) (rb:Nat) (rest:List UInt8):Prop where
 at_:∃bb off c,w.heap[rb]? =some (.cells #[.slice (some ⟨bb,off,none⟩) rest.length c] 135 (0,0))∧rest.length≤c∧c≤9223372036854775807∧bb<M∧∀j,j<rest.length→w.cell? ⟨bb,off+j,none⟩=some (Extern.Stop.cell (rest[j]?.getD 0))
 lo:M≤rb
theorem jW.lt {M:Nat} {w:World} {rb:Nat} {rest:List UInt8} (h:jW M w rb rest):rb<w.heap.size:=by
 obtain ⟨bb,off,c,h1,_⟩:=h.at_;exact (bT.1 h1).1
theorem jW.of {M:Nat} {w w':World} {rb:Nat} {rest:List UInt8} (h:jW M w rb rest) (h1:w'.heap[rb]? =w.heap[rb]?) (h2:∀k,k<M→w'.heap[k]? =w.heap[k]?):jW M w' rb rest:=by
 obtain ⟨bb,off,c,g1,g2,g3,g4,g5⟩:=h.at_;exact ⟨⟨bb,off,c,h1.trans g1,g2,g3,g4,fun j hj=>(World.cell?_of_block (a:=⟨bb,off+j,none⟩) (h2 bb g4)).trans (g5 j hj)⟩,h.lo⟩
theorem jW.below {M B:Nat} {w w':World} {rb:Nat} {rest:List UInt8} (h:jW M w rb rest) (hb:Below B w w') (hM:rb<B):jW M w' rb rest:=
 h.of (hb.block rb hM) fun k hk=>hb.block k (by have:=h.lo;omega)
theorem jW.drew {M:Nat} {w:World} {rb:Nat} {rest:List UInt8} (h:jW M w rb rest):jW M w.drew rb rest:=h.of rfl fun _ _=>rfl
def GotT (M:Nat) (w:World) (rb n:Nat) (rest:List UInt8) (e:Ending) (w':World):Prop:=
 ∃bb off c,e= .returned (.slice (some ⟨bb,off,none⟩) n c)∧n≤c∧c≤9223372036854775807∧bb<M∧(∀j,j<n→w'.cell? ⟨bb,off+j,none⟩=some (Extern.Stop.cell ((rest.take n)[j]?.getD 0)))∧jW M w' rb (rest.drop n)∧l7 rb w w'
theorem Ot {M:Nat} {w:World} {rb bb off' c' n:Nat} {rest:List UInt8} {v:Value} (hM:M≤rb) (h1:w.heap[rb]? =some (.cells #[v] 135 (0,0))) (h2:rest.length - n≤c') (h3:c'≤9223372036854775807) (h4:bb<M)
  (h5:∀j,j<(rest.drop n).length→w.cell? ⟨bb,off'+j,none⟩=some (Extern.Stop.cell ((rest.drop n)[j]?.getD 0))):
  jW M (w.setCell ⟨rb,0,none⟩ (.slice (some ⟨bb,off',none⟩) (rest.length - n) c')) rb (rest.drop n)∧l7 rb w (w.setCell ⟨rb,0,none⟩ (.slice (some ⟨bb,off',none⟩) (rest.length - n) c')):=by
 have hd:(rest.drop n).length=rest.length - n:=List.length_drop;refine ⟨⟨⟨bb,off',c',?_,by omega,h3,h4,fun j hj=>?_⟩,hM⟩,⟨rfl,rfl,rfl,by simp [World.setCell],fun k _ hk=>heap_setCell_other w ⟨rb,0,none⟩ k _ hk⟩⟩
 ·rw [heap_setCell_same w rb 0 _ _ _ h1,hd];rfl
 ·exact (World.cell?_of_block (a:=⟨bb,off'+j,none⟩) (heap_setCell_other w ⟨rb,0,none⟩ bb _ (by show bb≠rb;omega))).trans (h5 j hj)
theorem wM (M:Nat) (w:World) (rb n:Nat) (rest:List UInt8) (hr:jW M w rb rest) (hn:n≤rest.length):
  Calls Tryz.prog 179 #[.pointer (some ⟨rb,0,none⟩),I n] w (GotT M w rb n rest):=by
 obtain ⟨⟨bb,off,c,h1,h2,h3,h4,h5⟩,hM⟩:=hr;have hc0:w.cell? ⟨rb,0,none⟩=some (.slice (some ⟨bb,off,none⟩) rest.length c):=cell_of_row w rb 0 _ _ _ h1;have hf0:=frozen_of_row w rb 0 _ _ h1;obtain ⟨m,hm⟩:∃m,rest.length=m:=⟨_,rfl⟩;have HM:=ae hm;have HT:Hid (∀j,j<n→w.cell? ⟨bb,off+j,none⟩=some (Extern.Stop.cell ((rest.take n)[j]?.getD 0))):=ae (fun j hj=>by rw [h5 j (by omega),List.getElem?_take_of_lt (by omega)]);have H5:=ae h5;have H1:=ae h1;rw [hm] at hc0 hn h2;clear h1 h5 hm;have n1:¬(m:Int)<(n:Int):=by omega
 have n2:(0:Int)≤(n:Int):=by omega
 by_cases hcn:c=n
 ·have hmn:m=n:=by omega
  subst hmn;subst hcn;have hS:=Ot (off':=off) (c':=0) (n:=c) (v:= .slice (some ⟨bb,off,none⟩) rest.length c) hM H1.out (by rw [HM.out];omega) (by omega) h4 (fun j hj=>by rw [List.length_drop,HM.out] at hj;omega);rw [HM.out,Nat.sub_self] at hS;have su:=ae hS;have HT2:Hid (∀j,j<c→(w.setCell ⟨rb,0,none⟩ (.slice (some ⟨bb,off,none⟩) 0 0)).cell? ⟨bb,off+j,none⟩=some (Extern.Stop.cell ((rest.take c)[j]?.getD 0))):=ae fun j hj=>(World.cell?_of_block (a:=⟨bb,off+j,none⟩) (heap_setCell_other w _ bb _ (by show bb≠rb;omega))).trans (HT.out j hj);clear hS;go_enter Tryz.func179,Tryz.ntmps179
  go_wp2
  go_ret;exact ⟨_,_,_,rfl,Nat.le_refl _,h3,h4,HT2.out,su.out.1,su.out.2⟩
 ·have hcn2:¬n=c:=fun h=>hcn h.symm;have hS:=Ot (off':=off+n) (c':=c - n) (n:=n) (v:= .slice (some ⟨bb,off,none⟩) rest.length c) hM H1.out (by rw [HM.out];omega) (by omega) h4 (fun j hj=>by
   rw [List.length_drop,HM.out] at hj;rw [Nat.add_assoc,H5.out (n+j) (by rw [HM.out];omega),List.getElem?_drop])
  rw [HM.out] at hS;have su:=ae hS;have HT2:Hid (∀j,j<n→(w.setCell ⟨rb,0,none⟩ (.slice (some ⟨bb,off+n,none⟩) (m - n) (c - n))).cell? ⟨bb,off+j,none⟩=some (Extern.Stop.cell ((rest.take n)[j]?.getD 0))):=ae fun j hj=>(World.cell?_of_block (a:=⟨bb,off+j,none⟩) (heap_setCell_other w _ bb _ (by show bb≠rb;omega))).trans (HT.out j hj);clear hS;go_enter Tryz.func179,Tryz.ntmps179
  go_wp2
  go_ret;exact ⟨_,_,_,rfl,by omega,h3,h4,HT2.out,su.out.1,su.out.2⟩
def hvs (s:Int) (l:List (Nat×UInt8)):Int:=l.foldl (fun s x=>s*256+(x.2.toNat:Int)) s
theorem or_mul (a b:Nat) (h:a<256):(b*256) ||| a=b*256+a:=by
 rw [show b*256=b <<< 8 from by rw [Nat.shiftLeft_eq],Nat.shiftLeft_add_eq_or_of_lt (by omega)]
theorem PZ (s:Int) (c:UInt8):TY s c=(s*256+(c.toNat:Int))%18446744073709551616:=by
 unfold TY;have hc:=c.toNat_lt;obtain ⟨b,hb⟩:∃b:Nat,IntKind.u64.wrap (s*256)=((b*256:Nat):Int):=by
  rw [show IntKind.u64.wrap (s*256)=(s*256)%18446744073709551616 by simp [IntKind.wrap,IntKind.bits,IntKind.signed]];exact ⟨((s*256)%18446744073709551616 / 256).toNat,by omega⟩
 have hw:((b*256:Nat):Int)=(s*256)%18446744073709551616:=by rw [←hb];simp [IntKind.wrap,IntKind.bits,IntKind.signed]
 rw [hb,u64_or_nat _ _ (by omega) (by omega),or_mul _ _ (by omega)];omega
theorem Mc (s:Int) (c:UInt8):zh s c=wrap64 (s*256+(c.toNat:Int)):=by
 have hc:=c.toNat_lt;have h1:=PZ s c;unfold TY at h1;have key:∀x y:Int,bits BinOp.or IntKind.i64 (wrap64 x) y=wrap64 (bits BinOp.or IntKind.u64 (IntKind.u64.wrap x) y):=by
  intro x y;have e:BitVec.ofInt 64 (wrap64 x)=BitVec.ofInt 64 (IntKind.u64.wrap x):=by
   apply BitVec.eq_of_toInt_eq;rw [BitVec.toInt_ofInt,BitVec.toInt_ofInt,show IntKind.u64.wrap x=x%18446744073709551616 by simp [IntKind.wrap,IntKind.bits,IntKind.signed]];unfold wrap64;simp only [Int.bmod];omega
  show IntKind.i64.wrap ((BitVec.ofInt 64 (wrap64 x) ||| BitVec.ofInt 64 y).toNat:Int)=wrap64 (IntKind.u64.wrap ((BitVec.ofInt 64 (IntKind.u64.wrap x) ||| BitVec.ofInt 64 y).toNat:Int));rw [e];have hb:=(BitVec.ofInt 64 (IntKind.u64.wrap x) ||| BitVec.ofInt 64 y).isLt;obtain ⟨n,hn⟩:∃n,(BitVec.ofInt 64 (IntKind.u64.wrap x) ||| BitVec.ofInt 64 y).toNat=n:=⟨_,rfl⟩;rw [hn] at hb ⊢;rw [IntKind.wrap_i64,show IntKind.u64.wrap (n:Int)=(n:Int)%18446744073709551616 by simp [IntKind.wrap,IntKind.bits,IntKind.signed]];unfold wrap64;omega
 unfold zh;rw [key,h1];unfold wrap64;omega
theorem NZ (l:List (Nat×UInt8)):∀s t:Int,s=wrap64 t→l.foldl (fun s x=>zh s x.2) s=wrap64 (hvs t l):=by
 induction l with
 |nil=>intro s t h;exact h
 |cons x l ih=>
  intro s t h;rw [List.foldl_cons];refine ih _ (t*256+(x.2.toNat:Int)) ?_;rw [Mc];unfold wrap64 at*;omega
theorem rF (n:Int):((byteOf n).toNat:Int)=n%256:=by
 have h:=dK n;unfold Extern.Stop.cell at h;injection h
theorem hvs8 (x:Int) (hx:fits x):wrap64 (hvs 0 (upto (bk (le x 8)) 8))=x:=by
 have e:hvs 0 (upto (bk (le x 8)) 8)=(((((((((0*256+((byteOf (x / 256 / 256 / 256 / 256 / 256 / 256 / 256)).toNat:Int))*256+((byteOf (x / 256 / 256 / 256 / 256 / 256 / 256)).toNat:Int))*256+((byteOf (x / 256 / 256 / 256 / 256 / 256)).toNat:Int))*256+((byteOf (x / 256 / 256 / 256 / 256)).toNat:Int))*256+((byteOf (x / 256 / 256 / 256)).toNat:Int))*256+((byteOf (x / 256 / 256)).toNat:Int))*256+((byteOf (x / 256)).toNat:Int))*256+((byteOf x).toNat:Int))):=rfl;rw [e];simp only [rF];unfold fits at hx;unfold wrap64;omega
theorem hvs4 (x:Int) (h0:0≤x) (h1:x<4294967296):wrap64 (hvs 0 (upto (bk (le x 4)) 4))=x:=by
 have e:hvs 0 (upto (bk (le x 4)) 4)=((((0*256+((byteOf (x / 256 / 256 / 256)).toNat:Int))*256+((byteOf (x / 256 / 256)).toNat:Int))*256+((byteOf (x / 256)).toNat:Int))*256+((byteOf x).toNat:Int)):=rfl;rw [e];simp only [rF];unfold wrap64;omega
theorem hvs1 (x:Int) (h0:0≤x) (h1:x<256):wrap64 (hvs 0 (upto (bk (le x 1)) 1))=x:=by
 have e:hvs 0 (upto (bk (le x 1)) 1)=0*256+((byteOf x).toNat:Int):=rfl;rw [e];simp only [rF];unfold wrap64;omega
theorem WE (x:Int) (n:Nat) (R:List UInt8):(le x n++R).take n=le x n:=by
 rw [List.take_append_of_le_length (by rw [aC];exact Nat.le_refl n),List.take_of_length_le (by rw [aC];exact Nat.le_refl n)]
theorem NU (x:Int) (n:Nat) (R:List UInt8):(le x n++R).drop n=R:=by
 rw [List.drop_append_of_le_length (by rw [aC];exact Nat.le_refl n),List.drop_of_length_le (by rw [aC];exact Nat.le_refl n)];rfl
theorem Gs (x:Int) (n:Nat) (R:List UInt8):tk (le x n++R) false n=le x n∧tkR (le x n++R) false n=R∧tkB (le x n++R) false n=false:=by
 have e:tkB (le x n++R) false n=false:=by
  unfold tkB;rw [Bool.false_or];exact decide_eq_false (by rw [aZ,aC];omega)
 unfold tk tkR;rw [e];exact ⟨WE x n R,NU x n R,rfl⟩
theorem X7 (x:Int) (hx:fits x) (R:List UInt8):PG (le x 8++R) false 8=x:=by
 unfold PG wP;rw [(Gs x 8 R).1,aC,NZ _ 0 0 (by unfold wrap64;omega)];exact hvs8 x hx
theorem rdN_4 (x:Int) (h0:0≤x) (h1:x<4294967296) (R:List UInt8):PG (le x 4++R) false 4=x:=by
 unfold PG wP;rw [(Gs x 4 R).1,aC,NZ _ 0 0 (by unfold wrap64;omega)];exact hvs4 x h0 h1
theorem qh (x:Int) (h0:0≤x) (h1:x<256) (R:List UInt8):PG (le x 1++R) false 1=x:=by
 unfold PG wP;rw [(Gs x 1 R).1,aC,NZ _ 0 0 (by unfold wrap64;omega)];exact hvs1 x h0 h1
end Go.Proofs.YtdibbemgpikgjaaGreatDoor
