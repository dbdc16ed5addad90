/- The texts Kv, La, Qh, Lb, TrS, in this order. -/
import Derived.Test.YtdibbemgpikgjaaGreatW00
import Derived.Test.YtdibbemgpikgjaaGreatW01
import Derived.Test.YtdibbemgpikgjaaGreatW02
import Derived.Test.YtdibbemgpikgjaaGreatW08
import Derived.Test.YtdibbemgpikgjaaGreatW09
import Derived.Test.YtdibbemgpikgjaaGreatW14
import Derived.Test.YtdibbemgpikgjaaGreatW19
import Derived.Test.YtdibbemgpikgjaaGreatW20
set_option maxRecDepth 10000
set_option maxHeartbeats 8000000
namespace Go.Proofs.YtdibbemgpikgjaaGreat
open Go Go.RowKit
theorem OD {α β:Type} (f:α→List β) (l:List α) (s k:Nat) (h:∀x∈l,(f x).length≤s):((l.take k).flatMap f).length≤l.length*s:=by
 induction l generalizing k with
 |nil=>simp
 |cons x l ih=>
  cases k with
  |zero=>simp
  |succ k=>
   rw [List.take_succ_cons,List.flatMap_cons,bF,List.length_cons,Nat.succ_mul];have h1:=h x (List.mem_cons_self ..);have h2:=ih k (fun y hy=>h y (List.mem_cons_of_mem _ hy));omega
def AX (e:Ze):List UInt8:=le e.name.size 1++(e.name.data.toList++QR e.z)
def EH (t:Tb):List UInt8:= [byteOf t.bC,byteOf t.version,byteOf t.aH]++(t.prev++(le t.aK.length 1++t.aK.flatMap AX))
theorem Pz (e:Ze) (h:tZ e.z) (hn:e.name.size≤2):(AX e).length≤103:=by
 have h1:=Vs e.z h;have h2:e.name.data.toList.length=e.name.size:=by rw [Array.length_toList];rfl
 simp only [AX,bF,aA];omega
theorem CB.lit {w W:World} {cs:Array Value} (hr:Row W w.heap.size cs) (hb:Below w.heap.size w W) (bs:List UInt8) (n:Nat) (hl:bs.length=n) (hn:n≤1000) (vs:Array Value) (hv:vs.toList=bs.map Extern.Stop.cell):CB w.heap.size (.slice none 0 0) w cs bs (some ⟨W.heap.size,0,none⟩) n n (W.alloc (.cells vs 5)):=by
 have hlt:=hr.1;have ho:(W.alloc (.cells vs 5)).ownsRow W.heap.size 5 1 (.slice (some ⟨W.heap.size,0,none⟩) n n) n vs.toList:=World.ownsRow_lit W vs n (Nat.le_refl _) (by unfold maxLen;omega) (by rw [←Array.length_toList,hv,List.length_map,hl,Nat.mul_one]);have hb2:Below w.heap.size w (W.alloc (.cells vs 5)):=ah hb (ag W _);refine ⟨hr.keep (ag W _),oq.lower (lo:=W.heap.size) (by rw [hv] at ho;exact ho) hb.size,hl,⟨hb2.os,hb2.tape,hb2.output,hb2.size,fun k hk _=>hb2.block k hk, .inr ⟨W.heap.size,rfl,hb.size⟩⟩,fun e=>?_⟩;have h:w.heap.size=W.heap.size:=Option.some.inj e;omega
def ZE (w:World) (t:Tb) (e:Ending) (w':World):Prop:=∃A n c,(EH t).length=n∧e= .returned (.tuple #[.slice A n c, .int .i64 0])∧oq w.heap.size w' A n c (EH t)∧Below w.heap.size w w'
attribute [local go_sem] jm jo jq bK
theorem Fh (x:fH) (w:World) (hx:lS w w.heap.size x) (h:IB x.t):
  Calls Tryz.prog 44 #[.agg (ai x.t (.slice x.A x.zs.length x.c))] w (ZE w x.t):=by
 obtain ⟨i0,hi,hz0,hz1,hz2⟩:=info_parts lZ;have HI:=ae hi;have HZ0:=ae hz0;have HZ1:=ae hz1;have HZ2:=ae hz2;clear hi hz0 hz1 hz2;have QZ:Hid (∀W,Below w.heap.size w W→Calls Tryz.prog 66 #[.agg (ai x.t (.slice x.A x.zs.length x.c))] W (Gives (.int .i64 0) W)):=ae fun W hb=>QJ x W (hx.grow hb) h;obtain ⟨t,A,c,zs⟩:=x;obtain ⟨hz,hp,hm,hA⟩:=hx;simp only at hz hp hm hA h QZ ⊢;obtain ⟨n,hn⟩:∃n,zs.length=n:=⟨_,rfl⟩;rw [hn] at QZ ⊢;have HB0:=ae (ag w (.cells (ai t (.slice A n c)) 32));have HR0:=ae (Row.new w (ai t (.slice A n c)) 32);have dR:=ae (bP t (.slice A n c) hp hm);have hn3:n≤3:=by have:=h.num;rw [hz,List.length_map,hn] at this;exact this
 have HF:=ae h;have HZ:=ae hz;have Ir:=ae hn;have VD:=ae hp;have HA:=ae hA;have h32:(Tryz.prog.info? 24).map (·.size)=some (au t.prev).length:=by rw [show (au t.prev).length=32 by simp [au,hp]];kernel_rfl
 have Rl:=ae h32;clear h hz hp hm hA hn h32;go_enter Tryz.func44,Tryz.ntmps44;go_wp2_with ((with_reducible refine jy 32 ?_);go_must (refine aV rfl _ _ rfl w.heap.size rfl (ai t (.slice A n c)) HR0.out _ Tryz.underlying32 rfl dR.out ?_));refine (QZ.out _ HB0.out).mono ?_;rintro e w1 ⟨rfl,hb1⟩;have HR1:=ae (HR0.out.keep hb1);have HB1:=ae (ah HB0.out hb1);have jO:Hid (CB w.heap.size (.slice none 0 0) w (ai t (.slice A n c)) [byteOf t.bC,byteOf t.version,byteOf t.aH] (some ⟨w1.heap.size,0,none⟩) 3 3 (w1.alloc (.cells #[Value.int .u8 (t.bC%256),Value.int .u8 (t.version%256),Value.int .u8 (t.aH%256)] 5))):=ae (CB.lit HR1.out HB1.out _ 3 rfl (by omega) _ (by simp only [List.map_cons,List.map_nil,fE]));have lU:=ae (qh t (.slice A n c) jO.out.row);have k1:=HR1.out.2;have hlt1:=HR1.out.1;clear hb1 HR0 HB0 QZ;go_wp2_with (with_reducible refine dM 24 ?_;refine bU rfl _ _ rfl w.heap.size 4 rfl (au t.prev) lU.out _ Tryz.underlying24 rfl Rl.out ?_);generalize w1.alloc (.cells #[Value.int .u8 (t.bC%256),Value.int .u8 (t.version%256),Value.int .u8 (t.aH%256)] 5)=W1 at jO lU ⊢;refine (yQ t.prev W1 VD.out).mono ?_;rintro e w2 ⟨A2,n2,c2,l2,rfl,o2,k2⟩;have hn2:n2=32:=by rw [←l2,VD.out]
 subst hn2;have HC2:=ae (jO.out.grow k2.jC);obtain ⟨g,cap,hgv,hgl⟩:=eU o2 (by omega);injection hgv with hA2 _ hC2;subst hA2 hC2;have RG:Hid (∀j u,(t.prev.map Extern.Stop.cell)[j]? =some u→w2.cell? ((⟨g,0,none⟩:Addr).add j)=some u):=ae (fun j u hu=>World.ownsRow.cells o2 (g:=g) rfl j u hu);have KX:Hid ((t.prev.map Extern.Stop.cell).length=32*1):=ae (by rw [List.length_map,VD.out]);have vU:Hid (∀u∈t.prev.map Extern.Stop.cell,u.oneCell'=true):=ae (fun u hu=>by obtain ⟨x,_,rfl⟩:=List.mem_map.1 hu;rfl);have hsz2:w.heap.size≤w2.heap.size:=HC2.out.keep.size;obtain ⟨hd,hhd⟩:∃l,[byteOf t.bC,byteOf t.version,byteOf t.aH]=l:=⟨_,rfl⟩;have HHD:=ae hhd;rw [hhd] at HC2;have mJ:=ae HC2.out.own;clear o2 l2 k2 hgl hhd k1 hlt1;go_wp2_with (at_builtin;go_must (refine wpList_append_own_at _ rfl _ _ 22 rfl w.heap.size 5 i0 (.int .u8 0) 1 1 Tryz.underlying22 HI.out HZ0.out HZ1.out HZ2.out rfl (by decide) _ 3 (hd.map Extern.Stop.cell) rfl mJ.out ⟨g,0,none⟩ 32 c2 (t.prev.map Extern.Stop.cell) rfl KX.out RG.out vU.out (by unfold maxLen;omega) (by omega) (by omega) ?_));intro v' w3 hown hg _ hat;obtain ⟨A3,c3,rfl⟩:=fC hown;have qy:Hid (CB w.heap.size (.slice none 0 0) w (ai t (.slice A n c)) (hd++t.prev) A3 35 c3 w3):=ae (HC2.out.next (by unfold oq;rw [List.map_append];exact hown) (by rw [bF,HC2.out.len,VD.out]) (uM.app0 hg hat));clear hown hg hat;have k1:=qy.out.row.2;have hlt1:=qy.out.row.1;go_wp2_with fail;refine (eF w.heap.size _ _ 1 _ _ n _ qy.out.len (by omega) (by omega) ⟨by omega,by omega⟩ qy.out.keep.size qy.out.own).mono ?_;rintro e w4 ⟨A4,n4,c4,l4,rfl,o4,k4⟩;have qH:=ae (qy.out.next o4 l4 k4);have IA:Hid (∀k,((t.aK.take k).flatMap AX).length≤400):=ae (fun k=>by
  have:=OD AX t.aK 103 k (fun e he=>Pz e (HF.out.aK e he).made (by obtain ⟨j,hj⟩:=List.getElem?_of_mem he;rw [HF.out.names j e hj,sF];omega));have h2:=HF.out.num;omega)
 clear l4 o4 k4 k1 hlt1;have k1:=qH.out.row.2;have hlt1:=qH.out.row.1;go_wp2_with fail
 go_loopw [5,6] (fun b i wr=>IG w.heap.size (.slice none 0 0) w (ai t (.slice A n c)) (fun k=>hd++t.prev++le n 1++(t.aK.take k).flatMap AX) n b i wr) (fun _ i _=>n - (intOf i).toNat)
 case atStart=>exact ⟨0,n4,c4,A4,Nat.zero_le _,rfl,by go_num,by simpa using qH.out⟩
 case round=>
  clear k1 hlt1;obtain ⟨k,n5,c5,A5,hk,rfl,rfl,hb⟩:=hrel;have HB:Hid (CB w.heap.size (.slice none 0 0) w (ai t (.slice A n c)) (hd++t.prev++le n 1++(t.aK.take k).flatMap AX) A5 n5 c5 wr):=ae hb;have hn5:n5≤436:=by
   have h1:=HB.out.len;have h2:=IA.out k;rw [bF,bF,aA,qy.out.len] at h1;omega
  clear hb;obtain ⟨pre,hpre⟩:∃l,hd++t.prev++le n 1++(t.aK.take k).flatMap AX=l:=⟨_,rfl⟩;have Eg:=ae hpre;rw [hpre] at HB;clear hpre;have k1:=HB.out.row.2;have hlt1:=HB.out.row.1;have hsz:=HB.out.keep.size;by_cases hlt:(k:Int)<(n:Int)
  ·have hkz:k<zs.length:=by rw [Ir.out];omega
   obtain ⟨x,hx⟩:∃x,zs[k]? =some x:=⟨_,dK hkz⟩;obtain ⟨b,off,rfl,nV,hcl⟩:=HA.out.row.there (by rw [dN];omega);have hxm:x.e∈t.aK:=by rw [HZ.out];exact List.mem_map_of_mem (gz hx)
   have hzx:t.aK[k]? =some x.e:=by rw [HZ.out,List.getElem?_map,hx];rfl
   have hns:x.e.name.size=2:=by rw [HF.out.names k x.e hzx,sF]
   obtain ⟨nm,hnm⟩:∃s,x.e.name=s:=⟨_,rfl⟩;rw [hnm] at hns;have gJ:Hid (∀i u,x.cells.toList[i]? =some u→w.cell? ⟨b,off+k*9+i,none⟩=some u):=ae (aB.elem (s:=9) (f:=fun x:dA=>x.cells.toList) (fun _ _=>rfl) hcl k x hx);have HNS:=ae hns;have hz1:Z14 x.e.z:=(HF.out.aK _ hxm).made.z14;have HZ14:=ae hz1;have HZN:=ae (HA.out.each x (gz hx));have LC:=ae hzx;have PI:=ae hnm;have z0:wr.cell? ⟨b,off+k*9,none⟩=some (.string nm):=(HB.out.keep.jC.cell (p:=⟨b,off+k*9,none⟩) nV).trans (by rw [←hnm];exact gJ.out 0 _ rfl);have z1:wr.cell? ⟨b,off+k*9+1,none⟩=some (I x.e.z.cal.aI):=(HB.out.keep.jC.cell (p:=⟨b,off+k*9+1,none⟩) nV).trans (gJ.out 1 _ rfl);have z2:wr.cell? ⟨b,off+k*9+2,none⟩=some (.slice x.s.A x.e.z.cal.aj.length x.s.a):=(HB.out.keep.jC.cell (p:=⟨b,off+k*9+2,none⟩) nV).trans (gJ.out 2 _ rfl);have z3:wr.cell? ⟨b,off+k*9+3,none⟩=some (I x.e.z.cal.aY):=(HB.out.keep.jC.cell (p:=⟨b,off+k*9+3,none⟩) nV).trans (gJ.out 3 _ rfl);have z4:wr.cell? ⟨b,off+k*9+4,none⟩=some (.slice x.s.B x.e.z.cal.rules.length x.s.b):=(HB.out.keep.jC.cell (p:=⟨b,off+k*9+4,none⟩) nV).trans (gJ.out 4 _ rfl);have z5:wr.cell? ⟨b,off+k*9+5,none⟩=some (I x.e.z.start):=(HB.out.keep.jC.cell (p:=⟨b,off+k*9+5,none⟩) nV).trans (gJ.out 5 _ rfl);have z6:wr.cell? ⟨b,off+k*9+6,none⟩=some (.slice x.s.C x.e.z.trans.length x.s.c):=(HB.out.keep.jC.cell (p:=⟨b,off+k*9+6,none⟩) nV).trans (gJ.out 6 _ rfl);have z7:wr.cell? ⟨b,off+k*9+7,none⟩=some (I x.e.z.hor):=(HB.out.keep.jC.cell (p:=⟨b,off+k*9+7,none⟩) nV).trans (gJ.out 7 _ rfl);have z8:wr.cell? ⟨b,off+k*9+8,none⟩=some (.slice x.s.D x.e.z.az.length x.s.d):=(HB.out.keep.jC.cell (p:=⟨b,off+k*9+8,none⟩) nV).trans (gJ.out 8 _ rfl);have f1:fits ((nm.size:Nat):Int):=⟨by omega,by omega⟩;clear hx hcl hxm hkz hzx hns hz1;go_wp2_with fail;refine (eF w.heap.size _ _ 1 _ _ (nm.size:Nat) _ HB.out.len (by omega) (by omega) f1 HB.out.keep.size HB.out.own).mono ?_;rintro e w6 ⟨A6,n6,d6,l6,rfl,o6,k6⟩;have rq:=ae (HB.out.next o6 l6 k6);have hn6:n6≤440:=by
    have h1:=HB.out.len;rw [bF,aA] at l6;omega
   have hsz6:=rq.out.keep.size;obtain ⟨pre2,Ui⟩:∃l,pre++le (nm.size:Nat) 1=l:=⟨_,rfl⟩;have HP2:=ae Ui;rw [Ui] at rq;have yG:=ae rq.out.own;clear l6 o6 k6 k1 hlt1 Ui z0 z1 z2 z3 z4 z5 z6 z7 z8;have k1:=rq.out.row.2;have hlt1:=rq.out.row.1;have z0:w6.cell? ⟨b,off+k*9,none⟩=some (.string nm):=(rq.out.keep.jC.cell (p:=⟨b,off+k*9,none⟩) nV).trans (by rw [←hnm];exact gJ.out 0 _ rfl);have z1:w6.cell? ⟨b,off+k*9+1,none⟩=some (I x.e.z.cal.aI):=(rq.out.keep.jC.cell (p:=⟨b,off+k*9+1,none⟩) nV).trans (gJ.out 1 _ rfl);have z2:w6.cell? ⟨b,off+k*9+2,none⟩=some (.slice x.s.A x.e.z.cal.aj.length x.s.a):=(rq.out.keep.jC.cell (p:=⟨b,off+k*9+2,none⟩) nV).trans (gJ.out 2 _ rfl);have z3:w6.cell? ⟨b,off+k*9+3,none⟩=some (I x.e.z.cal.aY):=(rq.out.keep.jC.cell (p:=⟨b,off+k*9+3,none⟩) nV).trans (gJ.out 3 _ rfl);have z4:w6.cell? ⟨b,off+k*9+4,none⟩=some (.slice x.s.B x.e.z.cal.rules.length x.s.b):=(rq.out.keep.jC.cell (p:=⟨b,off+k*9+4,none⟩) nV).trans (gJ.out 4 _ rfl);have z5:w6.cell? ⟨b,off+k*9+5,none⟩=some (I x.e.z.start):=(rq.out.keep.jC.cell (p:=⟨b,off+k*9+5,none⟩) nV).trans (gJ.out 5 _ rfl);have z6:w6.cell? ⟨b,off+k*9+6,none⟩=some (.slice x.s.C x.e.z.trans.length x.s.c):=(rq.out.keep.jC.cell (p:=⟨b,off+k*9+6,none⟩) nV).trans (gJ.out 6 _ rfl);have z7:w6.cell? ⟨b,off+k*9+7,none⟩=some (I x.e.z.hor):=(rq.out.keep.jC.cell (p:=⟨b,off+k*9+7,none⟩) nV).trans (gJ.out 7 _ rfl);have z8:w6.cell? ⟨b,off+k*9+8,none⟩=some (.slice x.s.D x.e.z.az.length x.s.d):=(rq.out.keep.jC.cell (p:=⟨b,off+k*9+8,none⟩) nV).trans (gJ.out 8 _ rfl);go_wp2_with (at_builtin;go_must (refine DV rfl _ _ rfl w.heap.size _ n6 (pre2.map Extern.Stop.cell) rfl yG.out nm rfl (by have:=HNS.out;omega) (by omega) ?_));intro v' w7 hown hg hat;obtain ⟨A7,d7,rfl⟩:=fC hown;have KI:Hid (CB w.heap.size (.slice none 0 0) w (ai t (.slice (some ⟨b,off,none⟩) n c)) (pre2++nm.data.toList) A7 (n6+nm.size) d7 w7):=ae (rq.out.next (by unfold oq;rw [List.map_append];exact hown) (by rw [bF,rq.out.len,Array.length_toList];rfl) (uM.app0 hg hat));clear hown hg hat k1 hlt1 z0 z1 z2 z3 z4 z5 z6 z7 z8;have k1:=KI.out.row.2;have hlt1:=KI.out.row.1;have z0:w7.cell? ⟨b,off+k*9,none⟩=some (.string nm):=(KI.out.keep.jC.cell (p:=⟨b,off+k*9,none⟩) nV).trans (by rw [←hnm];exact gJ.out 0 _ rfl);have z1:w7.cell? ⟨b,off+k*9+1,none⟩=some (I x.e.z.cal.aI):=(KI.out.keep.jC.cell (p:=⟨b,off+k*9+1,none⟩) nV).trans (gJ.out 1 _ rfl);have z2:w7.cell? ⟨b,off+k*9+2,none⟩=some (.slice x.s.A x.e.z.cal.aj.length x.s.a):=(KI.out.keep.jC.cell (p:=⟨b,off+k*9+2,none⟩) nV).trans (gJ.out 2 _ rfl);have z3:w7.cell? ⟨b,off+k*9+3,none⟩=some (I x.e.z.cal.aY):=(KI.out.keep.jC.cell (p:=⟨b,off+k*9+3,none⟩) nV).trans (gJ.out 3 _ rfl);have z4:w7.cell? ⟨b,off+k*9+4,none⟩=some (.slice x.s.B x.e.z.cal.rules.length x.s.b):=(KI.out.keep.jC.cell (p:=⟨b,off+k*9+4,none⟩) nV).trans (gJ.out 4 _ rfl);have z5:w7.cell? ⟨b,off+k*9+5,none⟩=some (I x.e.z.start):=(KI.out.keep.jC.cell (p:=⟨b,off+k*9+5,none⟩) nV).trans (gJ.out 5 _ rfl);have z6:w7.cell? ⟨b,off+k*9+6,none⟩=some (.slice x.s.C x.e.z.trans.length x.s.c):=(KI.out.keep.jC.cell (p:=⟨b,off+k*9+6,none⟩) nV).trans (gJ.out 6 _ rfl);have z7:w7.cell? ⟨b,off+k*9+7,none⟩=some (I x.e.z.hor):=(KI.out.keep.jC.cell (p:=⟨b,off+k*9+7,none⟩) nV).trans (gJ.out 7 _ rfl);have z8:w7.cell? ⟨b,off+k*9+8,none⟩=some (.slice x.s.D x.e.z.az.length x.s.d):=(KI.out.keep.jC.cell (p:=⟨b,off+k*9+8,none⟩) nV).trans (gJ.out 8 _ rfl);go_wp2_with fail;refine (Vt w.heap.size (n6+nm.size) d7 A7 _ x.e.z x.s w7 KI.out.len (by have:=HNS.out;omega) HZ14.out (HZN.out.keep KI.out.keep.jC) KI.out.keep.size KI.out.own).mono ?_;rintro e w8 ⟨A8,n8,d8,l8,rfl,o8,k8⟩;have HC8:=ae (KI.out.next o8 l8 k8);clear l8 o8 k8 k1 hlt1 z0 z1 z2 z3 z4 z5 z6 z7 z8;go_wp2_with fail;go_roundw
   case rel=>exact ⟨k+1,n8,d8,A8,by omega,rfl,by go_num,by
    have hc:=HC8.out;rw [←HP2.out,←Eg.out] at hc;show CB _ _ _ _ (_++(t.aK.take (k+1)).flatMap AX) _ _ _ _;rw [qL _ _ _ _ LC.out,show AX x.e=le (nm.size:Nat) 1++(nm.data.toList++QR x.e.z) by unfold AX;rw [PI.out]];simpa [List.append_assoc] using hc⟩
   case measure=>simp [intOf];omega
  ·have HK:Hid (k=n):=ae (by omega);go_wp2_with fail;go_ret2;have hb:=HB.out;have e1:pre=EH t:=by
    rw [←Eg.out,HK.out,List.take_of_length_le (by rw [HZ.out,List.length_map,Ir.out];exact Nat.le_refl _),←HHD.out];simp [EH,HZ.out,Ir.out,List.append_assoc]
   rw [e1] at hb;exact ⟨A5,n5,c5,hb.len,rfl,hb.own,hb.keep.jC⟩
end Go.Proofs.YtdibbemgpikgjaaGreat
namespace Go.Proofs.YtdibbemgpikgjaaGreat
open Go Go.RowKit
section
variable {P:Program} {ops:Array Oper} {a:Act} {w:World} {rest:List Oper} {o:Oper}
theorem AQ {Q:Act→Prop} (hw:Region.wanted o (yielded ops a.tmps)=true) (ty:TypeId) (x:Operand) (ho:o.op= .load ty x) (g:Nat) (hx:a.eval x= .pointer (some ⟨g,0,none⟩)) (cs:Array Value) (hr:pX w g cs)
  (d:TypeDesc) (hu:P.underlying ty=some d) (hd:d.isRow=true) (hi:(P.info? ty).map (·.size)=some cs.size)
  (h:wpStill P ops w Q rest (a.put o.dst (.agg cs))):wpStill P ops w Q (o::rest) a:=by
 refine wpStill_step fun K hK=>?_;rw [if_pos hw];have hc:w.rangeAt g 0 cs.toList:=fun j v hv=>by rw [Nat.zero_add,hr.2 j];simpa using hv
 unfold Oper.still execOp;simp only [ho,hx,Instr.loadAt,Instr.sureAddr,Sem.run_bind,Sem.run_pure,Result.andThen_ok,run_loadVar_mid w g 0 ty cs.toList d hc hu hd (by rw [hi];simp)];exact ⟨rfl,hK _ (by simpa using h)⟩
end
def cD (bs:List UInt8):Array Value:=(au bs).toArray
theorem kK (bs:List UInt8):(cD bs).size=bs.length:=by simp [cD,au]
theorem rH (bs:List UInt8):(cD bs).all (·.oneCell')=true:=by
 rw [Array.all_eq_true_iff_forall_mem];intro v hv;have h:v∈bs.map Extern.Stop.cell:=by simpa [cD,au] using hv
 obtain ⟨x,_,rfl⟩:=List.mem_map.1 h;rfl
theorem cD_set (bs:List UInt8) (i:Nat) (x:UInt8):(cD bs).setIfInBounds i (Extern.Stop.cell x)=cD (bs.set i x):=by
 simp [cD,au,List.map_set]
theorem cD_get (bs:List UInt8) (i:Nat) (h:i<bs.length):(cD bs)[i]? =some (Extern.Stop.cell (bs[i]?.getD 0)):=by
 simp [cD,au,h]
def d32:List UInt8:=List.replicate 32 0
theorem uk:(Tryz.prog.info? 24).map (fun i=>(i.zero,i.size))=some (some (.agg (cD d32)),(cD d32).size):=by kernel_rfl
theorem Ba:d32.length=32:=by simp [d32]
def Zm:List Int:= [1779033703,3144134277,1013904242,2773480762,1359893119,2600822924,528734635,1541459225]
structure Em (w:World) (zs:List Int) (W:World):Prop where
 r:AV w.heap.size 24 (cD d32) W
 s:AV (w.heap.size+1) 190 (aF zs) W
 lo:Below w.heap.size w W
theorem Em.start (w:World) (z:List Int):Em w Zm (((w.alloc (.cells (cD d32) 24)).alloc (.cells (aF z) 190)).setRow (w.heap.size+1) (aF Zm)):=
 ⟨⟨(setRow_other _ _ _ _ (by omega)).trans (heap_alloc2_old w _ _)⟩,⟨setRow_heap _ _ _ _ _ _ (heap_alloc2_new w _ _)⟩,aC (ah (ag w _) (ag _ _)) (Nat.le_succ _) _⟩
theorem Em.grow {w W W':World} {zs:List Int} (h:Em w zs W) (hb:Below W.heap.size W W'):Em w zs W':=⟨h.r.below hb,h.s.below hb,ah h.lo hb⟩
theorem Em.row {w W:World} {zs:List Int} (h:Em w zs W) (ds:List Int):Em w ds (W.setRow (w.heap.size+1) (aF ds)):=
 ⟨h.r.qW (by omega) _,h.s.oH _,aC h.lo (Nat.le_succ _) _⟩
theorem Em.drew {w W:World} {zs:List Int} (h:Em w zs W):Em w zs W.drew:=⟨⟨h.r.var⟩,⟨h.s.var⟩,⟨h.lo.os,h.lo.tape,h.lo.output,h.lo.size,h.lo.block⟩⟩
theorem Em.far {w W:World} {zs:List Int} (h:Em w zs W) (b:Nat) (hb:w.heap.size+1<b) (o:Nat) (v:Value):Em w zs (W.setCell ⟨b,o,none⟩ v):=
 ⟨h.r.far (by omega) _ _,h.s.far (by omega) _ _,h.lo.setCell (p:=⟨b,o,none⟩) (show w.heap.size≤b by omega) _⟩
theorem Em.farRow {w W:World} {zs:List Int} (h:Em w zs W) (b:Nat) (hb:w.heap.size+1<b) (cs:Array Value):Em w zs (W.setRow b cs):=
 ⟨h.r.qW (by omega) _,h.s.qW (by omega) _,aC h.lo (by omega) _⟩
theorem FQ {w:World} {lo n c:Nat} {A:Option Addr} {bs:List UInt8} (h:oq lo w A n c bs) (h0:0<n):∃g cur,A=some ⟨g,0,none⟩∧lo≤g∧n≤c∧c≤maxLen∧AV g 5 cur w∧∀j,j<n→cur[j]? =some (Extern.Stop.cell (bs[j]?.getD 0)):=by
 have hl:bs.length=n:=by have:=h.1;rw [List.length_map] at this;omega
 rcases h.2 with ⟨_,hn⟩|⟨g,cap,cur,hv,hlo,hh,hnc,hcm,_,ht⟩
 ·omega
 ·injection hv with h1 _ h3;subst h3;refine ⟨g,cur,h1,hlo,hnc,hcm,⟨hh⟩,fun j hj=>?_⟩;have e:(cur.toList.take (n*1))[j]? =some (Extern.Stop.cell (bs[j]?.getD 0)):=by rw [ht,List.getElem?_map,dK (by omega)];rfl
  rw [List.getElem?_take_of_lt (by omega)] at e;simpa using e
def DgP (w:World) (e:Ending) (w':World):Prop:=∃d:List UInt8,d.length=32∧e= .returned (.agg (cD d))∧Below w.heap.size w w'
theorem UU (n c:Nat) (A:Option Addr) (bs:List UInt8) (w:World) (hl:bs.length=n) (h0:0<n) (hn:n≤200000) (hb:aB w w.heap.size A (bs.map Extern.Stop.cell)):
  Calls Tryz.prog 71 #[.slice A n c] w (DgP w):=by
 have H0:=ae (Em.start w (List.replicate 8 0));have HB:=ae hb;have HL:=ae hl;obtain ⟨u8,Zi⟩:∃l:List Int,List.replicate 8 0=l:=⟨_,rfl⟩;have HU8:Hid ((Tryz.prog.info? 190).map (fun i=>(i.zero,i.size))=some (some (.agg (aF u8)),(aF u8).size)):=ae (by rw [←Zi];exact uJ);have HU9:Hid ((aF u8).size=(aF Zm).size):=ae (by rw [←Zi,dh,dh];simp [Zm]);have HI8:Hid ((Tryz.prog.info? 190).map (·.size)=some (aF Zm).size):=ae (by kernel_rfl);rw [Zi] at H0;have HP:Hid (∀W,Below w.heap.size w W→Calls Tryz.prog 91 #[.slice A n c] W (PadP W n)):=ae fun W h=>UG n c A bs W hl h0 hn ((hb.keep h).more h.size);clear hb hl Zi;have hpl:=OV n;have hpm:=JJ n;obtain ⟨N,hN⟩:∃N,n+9+Qq n=N:=⟨_,rfl⟩;have HN:=ae hN;have hNm:N%64=0:=by omega
 have hNb:N≤200100:=by omega
 have hN0:0<N:=by omega
 clear hpl hpm hN;go_enter Tryz.func71,Tryz.ntmps71;go_upto_region 2 with (first
  |((with_reducible refine bu 24 ?_);go_must (refine aN rfl _ rfl (cD d32) uk ?_))
  |((with_reducible refine bu 190 ?_);go_must (refine aN rfl _ rfl (aF u8) HU8.out ?_))
  |((with_reducible refine eQ 190 ?_);go_must (refine wpList_store_row rfl _ _ _ rfl (w.heap.size+1) (aF Zm) (congrArg (fun b=>Value.pointer (some ⟨b,0,none⟩)) (oV w _)) rfl 190 (aF u8) (heap_alloc2_new w _ _) HI8.out HU9.out (jg _) ?_)))
 rw [oV w];generalize ((w.alloc (.cells (cD d32) 24)).alloc (.cells (aF u8) 190)).setRow (w.heap.size+1) (aF Zm)=W1 at H0 ⊢;clear HU8 HU9 HI8;go_wp2_with fail;refine (HP.out _ H0.out.lo).mono ?_;rintro e w2 ⟨ps,hpl,A2,n2,c2,hn2,rfl,hown,hk⟩;have hw1:=H0.out.s.lt;have hb2:Below W1.heap.size W1 w2:=hk.jC;have H2:=ae (H0.out.grow hb2);rw [HN.out] at hpl;obtain rfl:n2=N:=by omega
 obtain ⟨pb,cur,rfl,hlo,hnc,hcm,hav,Ua⟩:=FQ hown hN0;have HAV:=ae hav;have HCU:=ae Ua;have hpb:w.heap.size+1<pb:=by omega
 have VD:Hid (ps.length=n2):=ae hpl;have hcI:(c2:Int)≤9223372036854775807:=by unfold maxLen at hcm;omega
 clear hav Ua hcm hb2 hown hk H0 HP hn2 hpl;go_wp2_with fail
 go_loopw [5] (fun i wr=>∃(k:Nat) (zs:List Int),k%64=0∧k≤n2∧i=I k∧zs.length=8∧Em w zs wr∧AV pb 5 cur wr) (fun i _=>n2 - (intOf i).toNat)
 case atStart=>exact ⟨0,Zm,rfl,Nat.zero_le _,rfl,rfl,H2.out,HAV.out⟩
 case round=>
  obtain ⟨k,zs,hkm,hk,rfl,hzl,hs,hav⟩:=hrel;have HS:=ae hs;have HA:=ae hav;have HZ:=ae hzl;clear hs hav hzl H2 HAV;by_cases hlt:(k:Int)<(n2:Int)
  ·have hk64:k+64≤n2:=by omega
   obtain ⟨k2,hk2⟩:∃q:Nat,k+64=q:=⟨_,rfl⟩;have g1:(k:Int)+64=(k2:Int):=by omega
   have g2:(k:Int)≤(k2:Int):=by omega
   have g3:(k2:Int)≤(c2:Int):=by omega
   have g4:IntKind.i64.wrap (k2:Int)=(k2:Int):=by rw [IntKind.wrap_i64];omega
   have g5:(k2:Int) - (k:Int)=64:=by omega
   have ja:=ae hk2;have hck:¬c2=k:=by omega
   have HRU:Hid (pX wr.drew (w.heap.size+1) (aF zs)):=ae HS.out.drew.s.lu;have dR:Hid ((Tryz.prog.info? 190).map (·.size)=some (aF zs).size):=ae (by rw [dh,HZ.out];kernel_rfl);go_wp2_with fail;refine wp_region_still_tail 6 (by kernel_rfl) (by kernel_rfl) ?_;simp only [List.take_succ_cons,List.take_zero,List.drop_succ_cons,List.drop_zero];refine AQ rfl _ _ rfl (w.heap.size+1) rfl (aF zs) HRU.out _ Tryz.underlying190 rfl dR.out ?_;repeat still_step
   refine wpStill_nil ?_;change wpList _ _ _ _ _ wr.drew;go_wp2_with fail;rw [show k2 - k=64 by omega];have Q4:Hid (((ps.drop k).take 64).length=64):=ae (by have:=VD.out;rw [List.length_take,List.length_drop];omega);have YY:Hid (∀j,j<64→wr.drew.cell? ⟨pb,k+j,none⟩=some (Extern.Stop.cell (((ps.drop k).take 64)[j]?.getD 0))):=ae (fun j hj=>(HA.out.cell (k+j)).trans ((HCU.out (k+j) (by omega)).trans (by rw [List.getElem?_take_of_lt hj,List.getElem?_drop])));obtain ⟨xs,hxs⟩:∃l,(ps.drop k).take 64=l:=⟨_,rfl⟩;rw [hxs] at Q4 YY;clear hxs;refine (step_r wr.drew pb k (c2 - k) zs HZ.out xs Q4.out HA.out.lt YY.out).mono ?_;rintro e w4 ⟨zs2,hz2,rfl,hb4⟩;have yu:=ae (HS.out.drew.grow hb4);have HA4:=ae (HA.out.drew.below hb4);have HZ2:=ae hz2;have nT:Hid ((Tryz.prog.info? 190).map (·.size)=some (aF zs2).size):=ae (by rw [dh,HZ2.out];kernel_rfl);have yw:Hid ((aF zs).size=(aF zs2).size):=ae (by rw [dh,dh,HZ.out,HZ2.out]);clear hb4 hz2 HS HA HRU;go_wp2_with ((with_reducible refine eQ 190 ?_);go_must (refine wpList_store_row rfl _ _ _ rfl (w.heap.size+1) (aF zs2) rfl rfl 190 (aF zs) yu.out.s.var nT.out yw.out (jg _) ?_));go_roundw
   case rel=>exact ⟨k2,zs2,by have:=ja.out;omega,by have:=ja.out;omega,rfl,HZ2.out,yu.out.row _,HA4.out.qW (by omega) _⟩
   case measure=>simp [intOf];omega
  ·have HZER:Hid (Value.agg (cD d32)= .agg #[.int .u8 0, .int .u8 0, .int .u8 0, .int .u8 0, .int .u8 0, .int .u8 0, .int .u8 0, .int .u8 0, .int .u8 0, .int .u8 0, .int .u8 0, .int .u8 0, .int .u8 0, .int .u8 0, .int .u8 0, .int .u8 0, .int .u8 0, .int .u8 0, .int .u8 0, .int .u8 0, .int .u8 0, .int .u8 0, .int .u8 0, .int .u8 0, .int .u8 0, .int .u8 0, .int .u8 0, .int .u8 0, .int .u8 0, .int .u8 0, .int .u8 0, .int .u8 0]):=ae rfl;have HID:Hid ((Tryz.prog.info? 24).map (·.size)=some (cD d32).size):=ae (by kernel_rfl);clear HA;have hwr:=HS.out.s.lt;go_upto_region 8 with (first
    |((with_reducible refine bu 24 ?_);go_must (refine aN rfl _ rfl (cD d32) uk ?_))
    |((with_reducible refine eQ 24 ?_);go_must (refine wpList_store_row rfl _ _ _ rfl wr.heap.size (cD d32) rfl HZER.out.symm 24 (cD d32) (heap_alloc_last _ _) HID.out rfl (rH _) ?_)))
   have HO:Hid (AV wr.heap.size 24 (cD d32) ((wr.alloc (.cells (cD d32) 24)).setRow wr.heap.size (cD d32))):=ae ((AV.new wr _ _).oH _);have vV:Hid (Em w zs ((wr.alloc (.cells (cD d32) 24)).setRow wr.heap.size (cD d32))):=ae ((HS.out.grow (ag wr _)).farRow _ hwr _);generalize (wr.alloc (.cells (cD d32) 24)).setRow wr.heap.size (cD d32)=W5 at HO vV ⊢;obtain ⟨ob,hob⟩:∃b,wr.heap.size=b:=⟨_,rfl⟩;rw [hob] at HO hwr ⊢;clear hob HZER HS hlt;go_wp2_with fail
   go_loopw [7] (fun i wx=>∃(k:Nat) (ds:List UInt8),k≤32∧i=I k∧ds.length=32∧Em w zs wx∧AV ob 24 (cD ds) wx) (fun i _=>32 - (intOf i).toNat)
   case atStart=>exact ⟨0,d32,Nat.zero_le _,rfl,Ba,vV.out,HO.out⟩
   case round=>
    clear vV HO;obtain ⟨j,ds,hj,rfl,hdl,hs,ho⟩:=hrel;have HS:=ae hs;have HO:=ae ho;have HDL:=ae hdl;clear hs ho hdl;by_cases hlt:(j:Int)<32
    ·obtain ⟨q,hq⟩:∃q:Nat,j / 4=q:=⟨_,rfl⟩;obtain ⟨r,hr⟩:∃r:Nat,j%4=r:=⟨_,rfl⟩;have hdq:Int.tdiv (j:Int) 4=(q:Int):=by rw [Int.tdiv_eq_ediv_of_nonneg (by omega)];omega
     have hmr:Int.tmod (j:Int) 4=(r:Int):=by rw [Int.tmod_eq_emod_of_nonneg (by omega)];omega
     have hdq2:(j:Int) / 4=(q:Int):=by omega
     have hmr2:(j:Int)%4=(r:Int):=by omega
     have hq8:(q:Int)<8:=by omega
     have hr4:(r:Int)<4:=by omega
     obtain ⟨s,hs⟩:∃s:Int,24 - 8*(r:Int)=s:=⟨_,rfl⟩;have hs0:0≤s:=by omega
     have hs1:s≤24:=by omega
     obtain ⟨z,hz⟩:∃z,zs[q]?.getD 0=z:=⟨_,rfl⟩;have cS:wr.cell? ⟨w.heap.size+1,q,none⟩=some (.int .u32 z):=(HS.out.s.cell q).trans (by rw [gU _ _ (by rw [HZ.out];omega),hz]);obtain ⟨o0,ho0⟩:∃x:UInt8,ds[j]?.getD 0=x:=⟨_,rfl⟩;have cO:wr.cell? ⟨ob,j,none⟩=some (Extern.Stop.cell o0):=(HO.out.cell j).trans (by rw [cD_get _ _ (by rw [HDL.out];omega),ho0]);have cf:=HO.out.gG j;clear hq hr hz ho0;go_wp2_with fail;go_roundw
     case rel=>exact ⟨j+1,ds.set j (byteOf (z / 2 ^ s.toNat)),by omega,by go_num,by rw [List.length_set,HDL.out],HS.out.far ob hwr _ _,by have h:=HO.out.put j (Extern.Stop.cell (byteOf (z / 2 ^ s.toNat)));rw [cD_set,fE] at h;exact h⟩
     case measure=>simp [intOf];omega
    ·have HRW:Hid (pX wr ob (cD ds)):=ae HO.out.lu;have nT:Hid ((Tryz.prog.info? 24).map (·.size)=some (cD ds).size):=ae (by rw [kK,HDL.out];kernel_rfl);have kS:Hid ((cD d32).size=(cD ds).size):=ae (by rw [kK,kK,HDL.out,Ba]);go_wp2_with (first
      |((with_reducible refine jy 24 ?_);go_must (refine bG rfl _ _ rfl ob rfl (cD ds) HRW.out _ Tryz.underlying24 rfl nT.out ?_))
      |((with_reducible refine eQ 24 ?_);go_must (refine wpList_store_row rfl _ _ _ rfl w.heap.size (cD ds) rfl rfl 24 (cD d32) HS.out.r.var nT.out kS.out (rH _) ?_)))
     refine bodyPost_ret (v:= .agg (cD ds)) (results_cell_row rfl _ _ w.heap.size _ (cD ds) (0,0) _ rfl (setRow_heap _ _ _ _ _ _ HS.out.r.var) Tryz.underlying24 rfl nT.out) rfl ?_;exact ⟨ds,HDL.out,rfl,aC HS.out.lo (Nat.le_refl _) _⟩
theorem nH {ops:Array Oper} {rest:List Oper} {o:Oper} {a:Act} {Q:Exit→Act→World→Prop} {w:World} (hgd:o.guard=none) (sl x:Operand)
  (ho:o.op= .call {callee:= .builtin .append,args:= #[sl,x],argTypes:= #[22,22]}) (lo n c:Nat) (A:Option Addr) (bs:List UInt8) (hs:a.eval sl= .slice A n c) (hown:oq lo w A n c bs)
  (B:Nat) (A2:Option Addr) (m c2:Nat) (ds:List UInt8) (hx:a.eval x= .slice A2 m c2) (hl:ds.length=m) (hm:0<m) (hc:aB w B A2 (ds.map Extern.Stop.cell)) (hlen:n+m≤1000000000) (hbase:lo≤w.heap.size)
  (h:∀A' c' w',oq lo w' A' (n+m) c' (bs++ds)→uM (.slice A n c) w (.slice A' (n+m) c') w'→wpList Tryz.prog ops Q rest (a.put o.dst (.slice A' (n+m) c')) w'):wpList Tryz.prog ops Q (o::rest) a w:=by
 obtain ⟨i0,hi,hz0,hz1,hz2⟩:=info_parts lZ;obtain ⟨b,off,rfl,_,hcl⟩:=hc.there (by rw [List.length_map];omega);refine wpList_append_own_at _ hgd sl x 22 ho lo 5 i0 (.int .u8 0) 1 1 Tryz.underlying22 hi hz0 hz1 hz2 rfl (by decide) _ n (bs.map Extern.Stop.cell) hs hown ⟨b,off,none⟩ m c2 (ds.map Extern.Stop.cell) hx (by rw [List.length_map];omega) (fun j u hu=>by rw [show (⟨b,off,none⟩:Addr).add j=⟨b,off+j,none⟩ by unfold Addr.add;split<;>simp_all];exact hcl j u hu)
  (fun u hu=>by obtain ⟨y,_,rfl⟩:=List.mem_map.1 hu;rfl) (by unfold maxLen;omega) (by omega) hbase ?_
 intro v' w' hown' hg _ hat;obtain ⟨A',c',rfl⟩:=fC hown';exact h A' c' w' (by unfold oq;rw [List.map_append];exact hown') (uM.app0 hg hat)
structure V2 (w:World) (t:TypeId) (cs:Array Value) (t2:TypeId) (ds:Array Value) (W:World):Prop where
 s:AV w.heap.size t cs W
 r:AV (w.heap.size+1) t2 ds W
 lo:Below w.heap.size w W
theorem V2.start (w:World) (t:TypeId) (cs:Array Value) (t2:TypeId) (ds:Array Value):V2 w t cs t2 ds ((w.alloc (.cells cs t)).alloc (.cells ds t2)):=
 ⟨⟨heap_alloc2_old w _ _⟩,⟨heap_alloc2_new w _ _⟩,ah (ag w _) (ag _ _)⟩
theorem V2.OH {w W W':World} {t t2:TypeId} {cs ds:Array Value} {L:Nat} (h:V2 w t cs t2 ds W) (hb:Below L W W') (hL:w.heap.size+1<L):V2 w t cs t2 ds W':=
 ⟨⟨(hb.block _ (by omega)).trans h.s.var⟩,⟨(hb.block _ (by omega)).trans h.r.var⟩,h.lo.trans (hb.mono (by omega))⟩
theorem V2.grow {w W W':World} {t t2:TypeId} {cs ds:Array Value} (h:V2 w t cs t2 ds W) (hb:Below W.heap.size W W'):V2 w t cs t2 ds W':=h.OH hb h.r.lt
theorem Xj (key:List UInt8) (hk:key.length=32) (n c:Nat) (A:Option Addr) (bs:List UInt8) (w:World) (hl:bs.length=n) (h0:0<n) (hn:n≤100000) (hb:aB w w.heap.size A (bs.map Extern.Stop.cell)):
  Calls Tryz.prog 45 #[.agg (cD key), .slice A n c] w (DgP w):=by
 have HB:=ae hb;have HL:=ae hl;have rD:=ae hk;have H0:=ae (V2.start w 24 (cD key) 24 (cD d32));have dR:Hid (∀d:List UInt8,d.length=32→(Tryz.prog.info? 24).map (·.size)=some (cD d).size):=ae (fun d h=>by rw [kK,h];kernel_rfl);have yw:Hid (∀d:List UInt8,d.length=32→(cD d32).size=(cD d).size):=ae (fun d h=>by rw [kK,kK,h,Ba]);clear hb hl hk;go_enter Tryz.func45,Tryz.ntmps45;go_upto_region 1 with (first
  |((with_reducible refine bu 24 ?_);go_must (refine aN rfl _ rfl (cD d32) uk ?_)))
 generalize (w.alloc (.cells (cD key) 24)).alloc (.cells (cD d32) 24)=W0 at H0 ⊢;have hw0:=H0.out.r.lt;go_wp2_with ((with_reducible refine jy 24 ?_);go_must (refine bG rfl _ _ rfl w.heap.size rfl (cD key) H0.out.s.lu _ Tryz.underlying24 rfl (dR.out _ rD.out) ?_));refine (Fg 54 key W0 rD.out (by omega) (by omega)).mono ?_;rintro e w1 ⟨A1,n1,c1,l1,rfl,o1,k1⟩;have hn1:n1=64:=by rw [←l1,ug _ _ rD.out]
 subst hn1;obtain ⟨b1,hb1⟩:∃l,xm 54 key=l:=⟨_,rfl⟩;rw [hb1] at o1 l1;have H1:=ae (H0.out.grow k1.jC);have VB:=ae o1;have PH:=ae l1;have hs1:W0.heap.size≤w1.heap.size:=k1.size;have HBW1:Hid (aB w1 w1.heap.size A (bs.map Extern.Stop.cell)):=ae ((HB.out.keep H1.out.lo).more H1.out.lo.size);clear o1 k1 l1 hb1 H0;go_wp2_with (at_builtin;go_must (refine nH rfl _ _ rfl W0.heap.size 64 c1 A1 b1 rfl VB.out _ A n c bs rfl HL.out h0 HBW1.out (by omega) hs1 ?_));intro A2 c2 w2 o2 k2;have H2:=ae (H1.out.OH (k2.xE VB.out.base hs1) hw0);have hs2:W0.heap.size≤w2.heap.size:=Nat.le_trans hs1 k2.size;have mJ:=ae o2;clear o2 k2 H1 VB HBW1;go_wp2_with fail;refine (UU (64+n) c2 A2 (b1++bs) w2 (by rw [bF,PH.out,HL.out]) (by omega) (by omega) (aB.fA mJ.out)).mono ?_;rintro e w3 ⟨d,hd,rfl,hb3⟩;have H3:=ae (H2.out.grow hb3);have HD:=ae hd;have hw3:=H3.out.r.lt;clear H2 mJ hb3 hd PH;go_upto_region 3 with (first
  |((with_reducible refine bu 24 ?_);go_must (refine aN rfl _ rfl (cD d32) uk ?_))
  |((with_reducible refine eQ 24 ?_);go_must (refine wpList_store_row rfl _ _ _ rfl w3.heap.size (cD d) rfl rfl 24 (cD d32) (heap_alloc_last _ _) (dR.out _ HD.out) (yw.out _ HD.out) (rH _) ?_)))
 have H4:Hid (V2 w 24 (cD key) 24 (cD d32) ((w3.alloc (.cells (cD d32) 24)).setRow w3.heap.size (cD d))):=ae (H3.out.grow (aC (ag w3 _) (Nat.le_refl _) _));have HI4:Hid (AV w3.heap.size 24 (cD d) ((w3.alloc (.cells (cD d32) 24)).setRow w3.heap.size (cD d))):=ae ((AV.new w3 _ _).oH _);generalize (w3.alloc (.cells (cD d32) 24)).setRow w3.heap.size (cD d)=W4 at H4 HI4 ⊢;obtain ⟨ib,hib⟩:∃b,w3.heap.size=b:=⟨_,rfl⟩;rw [hib] at HI4 hw3 ⊢;clear hib H3;have hw4:=H4.out.r.lt;go_wp2_with ((with_reducible refine jy 24 ?_);go_must (refine bG rfl _ _ rfl w.heap.size rfl (cD key) H4.out.s.lu _ Tryz.underlying24 rfl (dR.out _ rD.out) ?_));refine (Fg 92 key W4 rD.out (by omega) (by omega)).mono ?_;rintro e w5 ⟨A5,n5,c5,l5,rfl,o5,k5⟩;have hn5:n5=64:=by rw [←l5,ug _ _ rD.out]
 subst hn5;obtain ⟨b5,hb5⟩:∃l,xm 92 key=l:=⟨_,rfl⟩;rw [hb5] at o5 l5;have H5:=ae (H4.out.grow k5.jC);have QV:=ae (HI4.out.below k5.jC);have sH:=ae o5;have YP:=ae l5;have hs5:W4.heap.size≤w5.heap.size:=k5.size;clear o5 k5 l5 hb5 H4 HI4;go_wp2_with ((with_reducible refine jy 24 ?_);go_must (refine bG rfl _ _ rfl ib rfl (cD d) QV.out.lu _ Tryz.underlying24 rfl (dR.out _ HD.out) ?_));refine (yQ d w5 HD.out).mono ?_;rintro e w6 ⟨A6,n6,c6,l6,rfl,o6,k6⟩;have hn6:n6=32:=by rw [←l6,HD.out]
 subst hn6;have H6:=ae (H5.out.grow k6.jC);have yG:=ae (sH.out.below k6.jC);have rq:=ae (aB.fA o6);have hs6:W4.heap.size≤w6.heap.size:=Nat.le_trans hs5 k6.size;clear o6 k6 l6 H5 sH QV;go_wp2_with (at_builtin;go_must (refine nH rfl _ _ rfl W4.heap.size 64 c5 A5 b5 rfl yG.out _ A6 32 c6 d rfl HD.out (by omega) rq.out (by omega) hs6 ?_));intro A7 c7 w7 o7 k7;have H7:=ae (H6.out.OH (k7.xE yG.out.base hs6) hw4);have VC:=ae o7;clear o7 k7 H6 yG rq;go_wp2_with fail;refine (UU (64+32) c7 A7 (b5++d) w7 (by rw [bF,YP.out,HD.out]) (by omega) (by omega) (aB.fA VC.out)).mono ?_;rintro e w8 ⟨d2,hd2,rfl,hb8⟩;have H8:=ae (H7.out.grow hb8);have HD2:=ae hd2;clear H7 VC hb8 hd2 YP;go_wp2_with ((with_reducible refine eQ 24 ?_);go_must (refine wpList_store_row rfl _ _ _ rfl (w.heap.size+1) (cD d2) rfl rfl 24 (cD d32) H8.out.r.var (dR.out _ HD2.out) (yw.out _ HD2.out) (rH _) ?_));refine bodyPost_ret (v:= .agg (cD d2)) (results_cell_row rfl _ _ (w.heap.size+1) _ (cD d2) (0,0) _ rfl (setRow_heap _ _ _ _ _ _ H8.out.r.var) Tryz.underlying24 rfl (dR.out _ HD2.out)) rfl ?_;exact ⟨d2,HD2.out,rfl,aC H8.out.lo (Nat.le_succ _) _⟩
def TReadR (w:World) (t:Tb) (n:Nat) (e:Ending) (w':World):Prop:=
 ∃A c ys,e= .returned (.tuple #[.agg (ai {t with bJ:=aS} (.slice A n c)),I 0])∧gX w.heap.size w' (.slice A n c) ys∧ys.map (·.e)=t.aK∧Below w.heap.size w w'
theorem lF.mac0 {t:Tb} (h:lF t):lF {t with bJ:=aS}:=⟨h.bC,h.version,h.aH,h.prev,rfl,h.first,h.num,h.flat,h.short⟩
theorem DD (w:World) (t:Tb) (n N b off c:Nat) (h:lF t) (hn:t.aK.length=n) (hN:(fF t).length=N) (hup:∀ys:List dA,ys.map (·.e)=t.aK→rF ys) (hbl:b<w.heap.size) (hc1:N≤c) (hc2:c≤9223372036854775807)
  (hA:∀j,j<N→w.cell? ⟨b,off+j,none⟩=some (Extern.Stop.cell ((fF t)[j]?.getD 0))):
  Calls Tryz.prog 6 #[.slice (some ⟨b,off,none⟩) N c] w (TReadR w t n):=by
 have HF:=ae h.mac0;have dR:Hid (∀v,(Tryz.prog.info? 32).map (·.size)=some (ai {t with bJ:=aS} v).size):=ae fun v=>bP _ v h.prev rfl;have rE:Hid (∀v,(ai bn (.slice none 0 0)).size=(ai {t with bJ:=aS} v).size):=ae fun v=>by exact (aZ bn _ rfl rfl).trans (aZ {t with bJ:=aS} v h.prev rfl).symm
 have HN:=ae hn;have Ir:=ae hN;have Ob:=ae hup;obtain ⟨W,hW⟩:∃W,w.alloc (.cells (ai bn (.slice none 0 0)) 32)=W:=⟨_,rfl⟩;have hB:Below w.heap.size w W:=by rw [←hW];exact (Below.refl _ w).alloc (Nat.le_refl _) _
 have hs:W.heap.size=w.heap.size+1:=by rw [←hW];simp
 have ht:W.heap[w.heap.size]? =some (.cells (ai bn (.slice none 0 0)) 32 (0,0)):=by rw [←hW];exact heap_alloc_last w _
 have HA:=ae hA;have HB:=ae hB;have HS:=ae hs;have HT:=ae ht;have HC:=ae (Nr W t n N b off c h hn hN (by omega) hc1 hc2 fun j hj=>(hB.cell (p:=⟨b,off+j,none⟩) hbl).trans (hA j hj));have Bz:Hid (fF {t with bJ:=aS}=fF t):=ae rfl;clear h hn hN hA hB hs ht hup;go_enter Tryz.func6,Tryz.ntmps6;go_wp2_with fail;rw [fK,hW];refine HC.out.mono ?_;rintro e w2 ⟨A,c2,ys,rfl,hz2,he2,hb2⟩;have hs0:=HS.out;have HZ2:=ae hz2;have HE2:=ae he2;have nR:=ae (ah HB.out hb2);have HT2:Hid (w2.heap[w.heap.size]? =some (.cells (ai bn (.slice none 0 0)) 32 (0,0))):=ae ((hb2.block _ (by omega)).trans HT.out);have hl2:w.heap.size+1≤w2.heap.size:=by have:=hb2.size;omega
 clear hz2 he2 hb2 hW HC HB HS HT;go_wp2_with (first
  |(with_reducible refine bu 32 ?_;refine bH rfl _ rfl (ai bn (.slice none 0 0)) fK ?_)
  |(with_reducible refine bV 32 ?_;refine cZ rfl _ _ _ rfl (ai {t with bJ:=aS} (.slice A n c2)) rfl rfl 32 (ai bn (.slice none 0 0)) rfl (dR.out _) (rE.out _) (aT _ _ _ _) ?_;intro W3 hb3 hl3 hr3;have HB3:=ae hb3;have HR3:=ae hr3;have HZ3:=ae (HZ2.out.below hb3);clear hb3 hr3)
  |(with_reducible refine dM 32 ?_;refine aV rfl _ _ rfl w2.heap.size rfl (ai {t with bJ:=aS} (.slice A n c2)) HR3.out _ Tryz.underlying32 rfl (dR.out _) ?_))
 refine (sN {t with bJ:=aS} A n c2 W.heap.size ys W3 HF.out HE2.out.symm (by rw [←HN.out,←HE2.out,List.length_map]) HZ3.out (Ob.out ys HE2.out)).mono ?_;rintro e w4 ⟨⟨g4,c4,rfl,CS⟩,hb4⟩;rw [Bz.out,Ir.out] at CS ⊢;have TZ:=nR.out.trans (HB3.out.mono (by omega));have MB:=TZ.trans (hb4.mono (by omega));have HB4:=ae MB;have HR4:Hid (Row w4 w2.heap.size (ai {t with bJ:=aS} (.slice A n c2))):=ae (HR3.out.keep hb4);have Og:Hid (gX W.heap.size w4 (.slice A n c2) ys):=ae (HZ3.out.below hb4);have HT4:Hid (w4.heap[w.heap.size]? =some (.cells (ai bn (.slice none 0 0)) 32 (0,0))):=ae ((hb4.block _ (by omega)).trans ((HB3.out.block _ (by omega)).trans HT2.out));have h1:BytesAt w4 w4.heap.size (some ⟨g4,0,none⟩) (fF t):=by
  obtain ⟨A',c',hv,_,_,_,hy⟩:=uh (bs:=fF t) (by rw [Ir.out];exact CS);injection hv with e1 e2 e3;subst e1;exact hy
 have h2:BytesAt w4 w.heap.size (some ⟨b,off,none⟩) (fF t):= .inr ⟨b,off,rfl,hbl,fun j hj=>(MB.cell (p:=⟨b,off+j,none⟩) hbl).trans (HA.out j (by have:=Ir.out;omega))⟩;have KJ:Hid (Calls Tryz.prog 21 #[.slice (some ⟨g4,0,none⟩) N c4, .slice (some ⟨b,off,none⟩) N c] w4 fun e w'=>e= .returned (.bool true)∧w'=w4):=ae (by
  have h:=ui w4 (some ⟨g4,0,none⟩) (some ⟨b,off,none⟩) (fF t) (fF t) c4 c _ _ h1 h2;rw [Ir.out] at h;simpa using h)
 clear CS hb4 TZ MB h1 h2 HB3 HR3 HZ3 HT2 HZ2 nR;go_wp2_with fail;refine KJ.out.mono ?_;rintro e w5 ⟨rfl,rfl⟩;go_wp2_with (first
  |(with_reducible refine dM 32 ?_;refine aV rfl _ _ rfl w2.heap.size rfl (ai {t with bJ:=aS} (.slice A n c2)) HR4.out _ Tryz.underlying32 rfl (dR.out _) ?_)
  |(with_reducible refine bV 32 ?_;refine wpList_store_row rfl _ _ _ rfl w.heap.size (ai {t with bJ:=aS} (.slice A n c2)) rfl rfl 32 (ai bn (.slice none 0 0)) HT4.out (dR.out _) (rE.out _) (aT _ _ _ _) ?_))
 refine bodyPost_ret (v:= .tuple #[.agg (ai {t with bJ:=aS} (.slice A n c2)),I 0]) (bQ rfl _ _ w.heap.size _ (ai {t with bJ:=aS} (.slice A n c2)) (0,0) _ rfl (setRow_heap _ _ _ _ _ _ HT4.out) Tryz.underlying32 rfl (dR.out _) _ rfl) rfl ?_;refine ⟨A,c2,ys,rfl,(Og.out.aQ ?_ fun k h1 h2=>setRow_other _ _ k _ (by omega)).lower (by omega),HE2.out,below_setRow HB4.out (Nat.le_refl _) _⟩;simp [World.setRow]
end Go.Proofs.YtdibbemgpikgjaaGreat
