/- The texts Ko, Kr, Ks, Kt, Ku, in this order. -/
import Derived.Test.YtdibbemgpikgjaaGreatDoorW00
import Derived.Test.YtdibbemgpikgjaaGreatDoorW03
import Derived.Test.YtdibbemgpikgjaaGreatDoorW05
import Derived.Test.YtdibbemgpikgjaaGreatDoorW08
set_option maxRecDepth 10000
set_option maxHeartbeats 8000000
namespace Go.Proofs.YtdibbemgpikgjaaGreatDoor
open Go Go.RowKit
def UF (r:Lr):List UInt8:=le r.every 2++(le r.rest 2++le (NW r.yes) 1)
def uj (c:Cal):List UInt8:=le c.aY 4++(le c.az.length 1++(c.az.flatMap (le · 1)++(le (c.dP+1) 1++(le c.rules.length 1++c.rules.flatMap UF))))
structure C14 (c:Cal):Prop where
 ep:fits c.aY
 mo:c.az.length≤1000
 all:∀x∈c.az,fits x
 le: -1≤c.dP∧c.dP≤1000
 ru:c.rules.length≤1000
 rl:∀r∈c.rules,fits r.every∧fits r.rest
theorem qM {α β:Type} (f:α→List β) (l:List α) (k:Nat) (x:α) (hx:l[k]? =some x):(l.take (k+1)).flatMap f=(l.take k).flatMap f++f x:=by
 rw [List.take_add_one,hx,List.flatMap_append];simp
theorem iD {α β:Type} (f:α→List β) (l:List α) (s k:Nat) (h:∀x,(f x).length=s):((l.take k).flatMap f).length≤l.length*s:=by
 have e:∀m:List α,(m.flatMap f).length=m.length*s:=by
  intro m
  induction m with
  |nil=>simp
  |cons x m ih=>rw [List.flatMap_cons,aZ,h,ih,List.length_cons,Nat.succ_mul,Nat.add_comm]
 rw [e,List.length_take];exact Nat.mul_le_mul_right s (by omega)
theorem FZ (r:Lr):(UF r).length=5:=by simp [UF,aC]
structure CB (lo:Nat) (v0:Value) (w:World) (cs:Array Value) (bs:List UInt8) (A:Option Addr) (n c:Nat) (W:World):Prop where
 row:Row W w.heap.size cs
 own:nJ lo W A n c bs
 len:bs.length=n
 keep:uK v0 w (.slice A n c) W
 far:some w.heap.size≠(Value.slice A n c).ownBlock
theorem CB.start {lo n c:Nat} {A:Option Addr} {w:World} {bs:List UInt8} (cs:Array Value) (t:TypeId) (hO:nJ lo w A n c bs) (hl:bs.length=n):CB lo (.slice A n c) w cs bs A n c (w.alloc (.cells cs t)):=
 ⟨Row.new w cs t,nJ.below hO (ag w _),hl,(uK.refl _ w).below (ag w _),fun e=>by have:=(World.ownsRow.lt hO _ e.symm).2;omega⟩
theorem CB.next {lo n c n' c':Nat} {v0:Value} {A A':Option Addr} {w W W':World} {cs:Array Value} {bs bs':List UInt8} (h:CB lo v0 w cs bs A n c W) (hO:nJ lo W' A' n' c' bs') (hl:bs'.length=n') (hk:uK (.slice A n c) W (.slice A' n' c') W'):CB lo v0 w cs bs' A' n' c' W':=by
 have hlt:=h.row.1;refine ⟨⟨dQ hlt hk.size,fun i=>(World.cell?_of_block (a:=⟨w.heap.size,i,none⟩) (hk.block _ hlt h.far)).trans (h.row.2 i)⟩,hO,hl,h.keep.trans hk,?_⟩;rcases hk.own with e|⟨b,e,hb⟩
 ·rw [e];exact h.far
 ·rw [e];intro h';injection h' with h';omega
theorem CB.low {lo n c n0 c0:Nat} {A A0:Option Addr} {w W:World} {cs:Array Value} {bs bs0:List UInt8} (h:CB lo (.slice A0 n0 c0) w cs bs A n c W) (hO:nJ lo w A0 n0 c0 bs0) (hlo:lo≤w.heap.size):Below lo w W:=h.keep.wI (nJ.base hO) hlo
def GZ (lo:Nat) (v0:Value) (w:World) (cs:Array Value) (pre:Nat→List UInt8) (m:Nat) (b i:Value) (wr:World):Prop:=
 ∃(k n c:Nat) (A:Option Addr),k≤m∧b= .slice A n c∧i= .int .i64 k∧CB lo v0 w cs (pre k) A n c wr
theorem KI (lo n c0:Nat) (A0:Option Addr) (bs:List UInt8) (c:Cal) (A R:Option Addr) (a r:Nat) (w:World) (hl:bs.length=n) (hn:n≤100000) (hc:C14 c) (hm:oq w lo A R c) (hlo:lo≤w.heap.size) (hO:nJ lo w A0 n c0 bs):
  Calls Tryz.prog 89 #[.slice A0 n c0, .agg (aF c A a R r)] w (Xi lo (.slice A0 n c0) w (bs++uj c)):=by
 obtain ⟨ep,mo,lp,ru⟩:=c;obtain ⟨x0,x1,x2,x3,x4,x5⟩:=hc;obtain ⟨y0,y1⟩:=hm;simp only at x0 x1 x2 x3 x4 x5 y0 y1;unfold aF;simp only;obtain ⟨nm,hnm⟩:∃n,mo.length=n:=⟨_,rfl⟩;obtain ⟨nr,hnr⟩:∃n,ru.length=n:=⟨_,rfl⟩;have FM:=ae (fun k=>iD (le · 1) mo 1 k (fun _=>aC _ _));have FR:=ae (fun k=>iD UF ru 5 k FZ);have xZ:=ae x2;have nY:=ae x5;have HY0:=ae y0;have QN:=ae y1;have AL:=ae hO;have XE:=ae hnm;have HNR:=ae hnr;rw [hnm] at x1 FM ⊢;rw [hnr] at x4 FR ⊢;have HB:=ae (CB.start #[I ep, .slice A nm a,I lp, .slice R nr r] 63 hO hl);have wl:IntKind.i64.wrap (lp+1)=lp+1:=by rw [IntKind.wrap_i64];omega
 clear x2 x5 y0 y1 hO hnm hnr;go_enter Tryz.func89,Tryz.ntmps89;go_wp2_with fail;refine (dR lo _ _ 4 _ _ ep _ HB.out.len (by have h:=HB.out.len;(try simp only [aZ,aC] at h);omega) (by omega) x0 (Nat.le_trans hlo HB.out.keep.size) HB.out.own).mono ?_;rintro e w1 ⟨A1,n1,c1,l1,rfl,o1,k1⟩;have H1:=ae (HB.out.next o1 l1 k1);clear l1 o1 k1;have q0:(w1).cell? ⟨w.heap.size,0,none⟩=some (I ep):=H1.out.row.2 0;have q1:(w1).cell? ⟨w.heap.size,1,none⟩=some (.slice A nm a):=H1.out.row.2 1;have q2:(w1).cell? ⟨w.heap.size,2,none⟩=some (I lp):=H1.out.row.2 2;have q3:(w1).cell? ⟨w.heap.size,3,none⟩=some (.slice R nr r):=H1.out.row.2 3;go_wp2_with fail;refine (dR lo _ _ 1 _ _ nm _ H1.out.len (by have h:=H1.out.len;(try simp only [aZ,aC] at h);omega) (by omega) ⟨by omega,by omega⟩ (Nat.le_trans hlo H1.out.keep.size) H1.out.own).mono ?_;rintro e w2 ⟨A2,n2,c2,l1,rfl,o1,k1⟩;have H2:=ae (H1.out.next o1 l1 k1);clear l1 o1 k1;clear q0 q1 q2 q3;have q0:(w2).cell? ⟨w.heap.size,0,none⟩=some (I ep):=H2.out.row.2 0;have q1:(w2).cell? ⟨w.heap.size,1,none⟩=some (.slice A nm a):=H2.out.row.2 1;have q2:(w2).cell? ⟨w.heap.size,2,none⟩=some (I lp):=H2.out.row.2 2;have q3:(w2).cell? ⟨w.heap.size,3,none⟩=some (.slice R nr r):=H2.out.row.2 3;go_wp2_with fail
 go_loopw [0,5] (fun b i wr=>GZ lo (.slice A0 n c0) w #[I ep, .slice A nm a,I lp, .slice R nr r] (fun k=>bs++le ep 4++le nm 1++(mo.take k).flatMap (le · 1)) nm b i wr) (fun _ i _=>nm - (intOf i).toNat)
 case atStart=>exact ⟨0,n2,c2,A2,Nat.zero_le _,rfl,by go_num,by simpa using H2.out⟩
 case round=>
  obtain ⟨k,n3,c3,A3,hk,rfl,rfl,hb3⟩:=hrel;have HB3:=ae hb3;clear hb3 q0 q1 q2 q3;have q0:(wr).cell? ⟨w.heap.size,0,none⟩=some (I ep):=HB3.out.row.2 0;have q1:(wr).cell? ⟨w.heap.size,1,none⟩=some (.slice A nm a):=HB3.out.row.2 1;have q2:(wr).cell? ⟨w.heap.size,2,none⟩=some (I lp):=HB3.out.row.2 2;have q3:(wr).cell? ⟨w.heap.size,3,none⟩=some (.slice R nr r):=HB3.out.row.2 3;by_cases hlt:(k:Int)<(nm:Int)
  ·obtain ⟨b,off,rfl,nO,hcl⟩:=(HY0.out.keep (HB3.out.low AL.out hlo)).there (by rw [List.length_map,XE.out];omega);have hx:mo[k]? =some (mo[k]'(by rw [XE.out];omega)):=dw _;obtain ⟨x,hxx⟩:∃x,mo[k]'(by rw [XE.out];omega)=x:=⟨_,rfl⟩;rw [hxx] at hx;have v0:wr.cell? ⟨b,off+k,none⟩=some (I x):=hcl k _ (by rw [List.getElem?_map,hx];rfl);have HX:=ae hx;have hfx:=xZ.out x (fZ hx);clear hcl hx hxx;go_wp2_with fail;refine (dR lo _ _ 1 _ _ x _ HB3.out.len (by have h:=HB3.out.len;have g:=FM.out k;(try simp only [aZ,aC] at h);omega) (by omega) hfx (Nat.le_trans hlo HB3.out.keep.size) HB3.out.own).mono ?_;rintro e w4 ⟨A4,n4,c4,l1,rfl,o1,k1⟩;have H4:=ae (HB3.out.next o1 l1 k1);clear l1 o1 k1;go_wp2_with fail;go_roundw
   case rel=>exact ⟨k+1,n4,c4,A4,by omega,rfl,by go_num,by show CB _ _ _ _ (_++(mo.take (k+1)).flatMap (le · 1)) _ _ _ _;rw [qM _ _ _ _ HX.out,←List.append_assoc];exact H4.out⟩
   case measure=>simp [intOf];omega
  ·have hk2:k=nm:=by omega
   subst hk2;clear hlt;go_wp2_with fail;refine (dR lo _ _ 1 _ _ (lp+1) _ HB3.out.len (by have h:=HB3.out.len;have g:=FM.out k;(try simp only [aZ,aC] at h);omega) (by omega) ⟨by omega,by omega⟩ (Nat.le_trans hlo HB3.out.keep.size) HB3.out.own).mono ?_;rintro e w5 ⟨A5,n5,c5,l1,rfl,o1,k1⟩;have H5:=ae (HB3.out.next o1 l1 k1);clear l1 o1 k1;clear q0 q1 q2 q3;have q0:(w5).cell? ⟨w.heap.size,0,none⟩=some (I ep):=H5.out.row.2 0;have q1:(w5).cell? ⟨w.heap.size,1,none⟩=some (.slice A k a):=H5.out.row.2 1;have q2:(w5).cell? ⟨w.heap.size,2,none⟩=some (I lp):=H5.out.row.2 2;have q3:(w5).cell? ⟨w.heap.size,3,none⟩=some (.slice R nr r):=H5.out.row.2 3;go_wp2_with fail;refine (dR lo _ _ 1 _ _ nr _ H5.out.len (by have h:=H5.out.len;have g:=FM.out k;(try simp only [aZ,aC] at h);omega) (by omega) ⟨by omega,by omega⟩ (Nat.le_trans hlo H5.out.keep.size) H5.out.own).mono ?_;rintro e w6 ⟨A6,n6,c6,l1,rfl,o1,k1⟩;have H6:=ae (H5.out.next o1 l1 k1);clear l1 o1 k1;clear q0 q1 q2 q3;have q0:(w6).cell? ⟨w.heap.size,0,none⟩=some (I ep):=H6.out.row.2 0;have q1:(w6).cell? ⟨w.heap.size,1,none⟩=some (.slice A k a):=H6.out.row.2 1;have q2:(w6).cell? ⟨w.heap.size,2,none⟩=some (I lp):=H6.out.row.2 2;have q3:(w6).cell? ⟨w.heap.size,3,none⟩=some (.slice R nr r):=H6.out.row.2 3;go_wp2_with fail
   go_loopw [0,6] (fun b i wr=>GZ lo (.slice A0 n c0) w #[I ep, .slice A k a,I lp, .slice R nr r] (fun j=>(bs++le ep 4++le k 1++(mo.take k).flatMap (le · 1))++le (lp+1) 1++le nr 1++(ru.take j).flatMap UF) nr b i wr) (fun _ i _=>nr - (intOf i).toNat)
   case atStart=>exact ⟨0,n6,c6,A6,Nat.zero_le _,rfl,by go_num,by simpa using H6.out⟩
   case round=>
    obtain ⟨j,n7,c7,A7,hj,rfl,rfl,hb7⟩:=hrel;have qy:=ae hb7;clear hb7 q0 q1 q2 q3;have q0:(wr).cell? ⟨w.heap.size,0,none⟩=some (I ep):=qy.out.row.2 0;have q1:(wr).cell? ⟨w.heap.size,1,none⟩=some (.slice A k a):=qy.out.row.2 1;have q2:(wr).cell? ⟨w.heap.size,2,none⟩=some (I lp):=qy.out.row.2 2;have q3:(wr).cell? ⟨w.heap.size,3,none⟩=some (.slice R nr r):=qy.out.row.2 3;by_cases hlt:(j:Int)<(nr:Int)
    ·obtain ⟨b,off,rfl,nO,hcl⟩:=QN.out.there (by rw [dN (s:=3) Lr.cells ru (fun _ _=>rfl),HNR.out];omega);have hx:ru[j]? =some (ru[j]'(by rw [HNR.out];omega)):=dw _;obtain ⟨x,hxx⟩:∃x,ru[j]'(by rw [HNR.out];omega)=x:=⟨_,rfl⟩;rw [hxx] at hx;have Ed:Hid (∀i u,x.cells[i]? =some u→w.cell? ⟨b,off+j*3+i,none⟩=some u):=ae (fun i u hu=>by rw [Nat.add_assoc];exact hcl _ _ (by rw [flat_get (s:=3) Lr.cells ru (fun _ _=>rfl) j i x hx (by have:=(gu.1 hu).1;simpa [Lr.cells] using this)];exact hu));have HX:=ae hx;have hfx:=nY.out x (fZ hx);clear hcl hx hxx;have z0:(wr).cell? ⟨b,off+j*3,none⟩=some (I x.every):=((qy.out.low AL.out hlo).cell (p:=⟨b,off+j*3,none⟩) nO).trans (Ed.out 0 _ rfl);have z1:(wr).cell? ⟨b,off+j*3+1,none⟩=some (I x.rest):=((qy.out.low AL.out hlo).cell (p:=⟨b,off+j*3+1,none⟩) nO).trans (Ed.out 1 _ rfl);have z2:(wr).cell? ⟨b,off+j*3+2,none⟩=some (.bool x.yes):=((qy.out.low AL.out hlo).cell (p:=⟨b,off+j*3+2,none⟩) nO).trans (Ed.out 2 _ rfl);go_wp2_with fail;refine (dR lo _ _ 2 _ _ x.every _ qy.out.len (by have h:=qy.out.len;have g:=FM.out k;have g2:=FR.out j;(try simp only [aZ,aC] at h);omega) (by omega) hfx.1 (Nat.le_trans hlo qy.out.keep.size) qy.out.own).mono ?_;rintro e w8 ⟨A8,n8,c8,l1,rfl,o1,k1⟩;have H8:=ae (qy.out.next o1 l1 k1);clear l1 o1 k1;clear q0 q1 q2 q3 z0 z1 z2;have q0:(w8).cell? ⟨w.heap.size,0,none⟩=some (I ep):=H8.out.row.2 0;have q1:(w8).cell? ⟨w.heap.size,1,none⟩=some (.slice A k a):=H8.out.row.2 1;have q2:(w8).cell? ⟨w.heap.size,2,none⟩=some (I lp):=H8.out.row.2 2;have q3:(w8).cell? ⟨w.heap.size,3,none⟩=some (.slice (some ⟨b,off,none⟩) nr r):=H8.out.row.2 3;have z0:(w8).cell? ⟨b,off+j*3,none⟩=some (I x.every):=((H8.out.low AL.out hlo).cell (p:=⟨b,off+j*3,none⟩) nO).trans (Ed.out 0 _ rfl);have z1:(w8).cell? ⟨b,off+j*3+1,none⟩=some (I x.rest):=((H8.out.low AL.out hlo).cell (p:=⟨b,off+j*3+1,none⟩) nO).trans (Ed.out 1 _ rfl);have z2:(w8).cell? ⟨b,off+j*3+2,none⟩=some (.bool x.yes):=((H8.out.low AL.out hlo).cell (p:=⟨b,off+j*3+2,none⟩) nO).trans (Ed.out 2 _ rfl);go_wp2_with fail;refine (dR lo _ _ 2 _ _ x.rest _ H8.out.len (by have h:=H8.out.len;have g:=FM.out k;have g2:=FR.out j;(try simp only [aZ,aC] at h);omega) (by omega) hfx.2 (Nat.le_trans hlo H8.out.keep.size) H8.out.own).mono ?_;rintro e w9 ⟨A9,n9,c9,l1,rfl,o1,k1⟩;have H9:=ae (H8.out.next o1 l1 k1);clear l1 o1 k1;clear q0 q1 q2 q3 z0 z1 z2;have q0:(w9).cell? ⟨w.heap.size,0,none⟩=some (I ep):=H9.out.row.2 0;have q1:(w9).cell? ⟨w.heap.size,1,none⟩=some (.slice A k a):=H9.out.row.2 1;have q2:(w9).cell? ⟨w.heap.size,2,none⟩=some (I lp):=H9.out.row.2 2;have q3:(w9).cell? ⟨w.heap.size,3,none⟩=some (.slice (some ⟨b,off,none⟩) nr r):=H9.out.row.2 3;have z0:(w9).cell? ⟨b,off+j*3,none⟩=some (I x.every):=((H9.out.low AL.out hlo).cell (p:=⟨b,off+j*3,none⟩) nO).trans (Ed.out 0 _ rfl);have z1:(w9).cell? ⟨b,off+j*3+1,none⟩=some (I x.rest):=((H9.out.low AL.out hlo).cell (p:=⟨b,off+j*3+1,none⟩) nO).trans (Ed.out 1 _ rfl);have z2:(w9).cell? ⟨b,off+j*3+2,none⟩=some (.bool x.yes):=((H9.out.low AL.out hlo).cell (p:=⟨b,off+j*3+2,none⟩) nO).trans (Ed.out 2 _ rfl);go_wp2_with fail;refine (Zw x.yes _).mono ?_;rintro e wf ⟨rfl,rfl⟩;go_wp2_with fail;refine (dR lo _ _ 1 _ _ (NW x.yes) _ H9.out.len (by have h:=H9.out.len;have g:=FM.out k;have g2:=FR.out j;(try simp only [aZ,aC] at h);omega) (by omega) (by unfold NW;split<;>exact ⟨by omega,by omega⟩) (Nat.le_trans hlo H9.out.keep.size) H9.out.own).mono ?_;rintro e w10 ⟨A10,n10,c10,l1,rfl,o1,k1⟩;have Yf:=ae (H9.out.next o1 l1 k1);clear l1 o1 k1;go_wp2_with fail;go_roundw
     case rel=>exact ⟨j+1,n10,c10,A10,by omega,rfl,by go_num,by show CB _ _ _ _ (_++(ru.take (j+1)).flatMap UF) _ _ _ _;rw [qM _ _ _ _ HX.out,←List.append_assoc];simpa [UF,List.append_assoc] using Yf.out⟩
     case measure=>simp [intOf];omega
    ·have hj2:j=nr:=by omega
     have HJ:=ae hj2;clear hj2;go_wp2_with fail;go_ret;have hb:=qy.out;rw [HJ.out,List.take_of_length_le (Nat.le_of_eq HNR.out),List.take_of_length_le (Nat.le_of_eq XE.out)] at hb;refine ⟨A7,n7,c7,?_,rfl,?_,hb.keep⟩
     ·rw [←hb.len];simp [uj,XE.out,HNR.out,List.append_assoc]
     ·have:=hb.own;simpa [uj,XE.out,HNR.out,List.append_assoc] using this
theorem CB.fresh (w:World) (cs:Array Value) (t:TypeId):CB w.heap.size (.slice none 0 0) w cs [] (some ⟨w.heap.size+1,0,none⟩) 0 0 ((w.alloc (.cells cs t)).alloc (.cells #[] 5)):=by
 have hb:Below w.heap.size w ((w.alloc (.cells cs t)).alloc (.cells #[] 5)):=ah (ag w _) (ag _ _);have ho:=gI (w.alloc (.cells cs t)) 5 1;refine ⟨(Row.new w cs t).keep (ag _ _),nJ.lower (lo:=w.heap.size+1) (by simpa [nJ] using ho) (by omega),rfl,⟨hb.os,hb.tape,hb.output,hb.size,fun k hk _=>hb.block k hk, .inr ⟨w.heap.size+1,rfl,by omega⟩⟩,fun e=>?_⟩;have h:w.heap.size=w.heap.size+1:=Option.some.inj e;omega
theorem take_snoc {α:Type} (l:List α) (k:Nat) (x:α) (hx:l[k]? =some x):l.take (k+1)=l.take k++ [x]:=by
 rw [List.take_add_one,hx];rfl
theorem CB.grown {lo n c n' c':Nat} {v0:Value} {A A':Option Addr} {w W W':World} {o:Obj} {cs:Array Value} {bs bs':List UInt8} (h:CB lo v0 w cs bs A n c W) (hO:nJ lo W' A' n' c' bs') (hl:bs'.length=n') (hg:(W.alloc o).grownBy W' (Value.slice A n c).ownBlock) (hat:(Value.slice A' n' c').ownBlock=(Value.slice A n c).ownBlock∨(Value.slice A' n' c').ownBlock=some (W.heap.size+1)):CB lo v0 w cs bs' A' n' c' W':=
 h.next hO hl (uK.app hg (hat.imp id fun e=>e.trans (by simp)))
theorem yw (d:List UInt8) (w:World) (hd:d.length=32):
  Calls Tryz.prog 55 #[.agg (aj d).toArray] w (Xi w.heap.size (.slice none 0 0) w d):=by
 obtain ⟨i0,hi,hz0,hz1,hz2⟩:=info_parts kG;have HI:=ae hi;have HZ0:=ae hz0;have HZ1:=ae hz1;have HZ2:=ae hz2;clear hi hz0 hz1 hz2;have HF:=ae (CB.fresh w (aj d).toArray 23);have HD:=ae hd;clear hd;go_enter Tryz.func55,Tryz.ntmps55;go_wp2_with fail
 go_loopw [3,4] (fun b i wr=>GZ w.heap.size (.slice none 0 0) w (aj d).toArray (fun k=>d.take k) 32 b i wr) (fun _ i _=>32 - (intOf i).toNat)
 case atStart=>exact ⟨0,0,0,_,Nat.zero_le _,rfl,by go_num,HF.out⟩
 case round=>
  obtain ⟨k,n,c,A,hk,rfl,rfl,hb⟩:=hrel;have HB:Hid (CB w.heap.size (.slice none 0 0) w (aj d).toArray (d.take k) A n c wr):=ae hb;have hn:n=k:=by rw [←hb.len];show (d.take k).length=k;rw [List.length_take,HD.out];omega
  have hsz:w.heap.size≤wr.heap.size:=hb.keep.size;clear hb;subst hn;by_cases hlt:(n:Int)<32
  ·obtain ⟨x,hx⟩:∃x,d[n]? =some x:=⟨_,dw (by rw [HD.out];omega)⟩;have v0:wr.cell? ⟨w.heap.size,n,none⟩=some (.int .u8 (x.toNat:Int)):=by rw [HB.out.row.2 n,List.getElem?_toArray];unfold aj;rw [List.getElem?_map,hx];rfl
   have HX:=ae hx;clear hx;obtain ⟨pre,hpre⟩:∃l,d.take n=l:=⟨_,rfl⟩;have DC:=ae hpre;rw [hpre] at HB;clear hpre;have Ny:=ae (World.ownsRow.alloc HB.out.own (.cells #[Value.int .u8 (x.toNat:Int)] 5));go_wp2_with (at_builtin;go_must (refine wpList_append_own_at _ rfl _ _ 32 rfl w.heap.size 5 i0 (.int .u8 0) 1 1 Tryz.underlying32 HI.out HZ0.out HZ1.out HZ2.out rfl (by decide) _ n ((pre).map Extern.Stop.cell) rfl Ny.out _ 1 1 [Value.int .u8 (x.toNat:Int)] rfl rfl (cell_one_new _ _ _) (wO _) (by unfold maxLen;omega) (by omega) (by simp;omega) ?_));intro v' w3 hown hg _ hat;obtain ⟨A',c',rfl⟩:=eG hown;have H2:=ae (HB.out.grown (bs':=d.take (n+1)) (by unfold nJ;rw [take_snoc d n x HX.out,DC.out,List.map_append];exact hown) (by rw [List.length_take,HD.out];omega) hg hat);clear hown hg hat;go_wp2_with fail;go_roundw
   case rel=>exact ⟨n+1,n+1,c',A',by omega,rfl,by go_num,H2.out⟩
   case measure=>simp [intOf];omega
  ·have HN:Hid (n=32):=ae (by omega);go_wp2_with fail;go_ret;have hb:=HB.out;rw [HN.out,List.take_of_length_le (Nat.le_of_eq HD.out)] at hb;have hn:=HN.out;subst hn;exact ⟨A,32,c,HD.out,rfl,hb.own,hb.keep⟩
def xb3 (m:Int) (x:UInt8):UInt8:=byteOf (bits BinOp.xor IntKind.u8 x.toNat m)
theorem WR (x:UInt8) (m:Int):0≤bits BinOp.xor IntKind.u8 x.toNat m∧bits BinOp.xor IntKind.u8 x.toNat m<256:=by
 unfold bits;simp only [IntKind.wrap,IntKind.bits,IntKind.signed];constructor
 ·exact Int.emod_nonneg _ (by decide)
 ·exact Int.emod_lt_of_pos _ (by decide)
theorem Ud (m:Int) (x:UInt8):Extern.Stop.cell (xb3 m x)= .int .u8 (bits BinOp.xor IntKind.u8 x.toNat m):=by
 obtain ⟨h1,h2⟩:=WR x m;unfold xb3;rw [dK];congr 1;omega
def rE (m:Int) (d:List UInt8):List UInt8:=d.map (xb3 m)++List.replicate 32 (byteOf m)
theorem ui (m:Int) (d:List UInt8) (h:d.length=32):(rE m d).length=64:=by simp [rE,h]
theorem Q9 (m:Int) (h0:0≤m) (h1:m<256):Extern.Stop.cell (byteOf m)= .int .u8 m:=by
 rw [dK];congr 1;omega
theorem Em (m:Int) (d:List UInt8) (w:World) (hd:d.length=32) (h0:0≤m) (h1:m<256):
  Calls Tryz.prog 67 #[.agg (aj d).toArray, .int .u8 m] w (Xi w.heap.size (.slice none 0 0) w (rE m d)):=by
 obtain ⟨i0,hi,hz0,hz1,hz2⟩:=info_parts kG;have HI:=ae hi;have HZ0:=ae hz0;have HZ1:=ae hz1;have HZ2:=ae hz2;clear hi hz0 hz1 hz2;have HF:=ae (CB.fresh w (aj d).toArray 23);have HD:=ae hd;obtain ⟨xs,hxs⟩:∃l,d.map (xb3 m)=l:=⟨_,rfl⟩;have ND:Hid (xs.length=32):=ae (by rw [←hxs,List.length_map,hd]);have uY:=ae hxs;obtain ⟨ys,hys⟩:∃l,List.replicate 32 (byteOf m)=l:=⟨_,rfl⟩;have nZ:Hid (ys.length=32):=ae (by rw [←hys,List.length_replicate]);have HYS:=ae hys;have HM:=ae (Q9 m h0 h1);clear hd hxs hys;go_enter Tryz.func67,Tryz.ntmps67;go_wp2_with fail
 go_loopw [5,6] (fun b i wr=>GZ w.heap.size (.slice none 0 0) w (aj d).toArray (fun k=>xs.take k) 32 b i wr) (fun _ i _=>32 - (intOf i).toNat)
 case atStart=>exact ⟨0,0,0,_,Nat.zero_le _,rfl,by go_num,HF.out⟩
 case round=>
  obtain ⟨k,n,c,A,hk,rfl,rfl,hb⟩:=hrel;have HB:Hid (CB w.heap.size (.slice none 0 0) w (aj d).toArray (xs.take k) A n c wr):=ae hb;have hn:n=k:=by rw [←hb.len];show (xs.take k).length=k;rw [List.length_take,ND.out];omega
  have hsz:w.heap.size≤wr.heap.size:=hb.keep.size;clear hb;subst hn;by_cases hlt:(n:Int)<32
  ·obtain ⟨x,hx⟩:∃x,d[n]? =some x:=⟨_,dw (by rw [HD.out];omega)⟩;have v0:wr.cell? ⟨w.heap.size,n,none⟩=some (.int .u8 (x.toNat:Int)):=by rw [HB.out.row.2 n,List.getElem?_toArray];unfold aj;rw [List.getElem?_map,hx];rfl
   have HX:Hid (xs[n]? =some (xb3 m x)):=ae (by rw [←uY.out,List.getElem?_map,hx];rfl);have XK:=ae (Ud m x);clear hx;obtain ⟨pre,hpre⟩:∃l,xs.take n=l:=⟨_,rfl⟩;have DC:=ae hpre;rw [hpre] at HB;clear hpre;have Ny:=ae (World.ownsRow.alloc HB.out.own (.cells #[Value.int .u8 (bits BinOp.xor IntKind.u8 x.toNat m)] 5));go_wp2_with (at_builtin;go_must (refine wpList_append_own_at _ rfl _ _ 32 rfl w.heap.size 5 i0 (.int .u8 0) 1 1 Tryz.underlying32 HI.out HZ0.out HZ1.out HZ2.out rfl (by decide) _ n ((pre).map Extern.Stop.cell) rfl Ny.out _ 1 1 [Value.int .u8 (bits BinOp.xor IntKind.u8 x.toNat m)] rfl rfl (cell_one_new _ _ _) (wO _) (by unfold maxLen;omega) (by omega) (by simp;omega) ?_));intro v' w3 hown hg _ hat;obtain ⟨A',c',rfl⟩:=eG hown;have H2:=ae (HB.out.grown (bs':=xs.take (n+1)) (by unfold nJ;rw [take_snoc xs n _ HX.out,DC.out,List.map_append];show World.ownsRow _ _ _ _ _ _ (_++ [Extern.Stop.cell _]);rw [XK.out];exact hown) (by rw [List.length_take,ND.out];omega) hg hat);clear hown hg hat;go_wp2_with fail;go_roundw
   case rel=>exact ⟨n+1,n+1,c',A',by omega,rfl,by go_num,H2.out⟩
   case measure=>simp [intOf];omega
  ·have HN32:Hid (n=32):=ae (by omega);have HB3:Hid (CB w.heap.size (.slice none 0 0) w (aj d).toArray (xs++ys.take 0) A n c wr):=ae (by have hb:=HB.out;rw [HN32.out,List.take_of_length_le (Nat.le_of_eq ND.out),←HN32.out] at hb;simpa using hb);go_wp2_with fail
   go_loopw [5,7] (fun b i wr=>GZ w.heap.size (.slice none 0 0) w (aj d).toArray (fun k=>xs++ys.take k) 32 b i wr) (fun _ i _=>32 - (intOf i).toNat)
   case atStart=>exact ⟨0,n,c,A,Nat.zero_le _,rfl,by go_num,HB3.out⟩
   case round=>
    clear HB HB3 hsz hk hlt;obtain ⟨k,n2,c,A,hk,rfl,rfl,hb⟩:=hrel;have HB:Hid (CB w.heap.size (.slice none 0 0) w (aj d).toArray (xs++ys.take k) A n2 c wr):=ae hb;have hn:n2=32+k:=by rw [←hb.len];show (xs++ys.take k).length=32+k;rw [aZ,List.length_take,ND.out,nZ.out];omega
    have hsz:w.heap.size≤wr.heap.size:=hb.keep.size;clear hb;subst hn;by_cases hlt:(k:Int)<32
    ·have HX:Hid (ys[k]? =some (byteOf m)):=ae (by rw [←HYS.out,List.getElem?_replicate,if_pos (by omega)]);obtain ⟨pre,hpre⟩:∃l,xs++ys.take k=l:=⟨_,rfl⟩;have DC:=ae hpre;rw [hpre] at HB;clear hpre;have Ny:=ae (World.ownsRow.alloc HB.out.own (.cells #[Value.int .u8 m] 5));go_wp2_with (at_builtin;go_must (refine wpList_append_own_at _ rfl _ _ 32 rfl w.heap.size 5 i0 (.int .u8 0) 1 1 Tryz.underlying32 HI.out HZ0.out HZ1.out HZ2.out rfl (by decide) _ (32+k) ((pre).map Extern.Stop.cell) rfl Ny.out _ 1 1 [Value.int .u8 m] rfl rfl (cell_one_new _ _ _) (wO _) (by unfold maxLen;omega) (by omega) (by simp;omega) ?_));intro v' w3 hown hg _ hat;obtain ⟨A',c',rfl⟩:=eG hown;have H2:=ae (HB.out.grown (bs':=xs++ys.take (k+1)) (n':=32+k+1) (by unfold nJ;rw [take_snoc ys k _ HX.out,←List.append_assoc,DC.out,List.map_append];show World.ownsRow _ _ _ _ _ _ (_++ [Extern.Stop.cell _]);rw [HM.out];exact hown) (by rw [aZ,List.length_take,ND.out,nZ.out];omega) hg hat);clear hown hg hat;go_wp2_with fail;go_roundw
     case rel=>exact ⟨k+1,32+k+1,c',A',by omega,rfl,by go_num,H2.out⟩
     case measure=>simp [intOf];omega
    ·have HN:Hid (k=32):=ae (by omega);go_wp2_with fail;go_ret;have hb:=HB.out;have hk:=HN.out;subst hk;rw [List.take_of_length_le (Nat.le_of_eq nZ.out),←uY.out,←HYS.out] at hb;exact ⟨A,64,c,ui m d HD.out,rfl,hb.own,hb.keep⟩
structure PB (v0:Value) (w:World) (bs:List UInt8) (A:Option Addr) (n c:Nat) (W:World):Prop where
 own:nJ w.heap.size W A n c bs
 len:bs.length=n
 keep:uK v0 w (.slice A n c) W
theorem PB.grown {n c n' c':Nat} {v0:Value} {A A':Option Addr} {w W W':World} {o:Obj} {bs bs':List UInt8} (h:PB v0 w bs A n c W) (hO:nJ w.heap.size W' A' n' c' bs') (hl:bs'.length=n') (hg:(W.alloc o).grownBy W' (Value.slice A n c).ownBlock) (hat:(Value.slice A' n' c').ownBlock=(Value.slice A n c).ownBlock∨(Value.slice A' n' c').ownBlock=some (W.heap.size+1)):PB v0 w bs' A' n' c' W':=
 ⟨hO,hl,h.keep.trans (uK.app hg (hat.imp id fun e=>e.trans (by simp)))⟩
def lenV:Value→Nat
 | .slice _ m _=>m
 |_=>0
def Gh (n:Nat):Nat:=(120 - (n+1)%64)%64
theorem IQ (n:Nat):(n+1+Gh n)%64=56:=by unfold Gh;omega
theorem Og (n:Nat):Gh n<64:=Nat.mod_lt _ (by omega)
theorem PB.fresh {w W:World} {A:Option Addr} {n c:Nat} {bs:List UInt8} (h:nJ w.heap.size W A n c bs) (hl:bs.length=n) (hg:(w.alloc (.cells #[] 5)).grownBy W (some w.heap.size)) (hat:(Value.slice A n c).ownBlock=some w.heap.size∨(Value.slice A n c).ownBlock=some (w.heap.size+1)):PB (.slice none 0 0) w bs A n c W:=by
 refine ⟨h,hl,hg.os,hg.tape,hg.output,Nat.le_trans (by simp) hg.size,fun k hk _=>(hg.block k (by simp;omega) (fun e=>by injection e;omega)).trans (Below.heap_alloc w _ k hk), .inr ?_⟩;rcases hat with e|e
 ·exact ⟨_,e,by omega⟩
 ·exact ⟨_,e,by omega⟩
def dZ (x n:Int):Int:=bits BinOp.or IntKind.u32 (x / 2 ^ n.toNat) (x*2 ^ (32 - n).toNat%4294967296)
theorem TT (x n:Int) (w:World) (h0:0<n) (h1:n<32):
  Calls Tryz.prog 101 #[.int .u32 x,I n] w fun e w'=>e= .returned (.int .u32 (dZ x n))∧∃k,w'=w.drewN k:=by
 have h2:0≤32 - n:=by omega
 have h3:IntKind.i64.wrap (32 - n)=32 - n:=by rw [IntKind.wrap_i64];omega
 go_enter Tryz.func101,Tryz.ntmps101;go_wp2_with fail;go_quiet (fail);go_wp2_with fail;go_ret;exact ⟨rfl,_,rfl⟩
end Go.Proofs.YtdibbemgpikgjaaGreatDoor
