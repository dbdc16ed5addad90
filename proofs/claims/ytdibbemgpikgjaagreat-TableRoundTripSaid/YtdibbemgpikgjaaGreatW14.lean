/- The texts Ko, Kr, Ks, Kt, Ku, in this order. -/
import Derived.Test.YtdibbemgpikgjaaGreatW00
import Derived.Test.YtdibbemgpikgjaaGreatW05
import Derived.Test.YtdibbemgpikgjaaGreatW09
import Derived.Test.YtdibbemgpikgjaaGreatW13
set_option maxRecDepth 10000
set_option maxHeartbeats 8000000
namespace Go.Proofs.YtdibbemgpikgjaaGreat
open Go Go.RowKit
def Xr (r:Lr):List UInt8:=le r.every 2++(le r.rest 2++le (OC r.yes) 1)
def xn (c:Cal):List UInt8:=le c.aI 4++(le c.aj.length 1++(c.aj.flatMap (le · 1)++(le (c.aY+1) 1++(le c.rules.length 1++c.rules.flatMap Xr))))
structure C14 (c:Cal):Prop where
 ep:fits c.aI
 mo:c.aj.length≤1000
 all:∀x∈c.aj,fits x
 le: -1≤c.aY∧c.aY≤1000
 ru:c.rules.length≤1000
 rl:∀r∈c.rules,fits r.every∧fits r.rest
theorem qL {α β:Type} (f:α→List β) (l:List α) (k:Nat) (x:α) (hx:l[k]? =some x):(l.take (k+1)).flatMap f=(l.take k).flatMap f++f x:=by
 rw [List.take_add_one,hx,List.flatMap_append];simp
theorem iJ {α β:Type} (f:α→List β) (l:List α) (s k:Nat) (h:∀x,(f x).length=s):((l.take k).flatMap f).length≤l.length*s:=by
 have e:∀m:List α,(m.flatMap f).length=m.length*s:=by
  intro m
  induction m with
  |nil=>simp
  |cons x m ih=>rw [List.flatMap_cons,bF,h,ih,List.length_cons,Nat.succ_mul,Nat.add_comm]
 rw [e,List.length_take];exact Nat.mul_le_mul_right s (by omega)
theorem GY (r:Lr):(Xr r).length=5:=by simp [Xr,aA]
structure CB (lo:Nat) (v0:Value) (w:World) (cs:Array Value) (bs:List UInt8) (A:Option Addr) (n c:Nat) (W:World):Prop where
 row:Row W w.heap.size cs
 own:oq lo W A n c bs
 len:bs.length=n
 keep:uM v0 w (.slice A n c) W
 far:some w.heap.size≠(Value.slice A n c).ownBlock
theorem CB.start {lo n c:Nat} {A:Option Addr} {w:World} {bs:List UInt8} (cs:Array Value) (t:TypeId) (hO:oq lo w A n c bs) (hl:bs.length=n):CB lo (.slice A n c) w cs bs A n c (w.alloc (.cells cs t)):=
 ⟨Row.new w cs t,oq.below hO (ag w _),hl,(uM.refl _ w).below (ag w _),fun e=>by have:=(World.ownsRow.lt hO _ e.symm).2;omega⟩
theorem CB.next {lo n c n' c':Nat} {v0:Value} {A A':Option Addr} {w W W':World} {cs:Array Value} {bs bs':List UInt8} (h:CB lo v0 w cs bs A n c W) (hO:oq lo W' A' n' c' bs') (hl:bs'.length=n') (hk:uM (.slice A n c) W (.slice A' n' c') W'):CB lo v0 w cs bs' A' n' c' W':=by
 have hlt:=h.row.1;refine ⟨⟨dS hlt hk.size,fun i=>(World.cell?_of_block (a:=⟨w.heap.size,i,none⟩) (hk.block _ hlt h.far)).trans (h.row.2 i)⟩,hO,hl,h.keep.trans hk,?_⟩;rcases hk.own with e|⟨b,e,hb⟩
 ·rw [e];exact h.far
 ·rw [e];intro h';injection h' with h';omega
theorem CB.low {lo n c n0 c0:Nat} {A A0:Option Addr} {w W:World} {cs:Array Value} {bs bs0:List UInt8} (h:CB lo (.slice A0 n0 c0) w cs bs A n c W) (hO:oq lo w A0 n0 c0 bs0) (hlo:lo≤w.heap.size):Below lo w W:=h.keep.xE (oq.base hO) hlo
def IG (lo:Nat) (v0:Value) (w:World) (cs:Array Value) (pre:Nat→List UInt8) (m:Nat) (b i:Value) (wr:World):Prop:=
 ∃(k n c:Nat) (A:Option Addr),k≤m∧b= .slice A n c∧i= .int .i64 k∧CB lo v0 w cs (pre k) A n c wr
theorem LQ (lo n c0:Nat) (A0:Option Addr) (bs:List UInt8) (c:Cal) (A R:Option Addr) (a r:Nat) (w:World) (hl:bs.length=n) (hn:n≤100000) (hc:C14 c) (hm:oC w lo A R c) (hlo:lo≤w.heap.size) (hO:oq lo w A0 n c0 bs):
  Calls Tryz.prog 90 #[.slice A0 n c0, .agg (aG c A a R r)] w (ZC lo (.slice A0 n c0) w (bs++xn c)):=by
 obtain ⟨ep,mo,lp,ru⟩:=c;obtain ⟨x0,x1,x2,x3,x4,x5⟩:=hc;obtain ⟨y0,y1⟩:=hm;simp only at x0 x1 x2 x3 x4 x5 y0 y1;unfold aG;simp only;obtain ⟨nm,hnm⟩:∃n,mo.length=n:=⟨_,rfl⟩;obtain ⟨nr,hnr⟩:∃n,ru.length=n:=⟨_,rfl⟩;have FM:=ae (fun k=>iJ (le · 1) mo 1 k (fun _=>aA _ _));have FR:=ae (fun k=>iJ Xr ru 5 k GY);have yI:=ae x2;have yJ:=ae x5;have YZ:=ae y0;have vX:=ae y1;have BC:=ae hO;have PI:=ae hnm;have HNR:=ae hnr;rw [hnm] at x1 FM ⊢;rw [hnr] at x4 FR ⊢;have HB:=ae (CB.start #[I ep, .slice A nm a,I lp, .slice R nr r] 47 hO hl);have wl:IntKind.i64.wrap (lp+1)=lp+1:=by rw [IntKind.wrap_i64];omega
 clear x2 x5 y0 y1 hO hnm hnr;go_enter Tryz.func90,Tryz.ntmps90;go_wp2_with fail;refine (eF lo _ _ 4 _ _ ep _ HB.out.len (by have h:=HB.out.len;(try simp only [bF,aA] at h);omega) (by omega) x0 (Nat.le_trans hlo HB.out.keep.size) HB.out.own).mono ?_;rintro e w1 ⟨A1,n1,c1,l1,rfl,o1,k1⟩;have H1:=ae (HB.out.next o1 l1 k1);clear l1 o1 k1;have q0:(w1).cell? ⟨w.heap.size,0,none⟩=some (I ep):=H1.out.row.2 0;have q1:(w1).cell? ⟨w.heap.size,1,none⟩=some (.slice A nm a):=H1.out.row.2 1;have q2:(w1).cell? ⟨w.heap.size,2,none⟩=some (I lp):=H1.out.row.2 2;have q3:(w1).cell? ⟨w.heap.size,3,none⟩=some (.slice R nr r):=H1.out.row.2 3;go_wp2_with fail;refine (eF lo _ _ 1 _ _ nm _ H1.out.len (by have h:=H1.out.len;(try simp only [bF,aA] at h);omega) (by omega) ⟨by omega,by omega⟩ (Nat.le_trans hlo H1.out.keep.size) H1.out.own).mono ?_;rintro e w2 ⟨A2,n2,c2,l1,rfl,o1,k1⟩;have H2:=ae (H1.out.next o1 l1 k1);clear l1 o1 k1;clear q0 q1 q2 q3;have q0:(w2).cell? ⟨w.heap.size,0,none⟩=some (I ep):=H2.out.row.2 0;have q1:(w2).cell? ⟨w.heap.size,1,none⟩=some (.slice A nm a):=H2.out.row.2 1;have q2:(w2).cell? ⟨w.heap.size,2,none⟩=some (I lp):=H2.out.row.2 2;have q3:(w2).cell? ⟨w.heap.size,3,none⟩=some (.slice R nr r):=H2.out.row.2 3;go_wp2_with fail
 go_loopw [0,5] (fun b i wr=>IG lo (.slice A0 n c0) w #[I ep, .slice A nm a,I lp, .slice R nr r] (fun k=>bs++le ep 4++le nm 1++(mo.take k).flatMap (le · 1)) nm b i wr) (fun _ i _=>nm - (intOf i).toNat)
 case atStart=>exact ⟨0,n2,c2,A2,Nat.zero_le _,rfl,by go_num,by simpa using H2.out⟩
 case round=>
  obtain ⟨k,n3,c3,A3,hk,rfl,rfl,hb3⟩:=hrel;have HB3:=ae hb3;clear hb3 q0 q1 q2 q3;have q0:(wr).cell? ⟨w.heap.size,0,none⟩=some (I ep):=HB3.out.row.2 0;have q1:(wr).cell? ⟨w.heap.size,1,none⟩=some (.slice A nm a):=HB3.out.row.2 1;have q2:(wr).cell? ⟨w.heap.size,2,none⟩=some (I lp):=HB3.out.row.2 2;have q3:(wr).cell? ⟨w.heap.size,3,none⟩=some (.slice R nr r):=HB3.out.row.2 3;by_cases hlt:(k:Int)<(nm:Int)
  ·obtain ⟨b,off,rfl,nV,hcl⟩:=(YZ.out.keep (HB3.out.low BC.out hlo)).there (by rw [List.length_map,PI.out];omega);have hx:mo[k]? =some (mo[k]'(by rw [PI.out];omega)):=dK _;obtain ⟨x,hxx⟩:∃x,mo[k]'(by rw [PI.out];omega)=x:=⟨_,rfl⟩;rw [hxx] at hx;have v0:wr.cell? ⟨b,off+k,none⟩=some (I x):=hcl k _ (by rw [List.getElem?_map,hx];rfl);have HX:=ae hx;have hfx:=yI.out x (gz hx);clear hcl hx hxx;go_wp2_with fail;refine (eF lo _ _ 1 _ _ x _ HB3.out.len (by have h:=HB3.out.len;have g:=FM.out k;(try simp only [bF,aA] at h);omega) (by omega) hfx (Nat.le_trans hlo HB3.out.keep.size) HB3.out.own).mono ?_;rintro e w4 ⟨A4,n4,c4,l1,rfl,o1,k1⟩;have H4:=ae (HB3.out.next o1 l1 k1);clear l1 o1 k1;go_wp2_with fail;go_roundw
   case rel=>exact ⟨k+1,n4,c4,A4,by omega,rfl,by go_num,by show CB _ _ _ _ (_++(mo.take (k+1)).flatMap (le · 1)) _ _ _ _;rw [qL _ _ _ _ HX.out,←List.append_assoc];exact H4.out⟩
   case measure=>simp [intOf];omega
  ·have hk2:k=nm:=by omega
   subst hk2;clear hlt;go_wp2_with fail;refine (eF lo _ _ 1 _ _ (lp+1) _ HB3.out.len (by have h:=HB3.out.len;have g:=FM.out k;(try simp only [bF,aA] at h);omega) (by omega) ⟨by omega,by omega⟩ (Nat.le_trans hlo HB3.out.keep.size) HB3.out.own).mono ?_;rintro e w5 ⟨A5,n5,c5,l1,rfl,o1,k1⟩;have H5:=ae (HB3.out.next o1 l1 k1);clear l1 o1 k1;clear q0 q1 q2 q3;have q0:(w5).cell? ⟨w.heap.size,0,none⟩=some (I ep):=H5.out.row.2 0;have q1:(w5).cell? ⟨w.heap.size,1,none⟩=some (.slice A k a):=H5.out.row.2 1;have q2:(w5).cell? ⟨w.heap.size,2,none⟩=some (I lp):=H5.out.row.2 2;have q3:(w5).cell? ⟨w.heap.size,3,none⟩=some (.slice R nr r):=H5.out.row.2 3;go_wp2_with fail;refine (eF lo _ _ 1 _ _ nr _ H5.out.len (by have h:=H5.out.len;have g:=FM.out k;(try simp only [bF,aA] at h);omega) (by omega) ⟨by omega,by omega⟩ (Nat.le_trans hlo H5.out.keep.size) H5.out.own).mono ?_;rintro e w6 ⟨A6,n6,c6,l1,rfl,o1,k1⟩;have H6:=ae (H5.out.next o1 l1 k1);clear l1 o1 k1;clear q0 q1 q2 q3;have q0:(w6).cell? ⟨w.heap.size,0,none⟩=some (I ep):=H6.out.row.2 0;have q1:(w6).cell? ⟨w.heap.size,1,none⟩=some (.slice A k a):=H6.out.row.2 1;have q2:(w6).cell? ⟨w.heap.size,2,none⟩=some (I lp):=H6.out.row.2 2;have q3:(w6).cell? ⟨w.heap.size,3,none⟩=some (.slice R nr r):=H6.out.row.2 3;go_wp2_with fail
   go_loopw [0,6] (fun b i wr=>IG lo (.slice A0 n c0) w #[I ep, .slice A k a,I lp, .slice R nr r] (fun j=>(bs++le ep 4++le k 1++(mo.take k).flatMap (le · 1))++le (lp+1) 1++le nr 1++(ru.take j).flatMap Xr) nr b i wr) (fun _ i _=>nr - (intOf i).toNat)
   case atStart=>exact ⟨0,n6,c6,A6,Nat.zero_le _,rfl,by go_num,by simpa using H6.out⟩
   case round=>
    obtain ⟨j,n7,c7,A7,hj,rfl,rfl,hb7⟩:=hrel;have oO:=ae hb7;clear hb7 q0 q1 q2 q3;have q0:(wr).cell? ⟨w.heap.size,0,none⟩=some (I ep):=oO.out.row.2 0;have q1:(wr).cell? ⟨w.heap.size,1,none⟩=some (.slice A k a):=oO.out.row.2 1;have q2:(wr).cell? ⟨w.heap.size,2,none⟩=some (I lp):=oO.out.row.2 2;have q3:(wr).cell? ⟨w.heap.size,3,none⟩=some (.slice R nr r):=oO.out.row.2 3;by_cases hlt:(j:Int)<(nr:Int)
    ·obtain ⟨b,off,rfl,nV,hcl⟩:=vX.out.there (by rw [dP (s:=3) Lr.cells ru (fun _ _=>rfl),HNR.out];omega);have hx:ru[j]? =some (ru[j]'(by rw [HNR.out];omega)):=dK _;obtain ⟨x,hxx⟩:∃x,ru[j]'(by rw [HNR.out];omega)=x:=⟨_,rfl⟩;rw [hxx] at hx;have EW:Hid (∀i u,x.cells[i]? =some u→w.cell? ⟨b,off+j*3+i,none⟩=some u):=ae (fun i u hu=>by rw [Nat.add_assoc];exact hcl _ _ (by rw [flat_get (s:=3) Lr.cells ru (fun _ _=>rfl) j i x hx (by have:=(iP.1 hu).1;simpa [Lr.cells] using this)];exact hu));have HX:=ae hx;have hfx:=yJ.out x (gz hx);clear hcl hx hxx;have z0:(wr).cell? ⟨b,off+j*3,none⟩=some (I x.every):=((oO.out.low BC.out hlo).cell (p:=⟨b,off+j*3,none⟩) nV).trans (EW.out 0 _ rfl);have z1:(wr).cell? ⟨b,off+j*3+1,none⟩=some (I x.rest):=((oO.out.low BC.out hlo).cell (p:=⟨b,off+j*3+1,none⟩) nV).trans (EW.out 1 _ rfl);have z2:(wr).cell? ⟨b,off+j*3+2,none⟩=some (.bool x.yes):=((oO.out.low BC.out hlo).cell (p:=⟨b,off+j*3+2,none⟩) nV).trans (EW.out 2 _ rfl);go_wp2_with fail;refine (eF lo _ _ 2 _ _ x.every _ oO.out.len (by have h:=oO.out.len;have g:=FM.out k;have g2:=FR.out j;(try simp only [bF,aA] at h);omega) (by omega) hfx.1 (Nat.le_trans hlo oO.out.keep.size) oO.out.own).mono ?_;rintro e w8 ⟨A8,n8,c8,l1,rfl,o1,k1⟩;have H8:=ae (oO.out.next o1 l1 k1);clear l1 o1 k1;clear q0 q1 q2 q3 z0 z1 z2;have q0:(w8).cell? ⟨w.heap.size,0,none⟩=some (I ep):=H8.out.row.2 0;have q1:(w8).cell? ⟨w.heap.size,1,none⟩=some (.slice A k a):=H8.out.row.2 1;have q2:(w8).cell? ⟨w.heap.size,2,none⟩=some (I lp):=H8.out.row.2 2;have q3:(w8).cell? ⟨w.heap.size,3,none⟩=some (.slice (some ⟨b,off,none⟩) nr r):=H8.out.row.2 3;have z0:(w8).cell? ⟨b,off+j*3,none⟩=some (I x.every):=((H8.out.low BC.out hlo).cell (p:=⟨b,off+j*3,none⟩) nV).trans (EW.out 0 _ rfl);have z1:(w8).cell? ⟨b,off+j*3+1,none⟩=some (I x.rest):=((H8.out.low BC.out hlo).cell (p:=⟨b,off+j*3+1,none⟩) nV).trans (EW.out 1 _ rfl);have z2:(w8).cell? ⟨b,off+j*3+2,none⟩=some (.bool x.yes):=((H8.out.low BC.out hlo).cell (p:=⟨b,off+j*3+2,none⟩) nV).trans (EW.out 2 _ rfl);go_wp2_with fail;refine (eF lo _ _ 2 _ _ x.rest _ H8.out.len (by have h:=H8.out.len;have g:=FM.out k;have g2:=FR.out j;(try simp only [bF,aA] at h);omega) (by omega) hfx.2 (Nat.le_trans hlo H8.out.keep.size) H8.out.own).mono ?_;rintro e w9 ⟨A9,n9,c9,l1,rfl,o1,k1⟩;have H9:=ae (H8.out.next o1 l1 k1);clear l1 o1 k1;clear q0 q1 q2 q3 z0 z1 z2;have q0:(w9).cell? ⟨w.heap.size,0,none⟩=some (I ep):=H9.out.row.2 0;have q1:(w9).cell? ⟨w.heap.size,1,none⟩=some (.slice A k a):=H9.out.row.2 1;have q2:(w9).cell? ⟨w.heap.size,2,none⟩=some (I lp):=H9.out.row.2 2;have q3:(w9).cell? ⟨w.heap.size,3,none⟩=some (.slice (some ⟨b,off,none⟩) nr r):=H9.out.row.2 3;have z0:(w9).cell? ⟨b,off+j*3,none⟩=some (I x.every):=((H9.out.low BC.out hlo).cell (p:=⟨b,off+j*3,none⟩) nV).trans (EW.out 0 _ rfl);have z1:(w9).cell? ⟨b,off+j*3+1,none⟩=some (I x.rest):=((H9.out.low BC.out hlo).cell (p:=⟨b,off+j*3+1,none⟩) nV).trans (EW.out 1 _ rfl);have z2:(w9).cell? ⟨b,off+j*3+2,none⟩=some (.bool x.yes):=((H9.out.low BC.out hlo).cell (p:=⟨b,off+j*3+2,none⟩) nV).trans (EW.out 2 _ rfl);go_wp2_with fail;refine (flag_r x.yes _).mono ?_;rintro e wf ⟨rfl,rfl⟩;go_wp2_with fail;refine (eF lo _ _ 1 _ _ (OC x.yes) _ H9.out.len (by have h:=H9.out.len;have g:=FM.out k;have g2:=FR.out j;(try simp only [bF,aA] at h);omega) (by omega) (by unfold OC;split<;>exact ⟨by omega,by omega⟩) (Nat.le_trans hlo H9.out.keep.size) H9.out.own).mono ?_;rintro e w10 ⟨A10,n10,c10,l1,rfl,o1,k1⟩;have ZG:=ae (H9.out.next o1 l1 k1);clear l1 o1 k1;go_wp2_with fail;go_roundw
     case rel=>exact ⟨j+1,n10,c10,A10,by omega,rfl,by go_num,by show CB _ _ _ _ (_++(ru.take (j+1)).flatMap Xr) _ _ _ _;rw [qL _ _ _ _ HX.out,←List.append_assoc];simpa [Xr,List.append_assoc] using ZG.out⟩
     case measure=>simp [intOf];omega
    ·have hj2:j=nr:=by omega
     have HJ:=ae hj2;clear hj2;go_wp2_with fail;go_ret;have hb:=oO.out;rw [HJ.out,List.take_of_length_le (Nat.le_of_eq HNR.out),List.take_of_length_le (Nat.le_of_eq PI.out)] at hb;refine ⟨A7,n7,c7,?_,rfl,?_,hb.keep⟩
     ·rw [←hb.len];simp [xn,PI.out,HNR.out,List.append_assoc]
     ·have:=hb.own;simpa [xn,PI.out,HNR.out,List.append_assoc] using this
theorem CB.fresh (w:World) (cs:Array Value) (t:TypeId):CB w.heap.size (.slice none 0 0) w cs [] (some ⟨w.heap.size+1,0,none⟩) 0 0 ((w.alloc (.cells cs t)).alloc (.cells #[] 5)):=by
 have hb:Below w.heap.size w ((w.alloc (.cells cs t)).alloc (.cells #[] 5)):=ah (ag w _) (ag _ _);have ho:=gV (w.alloc (.cells cs t)) 5 1;refine ⟨(Row.new w cs t).keep (ag _ _),oq.lower (lo:=w.heap.size+1) (by simpa [oq] using ho) (by omega),rfl,⟨hb.os,hb.tape,hb.output,hb.size,fun k hk _=>hb.block k hk, .inr ⟨w.heap.size+1,rfl,by omega⟩⟩,fun e=>?_⟩;have h:w.heap.size=w.heap.size+1:=Option.some.inj e;omega
theorem take_snoc {α:Type} (l:List α) (k:Nat) (x:α) (hx:l[k]? =some x):l.take (k+1)=l.take k++ [x]:=by
 rw [List.take_add_one,hx];rfl
theorem CB.grown {lo n c n' c':Nat} {v0:Value} {A A':Option Addr} {w W W':World} {o:Obj} {cs:Array Value} {bs bs':List UInt8} (h:CB lo v0 w cs bs A n c W) (hO:oq lo W' A' n' c' bs') (hl:bs'.length=n') (hg:(W.alloc o).grownBy W' (Value.slice A n c).ownBlock) (hat:(Value.slice A' n' c').ownBlock=(Value.slice A n c).ownBlock∨(Value.slice A' n' c').ownBlock=some (W.heap.size+1)):CB lo v0 w cs bs' A' n' c' W':=
 h.next hO hl (uM.app hg (hat.imp id fun e=>e.trans (by simp)))
theorem yQ (d:List UInt8) (w:World) (hd:d.length=32):
  Calls Tryz.prog 67 #[.agg (au d).toArray] w (ZC w.heap.size (.slice none 0 0) w d):=by
 obtain ⟨i0,hi,hz0,hz1,hz2⟩:=info_parts lZ;have HI:=ae hi;have HZ0:=ae hz0;have HZ1:=ae hz1;have HZ2:=ae hz2;clear hi hz0 hz1 hz2;have HF:=ae (CB.fresh w (au d).toArray 24);have HD:=ae hd;clear hd;go_enter Tryz.func67,Tryz.ntmps67;go_wp2_with fail
 go_loopw [3,4] (fun b i wr=>IG w.heap.size (.slice none 0 0) w (au d).toArray (fun k=>d.take k) 32 b i wr) (fun _ i _=>32 - (intOf i).toNat)
 case atStart=>exact ⟨0,0,0,_,Nat.zero_le _,rfl,by go_num,HF.out⟩
 case round=>
  obtain ⟨k,n,c,A,hk,rfl,rfl,hb⟩:=hrel;have HB:Hid (CB w.heap.size (.slice none 0 0) w (au d).toArray (d.take k) A n c wr):=ae hb;have hn:n=k:=by rw [←hb.len];show (d.take k).length=k;rw [List.length_take,HD.out];omega
  have hsz:w.heap.size≤wr.heap.size:=hb.keep.size;clear hb;subst hn;by_cases hlt:(n:Int)<32
  ·obtain ⟨x,hx⟩:∃x,d[n]? =some x:=⟨_,dK (by rw [HD.out];omega)⟩;have v0:wr.cell? ⟨w.heap.size,n,none⟩=some (.int .u8 (x.toNat:Int)):=by rw [HB.out.row.2 n,List.getElem?_toArray];unfold au;rw [List.getElem?_map,hx];rfl
   have HX:=ae hx;clear hx;obtain ⟨pre,hpre⟩:∃l,d.take n=l:=⟨_,rfl⟩;have Eg:=ae hpre;rw [hpre] at HB;clear hpre;have N9:=ae (World.ownsRow.alloc HB.out.own (.cells #[Value.int .u8 (x.toNat:Int)] 5));go_wp2_with (at_builtin;go_must (refine wpList_append_own_at _ rfl _ _ 22 rfl w.heap.size 5 i0 (.int .u8 0) 1 1 Tryz.underlying22 HI.out HZ0.out HZ1.out HZ2.out rfl (by decide) _ n ((pre).map Extern.Stop.cell) rfl N9.out _ 1 1 [Value.int .u8 (x.toNat:Int)] rfl rfl (cell_one_new _ _ _) (wQ _) (by unfold maxLen;omega) (by omega) (by simp;omega) ?_));intro v' w3 hown hg _ hat;obtain ⟨A',c',rfl⟩:=fC hown;have H2:=ae (HB.out.grown (bs':=d.take (n+1)) (by unfold oq;rw [take_snoc d n x HX.out,Eg.out,List.map_append];exact hown) (by rw [List.length_take,HD.out];omega) hg hat);clear hown hg hat;go_wp2_with fail;go_roundw
   case rel=>exact ⟨n+1,n+1,c',A',by omega,rfl,by go_num,H2.out⟩
   case measure=>simp [intOf];omega
  ·have HN:Hid (n=32):=ae (by omega);go_wp2_with fail;go_ret;have hb:=HB.out;rw [HN.out,List.take_of_length_le (Nat.le_of_eq HD.out)] at hb;have hn:=HN.out;subst hn;exact ⟨A,32,c,HD.out,rfl,hb.own,hb.keep⟩
def xb3 (m:Int) (x:UInt8):UInt8:=byteOf (bits BinOp.xor IntKind.u8 x.toNat m)
theorem Yf (x:UInt8) (m:Int):0≤bits BinOp.xor IntKind.u8 x.toNat m∧bits BinOp.xor IntKind.u8 x.toNat m<256:=by
 unfold bits;simp only [IntKind.wrap,IntKind.bits,IntKind.signed];constructor
 ·exact Int.emod_nonneg _ (by decide)
 ·exact Int.emod_lt_of_pos _ (by decide)
theorem Vh (m:Int) (x:UInt8):Extern.Stop.cell (xb3 m x)= .int .u8 (bits BinOp.xor IntKind.u8 x.toNat m):=by
 obtain ⟨h1,h2⟩:=Yf x m;unfold xb3;rw [fE];congr 1;omega
def xm (m:Int) (d:List UInt8):List UInt8:=d.map (xb3 m)++List.replicate 32 (byteOf m)
theorem ug (m:Int) (d:List UInt8) (h:d.length=32):(xm m d).length=64:=by simp [xm,h]
theorem Ti (m:Int) (h0:0≤m) (h1:m<256):Extern.Stop.cell (byteOf m)= .int .u8 m:=by
 rw [fE];congr 1;omega
theorem Fg (m:Int) (d:List UInt8) (w:World) (hd:d.length=32) (h0:0≤m) (h1:m<256):
  Calls Tryz.prog 70 #[.agg (au d).toArray, .int .u8 m] w (ZC w.heap.size (.slice none 0 0) w (xm m d)):=by
 obtain ⟨i0,hi,hz0,hz1,hz2⟩:=info_parts lZ;have HI:=ae hi;have HZ0:=ae hz0;have HZ1:=ae hz1;have HZ2:=ae hz2;clear hi hz0 hz1 hz2;have HF:=ae (CB.fresh w (au d).toArray 24);have HD:=ae hd;obtain ⟨xs,hxs⟩:∃l,d.map (xb3 m)=l:=⟨_,rfl⟩;have Q4:Hid (xs.length=32):=ae (by rw [←hxs,List.length_map,hd]);have Q5:=ae hxs;obtain ⟨ys,hys⟩:∃l,List.replicate 32 (byteOf m)=l:=⟨_,rfl⟩;have lW:Hid (ys.length=32):=ae (by rw [←hys,List.length_replicate]);have HYS:=ae hys;have HM:=ae (Ti m h0 h1);clear hd hxs hys;go_enter Tryz.func70,Tryz.ntmps70;go_wp2_with fail
 go_loopw [5,6] (fun b i wr=>IG w.heap.size (.slice none 0 0) w (au d).toArray (fun k=>xs.take k) 32 b i wr) (fun _ i _=>32 - (intOf i).toNat)
 case atStart=>exact ⟨0,0,0,_,Nat.zero_le _,rfl,by go_num,HF.out⟩
 case round=>
  obtain ⟨k,n,c,A,hk,rfl,rfl,hb⟩:=hrel;have HB:Hid (CB w.heap.size (.slice none 0 0) w (au d).toArray (xs.take k) A n c wr):=ae hb;have hn:n=k:=by rw [←hb.len];show (xs.take k).length=k;rw [List.length_take,Q4.out];omega
  have hsz:w.heap.size≤wr.heap.size:=hb.keep.size;clear hb;subst hn;by_cases hlt:(n:Int)<32
  ·obtain ⟨x,hx⟩:∃x,d[n]? =some x:=⟨_,dK (by rw [HD.out];omega)⟩;have v0:wr.cell? ⟨w.heap.size,n,none⟩=some (.int .u8 (x.toNat:Int)):=by rw [HB.out.row.2 n,List.getElem?_toArray];unfold au;rw [List.getElem?_map,hx];rfl
   have HX:Hid (xs[n]? =some (xb3 m x)):=ae (by rw [←Q5.out,List.getElem?_map,hx];rfl);have YY:=ae (Vh m x);clear hx;obtain ⟨pre,hpre⟩:∃l,xs.take n=l:=⟨_,rfl⟩;have Eg:=ae hpre;rw [hpre] at HB;clear hpre;have N9:=ae (World.ownsRow.alloc HB.out.own (.cells #[Value.int .u8 (bits BinOp.xor IntKind.u8 x.toNat m)] 5));go_wp2_with (at_builtin;go_must (refine wpList_append_own_at _ rfl _ _ 22 rfl w.heap.size 5 i0 (.int .u8 0) 1 1 Tryz.underlying22 HI.out HZ0.out HZ1.out HZ2.out rfl (by decide) _ n ((pre).map Extern.Stop.cell) rfl N9.out _ 1 1 [Value.int .u8 (bits BinOp.xor IntKind.u8 x.toNat m)] rfl rfl (cell_one_new _ _ _) (wQ _) (by unfold maxLen;omega) (by omega) (by simp;omega) ?_));intro v' w3 hown hg _ hat;obtain ⟨A',c',rfl⟩:=fC hown;have H2:=ae (HB.out.grown (bs':=xs.take (n+1)) (by unfold oq;rw [take_snoc xs n _ HX.out,Eg.out,List.map_append];show World.ownsRow _ _ _ _ _ _ (_++ [Extern.Stop.cell _]);rw [YY.out];exact hown) (by rw [List.length_take,Q4.out];omega) hg hat);clear hown hg hat;go_wp2_with fail;go_roundw
   case rel=>exact ⟨n+1,n+1,c',A',by omega,rfl,by go_num,H2.out⟩
   case measure=>simp [intOf];omega
  ·have HN32:Hid (n=32):=ae (by omega);have HB3:Hid (CB w.heap.size (.slice none 0 0) w (au d).toArray (xs++ys.take 0) A n c wr):=ae (by have hb:=HB.out;rw [HN32.out,List.take_of_length_le (Nat.le_of_eq Q4.out),←HN32.out] at hb;simpa using hb);go_wp2_with fail
   go_loopw [5,7] (fun b i wr=>IG w.heap.size (.slice none 0 0) w (au d).toArray (fun k=>xs++ys.take k) 32 b i wr) (fun _ i _=>32 - (intOf i).toNat)
   case atStart=>exact ⟨0,n,c,A,Nat.zero_le _,rfl,by go_num,HB3.out⟩
   case round=>
    clear HB HB3 hsz hk hlt;obtain ⟨k,n2,c,A,hk,rfl,rfl,hb⟩:=hrel;have HB:Hid (CB w.heap.size (.slice none 0 0) w (au d).toArray (xs++ys.take k) A n2 c wr):=ae hb;have hn:n2=32+k:=by rw [←hb.len];show (xs++ys.take k).length=32+k;rw [bF,List.length_take,Q4.out,lW.out];omega
    have hsz:w.heap.size≤wr.heap.size:=hb.keep.size;clear hb;subst hn;by_cases hlt:(k:Int)<32
    ·have HX:Hid (ys[k]? =some (byteOf m)):=ae (by rw [←HYS.out,List.getElem?_replicate,if_pos (by omega)]);obtain ⟨pre,hpre⟩:∃l,xs++ys.take k=l:=⟨_,rfl⟩;have Eg:=ae hpre;rw [hpre] at HB;clear hpre;have N9:=ae (World.ownsRow.alloc HB.out.own (.cells #[Value.int .u8 m] 5));go_wp2_with (at_builtin;go_must (refine wpList_append_own_at _ rfl _ _ 22 rfl w.heap.size 5 i0 (.int .u8 0) 1 1 Tryz.underlying22 HI.out HZ0.out HZ1.out HZ2.out rfl (by decide) _ (32+k) ((pre).map Extern.Stop.cell) rfl N9.out _ 1 1 [Value.int .u8 m] rfl rfl (cell_one_new _ _ _) (wQ _) (by unfold maxLen;omega) (by omega) (by simp;omega) ?_));intro v' w3 hown hg _ hat;obtain ⟨A',c',rfl⟩:=fC hown;have H2:=ae (HB.out.grown (bs':=xs++ys.take (k+1)) (n':=32+k+1) (by unfold oq;rw [take_snoc ys k _ HX.out,←List.append_assoc,Eg.out,List.map_append];show World.ownsRow _ _ _ _ _ _ (_++ [Extern.Stop.cell _]);rw [HM.out];exact hown) (by rw [bF,List.length_take,Q4.out,lW.out];omega) hg hat);clear hown hg hat;go_wp2_with fail;go_roundw
     case rel=>exact ⟨k+1,32+k+1,c',A',by omega,rfl,by go_num,H2.out⟩
     case measure=>simp [intOf];omega
    ·have HN:Hid (k=32):=ae (by omega);go_wp2_with fail;go_ret;have hb:=HB.out;have hk:=HN.out;subst hk;rw [List.take_of_length_le (Nat.le_of_eq lW.out),←Q5.out,←HYS.out] at hb;exact ⟨A,64,c,ug m d HD.out,rfl,hb.own,hb.keep⟩
structure PB (v0:Value) (w:World) (bs:List UInt8) (A:Option Addr) (n c:Nat) (W:World):Prop where
 own:oq w.heap.size W A n c bs
 len:bs.length=n
 keep:uM v0 w (.slice A n c) W
theorem PB.grown {n c n' c':Nat} {v0:Value} {A A':Option Addr} {w W W':World} {o:Obj} {bs bs':List UInt8} (h:PB v0 w bs A n c W) (hO:oq w.heap.size W' A' n' c' bs') (hl:bs'.length=n') (hg:(W.alloc o).grownBy W' (Value.slice A n c).ownBlock) (hat:(Value.slice A' n' c').ownBlock=(Value.slice A n c).ownBlock∨(Value.slice A' n' c').ownBlock=some (W.heap.size+1)):PB v0 w bs' A' n' c' W':=
 ⟨hO,hl,h.keep.trans (uM.app hg (hat.imp id fun e=>e.trans (by simp)))⟩
def lenV:Value→Nat
 | .slice _ m _=>m
 |_=>0
def Qq (n:Nat):Nat:=(120 - (n+1)%64)%64
theorem JJ (n:Nat):(n+1+Qq n)%64=56:=by unfold Qq;omega
theorem OV (n:Nat):Qq n<64:=Nat.mod_lt _ (by omega)
def PadP (w:World) (n:Nat) (e:Ending) (w':World):Prop:=∃ps:List UInt8,ps.length=n+9+Qq n∧ZC w.heap.size (.slice none 0 0) w ps e w'
theorem PB.fresh {w W:World} {A:Option Addr} {n c:Nat} {bs:List UInt8} (h:oq w.heap.size W A n c bs) (hl:bs.length=n) (hg:(w.alloc (.cells #[] 5)).grownBy W (some w.heap.size)) (hat:(Value.slice A n c).ownBlock=some w.heap.size∨(Value.slice A n c).ownBlock=some (w.heap.size+1)):PB (.slice none 0 0) w bs A n c W:=by
 refine ⟨h,hl,hg.os,hg.tape,hg.output,Nat.le_trans (by simp) hg.size,fun k hk _=>(hg.block k (by simp;omega) (fun e=>by injection e;omega)).trans (Below.heap_alloc w _ k hk), .inr ?_⟩;rcases hat with e|e
 ·exact ⟨_,e,by omega⟩
 ·exact ⟨_,e,by omega⟩
theorem UG (n c:Nat) (A:Option Addr) (bs:List UInt8) (w:World) (hl:bs.length=n) (h0:0<n) (hn:n≤200000) (hb:aB w w.heap.size A (bs.map Extern.Stop.cell)):
  Calls Tryz.prog 91 #[.slice A n c] w (PadP w n):=by
 obtain ⟨i0,hi,hz0,hz1,hz2⟩:=info_parts lZ;have HI:=ae hi;have HZ0:=ae hz0;have HZ1:=ae hz1;have HZ2:=ae hz2;clear hi hz0 hz1 hz2;obtain ⟨b,off,rfl,nV,hcl⟩:=hb.there (by rw [List.length_map];omega);have hb0:∀j u,(bs.map Extern.Stop.cell)[j]? =some u→(w.alloc (.cells #[] 5)).cell? ((⟨b,off,none⟩:Addr).add j)=some u:=mW hb;have HB0:=ae hb0;have HE:=ae (gV w 5 1);have HL:=ae hl;have KX:Hid ((bs.map Extern.Stop.cell).length=n*1):=ae (by rw [List.length_map,hl,Nat.mul_one]);have vU:Hid (∀u∈bs.map Extern.Stop.cell,u.oneCell'=true):=ae (fun u hu=>by obtain ⟨x,_,rfl⟩:=List.mem_map.1 hu;rfl);clear hb0 hcl hb hl;go_enter Tryz.func91,Tryz.ntmps91;go_wp2_with (at_builtin;go_must (refine wpList_append_own_at _ rfl _ _ 22 rfl w.heap.size 5 i0 (.int .u8 0) 1 1 Tryz.underlying22 HI.out HZ0.out HZ1.out HZ2.out rfl (by decide) _ 0 [] rfl HE.out ⟨b,off,none⟩ n c (bs.map Extern.Stop.cell) rfl KX.out HB0.out vU.out (by unfold maxLen;omega) (by omega) (by simp) ?_));intro v' w1 hown hg _ hat;obtain ⟨A1,c1,rfl⟩:=fC hown;have H1:Hid (PB (.slice none 0 0) w bs A1 n c1 w1):=ae (PB.fresh (by unfold oq;simpa using hown) HL.out hg hat);have hsz:w.heap.size≤w1.heap.size:=H1.out.keep.size;clear hown hg hat;have N9:=ae (World.ownsRow.alloc H1.out.own (.cells #[Value.int .u8 128] 5));go_wp2_with (at_builtin;go_must (refine wpList_append_own_at _ rfl _ _ 22 rfl w.heap.size 5 i0 (.int .u8 0) 1 1 Tryz.underlying22 HI.out HZ0.out HZ1.out HZ2.out rfl (by decide) _ n ((bs).map Extern.Stop.cell) rfl N9.out _ 1 1 [Value.int .u8 128] rfl rfl (cell_one_new _ _ _) (wQ _) (by unfold maxLen;omega) (by omega) (by simp;omega) ?_));intro v' w2 hown hg _ hat;obtain ⟨A2,c2,rfl⟩:=fC hown;have H2:=ae (H1.out.grown (bs':=bs++ [128]) (by unfold oq;rw [List.map_append];exact hown) (by rw [bF,HL.out];rfl) hg hat);clear hown hg hat;have hpl:=OV n;have RS:=ae (JJ n);obtain ⟨p,hp⟩:∃p,Qq n=p:=⟨_,rfl⟩;have HP:=ae hp;rw [hp] at hpl RS;clear hp hsz;go_wp2_with fail
 go_loopw [3] (fun b wr=>∃k n2 c A,k≤p∧n2=n+1+k∧b= .slice A n2 c∧PB (.slice none 0 0) w (bs++ [128]++List.replicate k 0) A n2 c wr) (fun b _=>n+1+p - lenV b)
 case atStart=>exact ⟨0,n+1,c2,A2,Nat.zero_le _,rfl,rfl,by simpa using H2.out⟩
 case round=>
  obtain ⟨k,n2,c3,A3,hk,hn2,rfl,hb⟩:=hrel;have HB:=ae hb;have hsz:w.heap.size≤wr.heap.size:=hb.keep.size;clear hb;have ht:((n2:Int)).tmod 64=((n2%64:Nat):Int):=by rw [Int.tmod_eq_emod_of_nonneg (by omega)];rfl
  obtain ⟨q,hq⟩:∃q,n2%64=q:=⟨_,rfl⟩;rw [hq] at ht;have ht2:((n2:Int))%64=(q:Int):=by omega
  have hkp:q≠56→k<p:=by
   intro hqe;have:=RS.out;rcases Nat.lt_or_ge k p with h|h
   ·exact h
   ·have e:k=p:=by omega
    subst e;subst hn2;omega
  have HN2:=ae hn2;have hn2b:n2≤n+64:=by omega
  clear hn2 hq;by_cases hqe:q=56
  ·subst hqe;go_wp2_with fail;have H4:Hid (∃ps:List UInt8,ps.length=n2∧PB (.slice none 0 0) w ps A3 n2 c3 wr):=ae ⟨_,HB.out.len,HB.out⟩;have HQE:Hid (n2%64=56):=ae (by omega);have HN5:Hid (n2=n+1+p):=ae (by
    have h1:=HN2.out;have h2:=RS.out;have h3:=HQE.out;omega)
   clear HB hkp hsz ht ht2 hk
   go_loopw [3,5] (fun b i wr=>∃(j n3 c:Nat) (A:Option Addr) (ps:List UInt8),j≤8∧n3=n2+j∧b= .slice A n3 c∧i= .int .i64 (7 - (j:Int))∧ps.length=n3∧PB (.slice none 0 0) w ps A n3 c wr) (fun _ i _=>(intOf i+1).toNat)
   case atStart=>exact H4.out.elim fun ps h=>⟨0,n2,c3,A3,ps,Nat.zero_le _,rfl,rfl,by go_num,h.1,h.2⟩
   case round=>
    obtain ⟨j,n3,c4,A4,ps,hj,hn3,rfl,rfl,hpl2,hb⟩:=hrel;have HB:=ae hb;have HN3:=ae hn3;have VD:=ae hpl2;have hsz:w.heap.size≤wr.heap.size:=hb.keep.size;have hn3b:n3≤n+80:=by omega
    clear hb hn3 hpl2;by_cases hlt:j<8
    ·obtain ⟨i,hi⟩:∃i:Int,7 - (j:Int)=i:=⟨_,rfl⟩;have hi0:0≤i:=by omega
     have hi1:i≤7:=by omega
     have HIJ:=ae hi;rw [hi];clear hi;have HBC:=ae (fE (8*(n:Int) / 2 ^ (8*i).toNat));have N9:=ae (World.ownsRow.alloc HB.out.own (.cells #[Value.int .u8 (8*(n:Int) / 2 ^ (8*i).toNat%256)] 5));go_wp2_with (at_builtin;go_must (refine wpList_append_own_at _ rfl _ _ 22 rfl w.heap.size 5 i0 (.int .u8 0) 1 1 Tryz.underlying22 HI.out HZ0.out HZ1.out HZ2.out rfl (by decide) _ n3 ((ps).map Extern.Stop.cell) rfl N9.out _ 1 1 [Value.int .u8 (8*(n:Int) / 2 ^ (8*i).toNat%256)] rfl rfl (cell_one_new _ _ _) (wQ _) (by unfold maxLen;omega) (by omega) (by simp;omega) ?_));intro v' w3 hown hg _ hat;obtain ⟨A',c',rfl⟩:=fC hown;have H5:=ae (HB.out.grown (bs':=ps++ [byteOf (8*(n:Int) / 2 ^ (8*i).toNat)]) (n':=n3+1) (by unfold oq;rw [List.map_append];show World.ownsRow _ _ _ _ _ _ (_++ [Extern.Stop.cell _]);rw [HBC.out];exact hown) (by rw [bF,VD.out];rfl) hg hat);clear hown hg hat;go_wp2_with fail;go_roundw
     case rel=>exact ⟨j+1,n3+1,c',A',_,by omega,by have:=HN3.out;omega,rfl,by have:=HIJ.out;congr 1;omega,H5.out.len,H5.out⟩
     case measure=>simp [intOf];omega
    ·have HJ:Hid (j=8):=ae (by omega);have hz:7 - (j:Int)<0:=by omega
     have HN8:Hid (n3=n+9+p):=ae (by have:=HN3.out;have:=HN5.out;have:=HJ.out;omega);go_wp2_with fail;go_ret;exact ⟨ps,by rw [VD.out,HN8.out,HP.out],A4,n3,c4,VD.out,rfl,HB.out.own,HB.out.keep⟩
  ·have hne:((q:Int) !=56)=true:=by rw [bne_iff_ne];omega
   have hkp2:=hkp hqe;clear hkp;obtain ⟨pre,hpre⟩:∃l:List UInt8,bs++ [128]++List.replicate k 0=l:=⟨_,rfl⟩;have Eg:=ae hpre;rw [hpre] at HB;clear hpre;have N9:=ae (World.ownsRow.alloc HB.out.own (.cells #[Value.int .u8 0] 5));go_wp2_with (at_builtin;go_must (refine wpList_append_own_at _ rfl _ _ 22 rfl w.heap.size 5 i0 (.int .u8 0) 1 1 Tryz.underlying22 HI.out HZ0.out HZ1.out HZ2.out rfl (by decide) _ n2 ((pre).map Extern.Stop.cell) rfl N9.out _ 1 1 [Value.int .u8 0] rfl rfl (cell_one_new _ _ _) (wQ _) (by unfold maxLen;omega) (by omega) (by simp;omega) ?_));intro v' w3 hown hg _ hat;obtain ⟨A',c',rfl⟩:=fC hown;have H3:=ae (HB.out.grown (bs':=bs++ [128]++List.replicate (k+1) 0) (n':=n2+1) (by unfold oq;rw [List.replicate_succ',←List.append_assoc,Eg.out,List.map_append];exact hown) (by have:=HN2.out;simp [HL.out];omega) hg hat);clear hown hg hat;go_wp2_with fail;go_roundw
   case rel=>exact ⟨k+1,n2+1,c',A',by omega,by have:=HN2.out;omega,rfl,H3.out⟩
   case measure=>have:=HN2.out;simp [lenV];omega
def uF (x n:Int):Int:=bits BinOp.or IntKind.u32 (x / 2 ^ n.toNat) (x*2 ^ (32 - n).toNat%4294967296)
theorem U6 (x n:Int) (w:World) (h0:0<n) (h1:n<32):
  Calls Tryz.prog 109 #[.int .u32 x,I n] w fun e w'=>e= .returned (.int .u32 (uF x n))∧∃k,w'=w.drewN k:=by
 have h2:0≤32 - n:=by omega
 have h3:IntKind.i64.wrap (32 - n)=32 - n:=by rw [IntKind.wrap_i64];omega
 go_enter Tryz.func109,Tryz.ntmps109;go_wp2_with fail;go_quiet (fail);go_wp2_with fail;go_ret;exact ⟨rfl,_,rfl⟩
end Go.Proofs.YtdibbemgpikgjaaGreat
