/- The texts Kp, Kq, in this order. -/
import Derived.Test.YtdibbemgpikgjaaGreatW00
import Derived.Test.YtdibbemgpikgjaaGreatW14
import Derived.Test.YtdibbemgpikgjaaGreatW16
import Derived.Test.YtdibbemgpikgjaaGreatW19
set_option maxRecDepth 10000
set_option maxHeartbeats 8000000
namespace Go.Proofs.YtdibbemgpikgjaaGreat
open Go Go.RowKit
def Ya (t:Tr):List UInt8:=le t.at_ 8++le t.off 2
def Zx (y:Yr):List UInt8:=le y.month 1++(le y.di 1++(le y.dm 1++(le y.minute 2++le y.off 2)))
def QR (z:Zn):List UInt8:=xn z.cal++(le z.start 2++(le z.trans.length 2++(z.trans.flatMap Ya++(le z.hor 8++(le z.az.length 1++z.az.flatMap Zx)))))
structure Y14 (y:Yr):Prop where
 month:fits y.month
 di:fits y.di
 dm:fits y.dm
 minute:fits y.minute
 off:fits y.off
structure Z14 (z:Zn):Prop where
 cal:C14 z.cal
 start:fits z.start
 tl:z.trans.length≤1000
 tr:∀x∈z.trans,fits x.at_∧fits x.off
 hor:fits z.hor
 yl:z.az.length≤1000
 yr:∀y∈z.az,Y14 y
theorem Pg (t:Tr):(Ya t).length=10:=by simp [Ya,aA]
theorem Po (y:Yr):(Zx y).length=7:=by simp [Zx,aA]
theorem P7 (c:Cal) (h:C14 c):(xn c).length≤7000:=by
 have g:=iJ (le · 1) c.aj 1 c.aj.length (fun _=>aA _ _);have g2:=iJ Xr c.rules 5 c.rules.length GY;rw [List.take_length] at g g2;have h1:=h.mo;have h2:=h.ru;simp only [xn,bF,aA];omega
theorem CB.grow {lo n c:Nat} {v0:Value} {A:Option Addr} {w W W':World} {cs:Array Value} {bs:List UInt8} (h:CB lo v0 w cs bs A n c W) (hb:Below W.heap.size W W'):CB lo v0 w cs bs A n c W':=
 ⟨h.row.keep hb,oq.below h.own hb,h.len,h.keep.below hb,h.far⟩
theorem CB.qQ {lo n c:Nat} {v0:Value} {A:Option Addr} {w W:World} {cs:Array Value} {bs:List UInt8} (h:CB lo v0 w cs bs A n c W) (b:Nat) (hb:W.heap.size≤b):some b≠(Value.slice A n c).ownBlock:=fun e=>by have:=(World.ownsRow.lt h.own _ e.symm).2;omega
def VO (b:Nat) (cs:Array Value) (v:Value) (W:World):Prop:=Row W b cs∧some b≠v.ownBlock
theorem VO.next {b:Nat} {cs:Array Value} {v v':Value} {W W':World} (h:VO b cs v W) (hk:uM v W v' W'):VO b cs v' W':=by
 have hlt:=h.1.1;refine ⟨⟨dS hlt hk.size,fun i=>(World.cell?_of_block (a:=⟨b,i,none⟩) (hk.block _ hlt h.2)).trans (h.1.2 i)⟩,?_⟩;rcases hk.own with e|⟨g,e,hb⟩
 ·rw [e];exact h.2
 ·rw [e];intro h';injection h' with h';omega
theorem Vt (lo n c0:Nat) (A0:Option Addr) (bs:List UInt8) (z:Zn) (s:Zs) (w:World) (hl:bs.length=n) (hn:n≤50000) (hc:Z14 z) (hm:jR w lo s z) (hlo:lo≤w.heap.size) (hO:oq lo w A0 n c0 bs):
  Calls Tryz.prog 69 #[.slice A0 n c0, .agg (ax z s)] w (ZC lo (.slice A0 n c0) w (bs++QR z)):=by
 have vT:Hid (Calls Tryz.prog 90 #[.slice A0 n c0, .agg (aG z.cal s.A s.a s.B s.b)] (w.alloc (.cells (ax z s) 51)) (ZC lo (.slice A0 n c0) (w.alloc (.cells (ax z s) 51)) (bs++xn z.cal))):=ae (LQ lo n c0 A0 bs z.cal s.A s.B s.a s.b _ hl (by omega) hc.cal ⟨(hm.aj.keep ((ag w _).mono hlo)),(hm.rules.keep ((ag w _).mono hlo))⟩ (by simp;omega) (oq.below hO (ag w _)));have hcb:=P7 z.cal hc.cal;obtain ⟨cb,hcbe⟩:∃l,xn z.cal=l:=⟨_,rfl⟩;rw [hcbe] at vT hcb;obtain ⟨⟨ep,mo,lp,ru⟩,st,tr,ho,yr⟩:=z;obtain ⟨A,a,R,r,C,cc,D,dd⟩:=s;obtain ⟨_,x1,x2,x3,x4,x5,x6⟩:=hc;obtain ⟨_,_,y0,y1⟩:=hm;simp only at x1 x2 x3 x4 x5 x6 y0 y1;unfold QR;rw [hcbe];unfold ax aG at vT;unfold ax;simp only at vT ⊢;obtain ⟨nm,hnm⟩:∃n,mo.length=n:=⟨_,rfl⟩;obtain ⟨nr,hnr⟩:∃n,ru.length=n:=⟨_,rfl⟩;obtain ⟨nt,hnt⟩:∃n,tr.length=n:=⟨_,rfl⟩;obtain ⟨ny,hny⟩:∃n,yr.length=n:=⟨_,rfl⟩;have FM:=ae (fun k=>iJ Ya tr 10 k Pg);have FR:=ae (fun k=>iJ Zx yr 7 k Po);have Iw:=ae x3;have qA:=ae x6;have YZ:=ae y0;have vX:=ae y1;have BC:=ae hO;have HNT:=ae hnt;have VA:=ae hny;rw [hnm,hnr] at vT ⊢;rw [hnt] at x2 FM vT ⊢;rw [hny] at x5 FR vT ⊢;have HB:=ae (CB.start #[I ep, .slice A nm a,I lp, .slice R nr r,I st, .slice C nt cc,I ho, .slice D ny dd] 51 hO hl);clear x3 x6 y0 y1 hO hnm hnr hnt hny hcbe;go_enter Tryz.func69,Tryz.ntmps69;go_wp2_with fail;refine vT.out.mono ?_;rintro e w0 ⟨A1,n1,c1,l1,rfl,o1,k1⟩;have H0:=ae (HB.out.next o1 l1 k1);clear l1 o1 k1 vT;have q0:(w0).cell? ⟨w.heap.size,0,none⟩=some (I ep):=H0.out.row.2 0;have q1:(w0).cell? ⟨w.heap.size,1,none⟩=some (.slice A nm a):=H0.out.row.2 1;have q2:(w0).cell? ⟨w.heap.size,2,none⟩=some (I lp):=H0.out.row.2 2;have q3:(w0).cell? ⟨w.heap.size,3,none⟩=some (.slice R nr r):=H0.out.row.2 3;have q4:(w0).cell? ⟨w.heap.size,4,none⟩=some (I st):=H0.out.row.2 4;have q5:(w0).cell? ⟨w.heap.size,5,none⟩=some (.slice C nt cc):=H0.out.row.2 5;have q6:(w0).cell? ⟨w.heap.size,6,none⟩=some (I ho):=H0.out.row.2 6;have q7:(w0).cell? ⟨w.heap.size,7,none⟩=some (.slice D ny dd):=H0.out.row.2 7;go_wp2_with fail;refine (eF lo _ _ 2 _ _ st _ H0.out.len (by have h:=H0.out.len;(try simp only [bF] at h);omega) (by omega) x1 (Nat.le_trans hlo H0.out.keep.size) H0.out.own).mono ?_;rintro e w2 ⟨A2,n2,c2,l1,rfl,o1,k1⟩;have H1:=ae (H0.out.next o1 l1 k1);clear l1 o1 k1;clear q0 q1 q2 q3 q4 q5 q6 q7;have q0:(w2).cell? ⟨w.heap.size,0,none⟩=some (I ep):=H1.out.row.2 0;have q1:(w2).cell? ⟨w.heap.size,1,none⟩=some (.slice A nm a):=H1.out.row.2 1;have q2:(w2).cell? ⟨w.heap.size,2,none⟩=some (I lp):=H1.out.row.2 2;have q3:(w2).cell? ⟨w.heap.size,3,none⟩=some (.slice R nr r):=H1.out.row.2 3;have q4:(w2).cell? ⟨w.heap.size,4,none⟩=some (I st):=H1.out.row.2 4;have q5:(w2).cell? ⟨w.heap.size,5,none⟩=some (.slice C nt cc):=H1.out.row.2 5;have q6:(w2).cell? ⟨w.heap.size,6,none⟩=some (I ho):=H1.out.row.2 6;have q7:(w2).cell? ⟨w.heap.size,7,none⟩=some (.slice D ny dd):=H1.out.row.2 7;go_wp2_with fail;refine (eF lo _ _ 2 _ _ nt _ H1.out.len (by have h:=H1.out.len;(try simp only [bF,aA] at h);omega) (by omega) ⟨by omega,by omega⟩ (Nat.le_trans hlo H1.out.keep.size) H1.out.own).mono ?_;rintro e w3 ⟨A3,n3,c3,l1,rfl,o1,k1⟩;have H2:=ae (H1.out.next o1 l1 k1);clear l1 o1 k1;clear q0 q1 q2 q3 q4 q5 q6 q7;have q0:(w3).cell? ⟨w.heap.size,0,none⟩=some (I ep):=H2.out.row.2 0;have q1:(w3).cell? ⟨w.heap.size,1,none⟩=some (.slice A nm a):=H2.out.row.2 1;have q2:(w3).cell? ⟨w.heap.size,2,none⟩=some (I lp):=H2.out.row.2 2;have q3:(w3).cell? ⟨w.heap.size,3,none⟩=some (.slice R nr r):=H2.out.row.2 3;have q4:(w3).cell? ⟨w.heap.size,4,none⟩=some (I st):=H2.out.row.2 4;have q5:(w3).cell? ⟨w.heap.size,5,none⟩=some (.slice C nt cc):=H2.out.row.2 5;have q6:(w3).cell? ⟨w.heap.size,6,none⟩=some (I ho):=H2.out.row.2 6;have q7:(w3).cell? ⟨w.heap.size,7,none⟩=some (.slice D ny dd):=H2.out.row.2 7;go_wp2_with fail
 go_loopw [0,5] (fun b i wr=>IG lo (.slice A0 n c0) w #[I ep, .slice A nm a,I lp, .slice R nr r,I st, .slice C nt cc,I ho, .slice D ny dd] (fun k=>bs++cb++le st 2++le nt 2++(tr.take k).flatMap Ya) nt b i wr) (fun _ i _=>nt - (intOf i).toNat)
 case atStart=>exact ⟨0,n3,c3,A3,Nat.zero_le _,rfl,by go_num,by simpa using H2.out⟩
 case round=>
  obtain ⟨k,n4,c4,A4,hk,rfl,rfl,hb3⟩:=hrel;have HB3:=ae hb3;clear hb3 q0 q1 q2 q3 q4 q5 q6 q7;have q0:(wr).cell? ⟨w.heap.size,0,none⟩=some (I ep):=HB3.out.row.2 0;have q1:(wr).cell? ⟨w.heap.size,1,none⟩=some (.slice A nm a):=HB3.out.row.2 1;have q2:(wr).cell? ⟨w.heap.size,2,none⟩=some (I lp):=HB3.out.row.2 2;have q3:(wr).cell? ⟨w.heap.size,3,none⟩=some (.slice R nr r):=HB3.out.row.2 3;have q4:(wr).cell? ⟨w.heap.size,4,none⟩=some (I st):=HB3.out.row.2 4;have q5:(wr).cell? ⟨w.heap.size,5,none⟩=some (.slice C nt cc):=HB3.out.row.2 5;have q6:(wr).cell? ⟨w.heap.size,6,none⟩=some (I ho):=HB3.out.row.2 6;have q7:(wr).cell? ⟨w.heap.size,7,none⟩=some (.slice D ny dd):=HB3.out.row.2 7;by_cases hlt:(k:Int)<(nt:Int)
  ·obtain ⟨b,off,rfl,nV,hcl⟩:=YZ.out.there (by rw [dP (s:=2) Tr.cells tr (fun _ _=>rfl),HNT.out];omega);have hx:tr[k]? =some (tr[k]'(by rw [HNT.out];omega)):=dK _;obtain ⟨x,hxx⟩:∃x,tr[k]'(by rw [HNT.out];omega)=x:=⟨_,rfl⟩;rw [hxx] at hx;have EW:Hid (∀i u,x.cells[i]? =some u→w.cell? ⟨b,off+k*2+i,none⟩=some u):=ae (fun i u hu=>by rw [Nat.add_assoc];exact hcl _ _ (by rw [flat_get (s:=2) Tr.cells tr (fun _ _=>rfl) k i x hx (by have:=(iP.1 hu).1;simpa [Tr.cells] using this)];exact hu));have HX:=ae hx;have hfx:=Iw.out x (gz hx);clear hcl hx hxx;have z0:(wr).cell? ⟨b,off+k*2,none⟩=some (I x.at_):=((HB3.out.low BC.out hlo).cell (p:=⟨b,off+k*2,none⟩) nV).trans (EW.out 0 _ rfl);have z1:(wr).cell? ⟨b,off+k*2+1,none⟩=some (I x.off):=((HB3.out.low BC.out hlo).cell (p:=⟨b,off+k*2+1,none⟩) nV).trans (EW.out 1 _ rfl);go_wp2_with fail;refine (eF lo _ _ 8 _ _ x.at_ _ HB3.out.len (by have h:=HB3.out.len;have g:=FM.out k;(try simp only [bF,aA] at h);omega) (by omega) hfx.1 (Nat.le_trans hlo HB3.out.keep.size) HB3.out.own).mono ?_;rintro e w5 ⟨A5,n5,c5,l1,rfl,o1,k1⟩;have H4:=ae (HB3.out.next o1 l1 k1);clear l1 o1 k1;clear q0 q1 q2 q3 q4 q5 q6 q7;clear z0 z1;have q0:(w5).cell? ⟨w.heap.size,0,none⟩=some (I ep):=H4.out.row.2 0;have q1:(w5).cell? ⟨w.heap.size,1,none⟩=some (.slice A nm a):=H4.out.row.2 1;have q2:(w5).cell? ⟨w.heap.size,2,none⟩=some (I lp):=H4.out.row.2 2;have q3:(w5).cell? ⟨w.heap.size,3,none⟩=some (.slice R nr r):=H4.out.row.2 3;have q4:(w5).cell? ⟨w.heap.size,4,none⟩=some (I st):=H4.out.row.2 4;have q5:(w5).cell? ⟨w.heap.size,5,none⟩=some (.slice (some ⟨b,off,none⟩) nt cc):=H4.out.row.2 5;have q6:(w5).cell? ⟨w.heap.size,6,none⟩=some (I ho):=H4.out.row.2 6;have q7:(w5).cell? ⟨w.heap.size,7,none⟩=some (.slice D ny dd):=H4.out.row.2 7;have z0:(w5).cell? ⟨b,off+k*2,none⟩=some (I x.at_):=((H4.out.low BC.out hlo).cell (p:=⟨b,off+k*2,none⟩) nV).trans (EW.out 0 _ rfl);have z1:(w5).cell? ⟨b,off+k*2+1,none⟩=some (I x.off):=((H4.out.low BC.out hlo).cell (p:=⟨b,off+k*2+1,none⟩) nV).trans (EW.out 1 _ rfl);go_wp2_with fail;refine (eF lo _ _ 2 _ _ x.off _ H4.out.len (by have h:=H4.out.len;have g:=FM.out k;(try simp only [bF,aA] at h);omega) (by omega) hfx.2 (Nat.le_trans hlo H4.out.keep.size) H4.out.own).mono ?_;rintro e w6 ⟨A6,n6,c6,l1,rfl,o1,k1⟩;have H5:=ae (H4.out.next o1 l1 k1);clear l1 o1 k1;go_wp2_with fail;go_roundw
   case rel=>exact ⟨k+1,n6,c6,A6,by omega,rfl,by go_num,by show CB _ _ _ _ (_++(tr.take (k+1)).flatMap Ya) _ _ _ _;rw [qL _ _ _ _ HX.out,←List.append_assoc];simpa [Ya,List.append_assoc] using H5.out⟩
   case measure=>simp [intOf];omega
  ·have hk2:k=nt:=by omega
   subst hk2;clear hlt;go_wp2_with fail;refine (eF lo _ _ 8 _ _ ho _ HB3.out.len (by have h:=HB3.out.len;have g:=FM.out k;(try simp only [bF,aA] at h);omega) (by omega) x4 (Nat.le_trans hlo HB3.out.keep.size) HB3.out.own).mono ?_;rintro e w5 ⟨A5,n5,c5,l1,rfl,o1,k1⟩;have H5:=ae (HB3.out.next o1 l1 k1);clear l1 o1 k1;clear q0 q1 q2 q3 q4 q5 q6 q7;have q0:(w5).cell? ⟨w.heap.size,0,none⟩=some (I ep):=H5.out.row.2 0;have q1:(w5).cell? ⟨w.heap.size,1,none⟩=some (.slice A nm a):=H5.out.row.2 1;have q2:(w5).cell? ⟨w.heap.size,2,none⟩=some (I lp):=H5.out.row.2 2;have q3:(w5).cell? ⟨w.heap.size,3,none⟩=some (.slice R nr r):=H5.out.row.2 3;have q4:(w5).cell? ⟨w.heap.size,4,none⟩=some (I st):=H5.out.row.2 4;have q5:(w5).cell? ⟨w.heap.size,5,none⟩=some (.slice C k cc):=H5.out.row.2 5;have q6:(w5).cell? ⟨w.heap.size,6,none⟩=some (I ho):=H5.out.row.2 6;have q7:(w5).cell? ⟨w.heap.size,7,none⟩=some (.slice D ny dd):=H5.out.row.2 7;go_wp2_with fail;refine (eF lo _ _ 1 _ _ ny _ H5.out.len (by have h:=H5.out.len;have g:=FM.out k;(try simp only [bF,aA] at h);omega) (by omega) ⟨by omega,by omega⟩ (Nat.le_trans hlo H5.out.keep.size) H5.out.own).mono ?_;rintro e w6 ⟨A6,n6,c6,l1,rfl,o1,k1⟩;have H6:=ae (H5.out.next o1 l1 k1);clear l1 o1 k1;clear q0 q1 q2 q3 q4 q5 q6 q7;have q0:(w6).cell? ⟨w.heap.size,0,none⟩=some (I ep):=H6.out.row.2 0;have q1:(w6).cell? ⟨w.heap.size,1,none⟩=some (.slice A nm a):=H6.out.row.2 1;have q2:(w6).cell? ⟨w.heap.size,2,none⟩=some (I lp):=H6.out.row.2 2;have q3:(w6).cell? ⟨w.heap.size,3,none⟩=some (.slice R nr r):=H6.out.row.2 3;have q4:(w6).cell? ⟨w.heap.size,4,none⟩=some (I st):=H6.out.row.2 4;have q5:(w6).cell? ⟨w.heap.size,5,none⟩=some (.slice C k cc):=H6.out.row.2 5;have q6:(w6).cell? ⟨w.heap.size,6,none⟩=some (I ho):=H6.out.row.2 6;have q7:(w6).cell? ⟨w.heap.size,7,none⟩=some (.slice D ny dd):=H6.out.row.2 7;go_wp2_with fail
   go_loopw [0,6] (fun b i wr=>IG lo (.slice A0 n c0) w #[I ep, .slice A nm a,I lp, .slice R nr r,I st, .slice C k cc,I ho, .slice D ny dd] (fun j=>(bs++cb++le st 2++le k 2++(tr.take k).flatMap Ya)++le ho 8++le ny 1++(yr.take j).flatMap Zx) ny b i wr) (fun _ i _=>ny - (intOf i).toNat)
   case atStart=>exact ⟨0,n6,c6,A6,Nat.zero_le _,rfl,by go_num,by simpa using H6.out⟩
   case round=>
    obtain ⟨j,n7,c7,A7,hj,rfl,rfl,hb7⟩:=hrel;have oO:=ae hb7;clear hb7 q0 q1 q2 q3 q4 q5 q6 q7;have q0:(wr).cell? ⟨w.heap.size,0,none⟩=some (I ep):=oO.out.row.2 0;have q1:(wr).cell? ⟨w.heap.size,1,none⟩=some (.slice A nm a):=oO.out.row.2 1;have q2:(wr).cell? ⟨w.heap.size,2,none⟩=some (I lp):=oO.out.row.2 2;have q3:(wr).cell? ⟨w.heap.size,3,none⟩=some (.slice R nr r):=oO.out.row.2 3;have q4:(wr).cell? ⟨w.heap.size,4,none⟩=some (I st):=oO.out.row.2 4;have q5:(wr).cell? ⟨w.heap.size,5,none⟩=some (.slice C k cc):=oO.out.row.2 5;have q6:(wr).cell? ⟨w.heap.size,6,none⟩=some (I ho):=oO.out.row.2 6;have q7:(wr).cell? ⟨w.heap.size,7,none⟩=some (.slice D ny dd):=oO.out.row.2 7;by_cases hlt:(j:Int)<(ny:Int)
    ·obtain ⟨b,off,rfl,nV,hcl⟩:=vX.out.there (by rw [dP (s:=5) Yr.cells yr (fun _ _=>rfl),VA.out];omega);have hx:yr[j]? =some (yr[j]'(by rw [VA.out];omega)):=dK _;obtain ⟨x,hxx⟩:∃x,yr[j]'(by rw [VA.out];omega)=x:=⟨_,rfl⟩;rw [hxx] at hx;have EW:Hid (∀i u,x.cells[i]? =some u→w.cell? ⟨b,off+j*5+i,none⟩=some u):=ae (fun i u hu=>by rw [Nat.add_assoc];exact hcl _ _ (by rw [flat_get (s:=5) Yr.cells yr (fun _ _=>rfl) j i x hx (by have:=(iP.1 hu).1;simpa [Yr.cells] using this)];exact hu));have HX:=ae hx;have hfx:=qA.out x (gz hx);clear hcl hx hxx;have z0:(wr).cell? ⟨b,off+j*5,none⟩=some (I x.month):=((oO.out.low BC.out hlo).cell (p:=⟨b,off+j*5,none⟩) nV).trans (EW.out 0 _ rfl);have z1:(wr).cell? ⟨b,off+j*5+1,none⟩=some (I x.di):=((oO.out.low BC.out hlo).cell (p:=⟨b,off+j*5+1,none⟩) nV).trans (EW.out 1 _ rfl);have z2:(wr).cell? ⟨b,off+j*5+2,none⟩=some (I x.dm):=((oO.out.low BC.out hlo).cell (p:=⟨b,off+j*5+2,none⟩) nV).trans (EW.out 2 _ rfl);have z3:(wr).cell? ⟨b,off+j*5+3,none⟩=some (I x.minute):=((oO.out.low BC.out hlo).cell (p:=⟨b,off+j*5+3,none⟩) nV).trans (EW.out 3 _ rfl);have z4:(wr).cell? ⟨b,off+j*5+4,none⟩=some (I x.off):=((oO.out.low BC.out hlo).cell (p:=⟨b,off+j*5+4,none⟩) nV).trans (EW.out 4 _ rfl);go_wp2_with fail;obtain ⟨W0,hW0⟩:∃W0,W0=wr.alloc (.cells #[I x.month,I x.di,I x.dm,I x.minute,I x.off] 130):=⟨_,rfl⟩;have hbw:Below wr.heap.size wr W0:=by rw [hW0];exact ag wr _
     have H8:=ae (oO.out.grow hbw);have F8:Hid (VO wr.heap.size #[I x.month,I x.di,I x.dm,I x.minute,I x.off] (.slice A7 n7 c7) W0):=ae ⟨by rw [hW0];exact Row.new wr _ _,oO.out.qQ _ (Nat.le_refl _)⟩;rw [←hW0];refine (eF lo _ _ 1 _ _ x.month _ H8.out.len (by have h:=H8.out.len;have g:=FM.out k;have g2:=FR.out j;(try simp only [bF,aA] at h);omega) (by omega) hfx.month (Nat.le_trans hlo H8.out.keep.size) H8.out.own).mono ?_;rintro e w9 ⟨A9,n9,c9,l1,rfl,o1,k1⟩;have H9:=ae (H8.out.next o1 l1 k1);have F9:=ae (F8.out.next k1);clear l1 o1 k1;have y0:(w9).cell? ⟨wr.heap.size,0,none⟩=some (I x.month):=F9.out.1.2 0;have y1:(w9).cell? ⟨wr.heap.size,1,none⟩=some (I x.di):=F9.out.1.2 1;have y2:(w9).cell? ⟨wr.heap.size,2,none⟩=some (I x.dm):=F9.out.1.2 2;have y3:(w9).cell? ⟨wr.heap.size,3,none⟩=some (I x.minute):=F9.out.1.2 3;have y4:(w9).cell? ⟨wr.heap.size,4,none⟩=some (I x.off):=F9.out.1.2 4;go_wp2_with fail;refine (eF lo _ _ 1 _ _ x.di _ H9.out.len (by have h:=H9.out.len;have g:=FM.out k;have g2:=FR.out j;(try simp only [bF,aA] at h);omega) (by omega) hfx.di (Nat.le_trans hlo H9.out.keep.size) H9.out.own).mono ?_;rintro e w10 ⟨A10,n10,c10,l1,rfl,o1,k1⟩;have ZG:=ae (H9.out.next o1 l1 k1);have F10:=ae (F9.out.next k1);clear l1 o1 k1;clear y0 y1 y2 y3 y4;have y0:(w10).cell? ⟨wr.heap.size,0,none⟩=some (I x.month):=F10.out.1.2 0;have y1:(w10).cell? ⟨wr.heap.size,1,none⟩=some (I x.di):=F10.out.1.2 1;have y2:(w10).cell? ⟨wr.heap.size,2,none⟩=some (I x.dm):=F10.out.1.2 2;have y3:(w10).cell? ⟨wr.heap.size,3,none⟩=some (I x.minute):=F10.out.1.2 3;have y4:(w10).cell? ⟨wr.heap.size,4,none⟩=some (I x.off):=F10.out.1.2 4;go_wp2_with fail;refine (eF lo _ _ 1 _ _ x.dm _ ZG.out.len (by have h:=ZG.out.len;have g:=FM.out k;have g2:=FR.out j;(try simp only [bF,aA] at h);omega) (by omega) hfx.dm (Nat.le_trans hlo ZG.out.keep.size) ZG.out.own).mono ?_;rintro e KT ⟨A11,n11,c11,l1,rfl,o1,k1⟩;have H11:=ae (ZG.out.next o1 l1 k1);have F11:=ae (F10.out.next k1);clear l1 o1 k1;clear y0 y1 y2 y3 y4;have y0:(KT).cell? ⟨wr.heap.size,0,none⟩=some (I x.month):=F11.out.1.2 0;have y1:(KT).cell? ⟨wr.heap.size,1,none⟩=some (I x.di):=F11.out.1.2 1;have y2:(KT).cell? ⟨wr.heap.size,2,none⟩=some (I x.dm):=F11.out.1.2 2;have y3:(KT).cell? ⟨wr.heap.size,3,none⟩=some (I x.minute):=F11.out.1.2 3;have y4:(KT).cell? ⟨wr.heap.size,4,none⟩=some (I x.off):=F11.out.1.2 4;go_wp2_with fail;refine (eF lo _ _ 2 _ _ x.minute _ H11.out.len (by have h:=H11.out.len;have g:=FM.out k;have g2:=FR.out j;(try simp only [bF,aA] at h);omega) (by omega) hfx.minute (Nat.le_trans hlo H11.out.keep.size) H11.out.own).mono ?_;rintro e w12 ⟨A12,n12,c12,l1,rfl,o1,k1⟩;have H12:=ae (H11.out.next o1 l1 k1);have F12:=ae (F11.out.next k1);clear l1 o1 k1;clear y0 y1 y2 y3 y4;have y0:(w12).cell? ⟨wr.heap.size,0,none⟩=some (I x.month):=F12.out.1.2 0;have y1:(w12).cell? ⟨wr.heap.size,1,none⟩=some (I x.di):=F12.out.1.2 1;have y2:(w12).cell? ⟨wr.heap.size,2,none⟩=some (I x.dm):=F12.out.1.2 2;have y3:(w12).cell? ⟨wr.heap.size,3,none⟩=some (I x.minute):=F12.out.1.2 3;have y4:(w12).cell? ⟨wr.heap.size,4,none⟩=some (I x.off):=F12.out.1.2 4;go_wp2_with fail;refine (eF lo _ _ 2 _ _ x.off _ H12.out.len (by have h:=H12.out.len;have g:=FM.out k;have g2:=FR.out j;(try simp only [bF,aA] at h);omega) (by omega) hfx.off (Nat.le_trans hlo H12.out.keep.size) H12.out.own).mono ?_;rintro e zT ⟨A13,n13,c13,l1,rfl,o1,k1⟩;have H13:=ae (H12.out.next o1 l1 k1);have F13:=ae (F12.out.next k1);clear l1 o1 k1;go_wp2_with fail;go_roundw
     case rel=>exact ⟨j+1,n13,c13,A13,by omega,rfl,by go_num,by show CB _ _ _ _ (_++(yr.take (j+1)).flatMap Zx) _ _ _ _;rw [qL _ _ _ _ HX.out,←List.append_assoc];simpa [Zx,List.append_assoc] using H13.out⟩
     case measure=>simp [intOf];omega
    ·have hj2:j=ny:=by omega
     have HJ:=ae hj2;clear hj2;go_wp2_with fail;go_ret;have hb:=oO.out;rw [HJ.out,List.take_of_length_le (Nat.le_of_eq VA.out),List.take_of_length_le (Nat.le_of_eq HNT.out)] at hb;refine ⟨A7,n7,c7,?_,rfl,?_,hb.keep⟩
     ·rw [←hb.len];simp [List.append_assoc]
     ·have:=hb.own;simpa [HNT.out,VA.out,List.append_assoc] using this
def aU (k:Nat):ByteArray:=⟨#[122,(97+k).toUInt8]⟩
theorem sF (k:Nat):(aU k).size=2:=rfl
def xM:Nat→ByteArray
 |0=>⟨#[]⟩
 |k+1=>aU k
theorem KC:∀k,k<3→(Op.bytesLess (aU k).toList (xM k).toList=false∧((aU k).toList==(xM k).toList)=false):=by decide+kernel
structure ZnV0 (z:Zn):Prop where
 made:tZ z
 ok:yV z=0
theorem XX (z:Zn) (h:z.az= []):yV z=0:=by
 have e1:ry z= []:=by unfold ry;rw [h]
 unfold yV qO;rw [e1];simp [dZ,dY]
theorem Ql (x:EY):ZnV0 (jK x):=by
 refine ⟨Ut x,?_⟩;unfold jK;split
 ·rename_i h;exact h.2
 ·exact XX _ rfl
theorem tZ.z14 {z:Zn} (h:tZ z):Z14 z:=by
 obtain ⟨hc,hs,hh,hl,ht,_,hy⟩:=h;refine ⟨⟨⟨by have:=hc.ep;omega,by have:=hc.ep;omega⟩,by rw [hc.mo];omega,fun x hx=>⟨by have:=hc.all x hx;omega,by have:=hc.all x hx;omega⟩,⟨hc.le.1,by have:=hc.le;omega⟩,by have:=hc.ru;omega,fun r hr=>?_⟩,⟨by omega,by omega⟩,by omega,fun x hx=>?_,⟨by omega,by omega⟩,?_,fun y hm=>?_⟩
 ·obtain ⟨h1,h2,h3⟩:=hc.rl r hr;exact ⟨⟨by omega,by omega⟩,⟨by omega,by omega⟩⟩
 ·obtain ⟨⟨h1,h2⟩,h3,h4⟩:=ht x hx;exact ⟨⟨by omega,by omega⟩,⟨by omega,by omega⟩⟩
 ·rcases hy with h|⟨r0,r1,h,_,_⟩<;>rw [h]<;>simp
 ·have hS:yN y:=by
   rcases hy with h|⟨r0,r1,h,h0,h1⟩
   ·rw [h] at hm;cases hm
   ·rw [h] at hm;rcases List.mem_cons.1 hm with rfl|hm
    ·exact h0
    ·rcases List.mem_cons.1 hm with rfl|hm
     ·exact h1
     ·cases hm
  exact ⟨by have:=hS.mo;constructor<;>omega,by have:=hS.wk;constructor<;>omega,by have:=hS.wd;constructor<;>omega,by have:=hS.mi;constructor<;>omega,by have:=hS.of;constructor<;>omega⟩
theorem Vs (z:Zn) (h:tZ z):(QR z).length≤100:=by
 have g1:=iJ (le · 1) z.cal.aj 1 z.cal.aj.length (fun _=>aA _ _);have g2:=iJ Xr z.cal.rules 5 z.cal.rules.length GY;have g3:=iJ Ya z.trans 10 z.trans.length Pg;have g4:=iJ Zx z.az 7 z.az.length Po;rw [List.take_length] at g1 g2 g3 g4;have h1:=h.cal.mo;have h2:=h.cal.ru;have h3:=h.Nw;have h4:z.az.length≤2:=by rcases h.yr with e|⟨r0,r1,e,_,_⟩<;>rw [e]<;>simp
 simp only [QR,xn,bF,aA];omega
structure IB (t:Tb):Prop where
 bC:0≤t.bC∧t.bC≤15
 version:1≤t.version∧t.version≤64
 aH:0≤t.aH∧t.aH<t.version
 first:t.version=1→t.prev=aS
 num:t.aK.length≤3
 aK:∀e∈t.aK,ZnV0 e.z
 names:∀k e,t.aK[k]? =some e→e.name=aU k
theorem oz (w:World) (r:List UInt8) (h:r.length=32):(Op.equalIn 10000 24 (.agg (r.map Extern.Stop.cell).toArray) (.agg (r.map Extern.Stop.cell).toArray)).run Tryz.prog w= .ok true w:=by
 rw [run_equalIn_bytes w 9998 24 5 32 Tryz.underlying24 Tryz.underlying5 (fun w=>Hf w) r r h h,beq_self_eq_true]
attribute [local go_sem] jm jo jq bK
theorem Ku (t:Tb) (A:Option Addr) (n c:Nat) (w:World) (h:IB t) (hp:t.prev.length=32):
  Calls Tryz.prog 89 #[.agg (ai t (.slice A n c))] w (Gives (.bool true) w):=by
 have HR0:=ae (Row.new w (ai t (.slice A n c)) 32);have HB0:=ae (ag w (.cells (ai t (.slice A n c)) 32));have k0:=HR0.out.2;have q1:=h.bC.1;have q2:=h.bC.2;have q3:=h.version.1;have q4:=h.version.2;have q5:=h.aH.1;have q6:=h.aH.2;have HF:=ae h;clear h;by_cases hv:t.version=1
 ·have hpz:t.prev=aS:=HF.out.first hv;have heq:∀W,(binOp .eql 24 (.agg (au t.prev).toArray) (.agg (au aS).toArray)).run Tryz.prog W= .ok (.bool true) W:=fun W=>by
   rw [hpz];unfold au;rw [run_eql_struct,Go.Proofs.YtdibbemgpikgjaaGreat.oz W aS rfl];simp [Result.andThen]
  have h32:(Tryz.prog.info? 24).map (·.size)=some (au t.prev).length:=by rw [show (au t.prev).length=32 by simp [au,hp]];kernel_rfl
  have HP:=ae (qh t (.slice A n c) HR0.out);have Rl:=ae h32;clear hpz h32 hp;rw [oK] at heq;go_enter Tryz.func89,Tryz.ntmps89;go_wp2_with (with_reducible refine dM 24 ?_;refine bU rfl _ _ rfl w.heap.size 4 rfl (au t.prev) HP.out _ Tryz.underlying24 rfl Rl.out ?_);go_ret;exact ⟨rfl,HB0.out⟩
 ·go_enter Tryz.func89,Tryz.ntmps89;go_wp2_with fail;go_ret;exact ⟨rfl,HB0.out⟩
structure TVr (w:World) (cs:Array Value) (A:Option Addr) (zs:List dA) (W:World):Prop where
 row:Row W w.heap.size cs
 mem:oD W w.heap.size A zs
 up:Below w.heap.size w W
theorem TVr.below {w W W':World} {cs:Array Value} {A:Option Addr} {zs:List dA} (h:TVr w cs A zs W) (hb:Below W.heap.size W W'):TVr w cs A zs W':=
 ⟨h.row.keep hb,h.mem.keep (hb.mono h.up.size),ah h.up hb⟩
theorem QJ (x:fH) (w:World) (hx:lS w w.heap.size x) (h:IB x.t):
  Calls Tryz.prog 66 #[.agg (ai x.t (.slice x.A x.zs.length x.c))] w (Gives (.int .i64 0) w):=by
 obtain ⟨t,A,c,zs⟩:=x;obtain ⟨hz,hp,hm,hA⟩:=hx;simp only at hz hp hm hA h ⊢;obtain ⟨n,hn⟩:∃n,zs.length=n:=⟨_,rfl⟩;rw [hn];have HB0:=ae (ag w (.cells (ai t (.slice A n c)) 32));have vg:Hid (TVr w (ai t (.slice A n c)) A zs (w.alloc (.cells (ai t (.slice A n c)) 32))):=ae ⟨Row.new w _ _,hA.keep HB0.out,HB0.out⟩;have HHD:Hid (∀W,Calls Tryz.prog 89 #[.agg (ai t (.slice A n c))] W (Gives (.bool true) W)):=ae fun W=>Ku t A n c W h hp;have dR:=ae (bP t (.slice A n c) hp hm);have hn3:n≤3:=by have:=h.num;rw [hz,List.length_map,hn] at this;exact this
 have HF:=ae h;have HZ:=ae hz;have Ir:=ae hn;clear h hz hp hm hA hn HB0;go_enter Tryz.func66,Tryz.ntmps66;go_wp2_with ((with_reducible refine jy 32 ?_);go_must (refine aV rfl _ _ rfl w.heap.size rfl (ai t (.slice A n c)) vg.out.row _ Tryz.underlying32 rfl dR.out ?_));refine (HHD.out _).mono ?_;rintro e w1 ⟨rfl,hb1⟩;have pM:=ae (vg.out.below hb1);have k1:=pM.out.row.2;have hlt1:=pM.out.row.1;clear hb1 vg;go_wp2_with fail
 go_loopw [3] (fun i wr=>∃k:Nat,k≤n∧i=I k∧TVr w (ai t (.slice A n c)) A zs wr) (fun i _=>n - (intOf i).toNat)
 case atStart=>exact ⟨0,Nat.zero_le _,rfl,pM.out⟩
 case round=>
  obtain ⟨k,hk,rfl,D9⟩:=hrel;have HV:=ae D9;clear D9 k1 hlt1 pM;have k1:=HV.out.row.2;have hlt1:=HV.out.row.1;by_cases hlt:(k:Int)<(n:Int)
  ·have hkz:k<zs.length:=by rw [Ir.out];omega
   obtain ⟨x,hx⟩:∃x,zs[k]? =some x:=⟨_,dK hkz⟩;obtain ⟨b,off,rfl,nV,hcl⟩:=HV.out.mem.row.there (by rw [dN];omega);have gJ:Hid (∀k x,zs[k]? =some x→wr.rangeAt b (off+k*9) x.cells.toList):=ae fun k x hx=>aB.elem (s:=9) (f:=fun x:dA=>x.cells.toList) (fun _ _=>rfl) hcl k x hx;have c0:wr.cell? ⟨b,off+k*9,none⟩=some (.string x.e.name):=gJ.out k x hx 0 _ rfl;have c1:wr.cell? ⟨b,off+k*9+1,none⟩=some (I x.e.z.cal.aI):=gJ.out k x hx 1 _ rfl;have c2:wr.cell? ⟨b,off+k*9+2,none⟩=some (.slice x.s.A x.e.z.cal.aj.length x.s.a):=gJ.out k x hx 2 _ rfl;have c3:wr.cell? ⟨b,off+k*9+3,none⟩=some (I x.e.z.cal.aY):=gJ.out k x hx 3 _ rfl;have c4:wr.cell? ⟨b,off+k*9+4,none⟩=some (.slice x.s.B x.e.z.cal.rules.length x.s.b):=gJ.out k x hx 4 _ rfl;have c5:wr.cell? ⟨b,off+k*9+5,none⟩=some (I x.e.z.start):=gJ.out k x hx 5 _ rfl;have c6:wr.cell? ⟨b,off+k*9+6,none⟩=some (.slice x.s.C x.e.z.trans.length x.s.c):=gJ.out k x hx 6 _ rfl;have c7:wr.cell? ⟨b,off+k*9+7,none⟩=some (I x.e.z.hor):=gJ.out k x hx 7 _ rfl;have c8:wr.cell? ⟨b,off+k*9+8,none⟩=some (.slice x.s.D x.e.z.az.length x.s.d):=gJ.out k x hx 8 _ rfl;have hxm:x.e∈t.aK:=by rw [HZ.out];exact List.mem_map_of_mem (gz hx)
   have hnm:x.e.name=aU k:=HF.out.names k x.e (by rw [HZ.out,List.getElem?_map,hx];rfl);have Q5:=ae hnm;have PW:Hid (∀W,Below wr.heap.size wr W→Calls Tryz.prog 73 #[.agg (ax x.e.z x.s)] W (Gives (.int .i64 0) W)):=ae fun W hb=>by
    have hz:=HF.out.aK _ hxm;have:=Du x.e.z x.s W hz.made (((HV.out.mem.each x (gz hx)).more HV.out.up.size).grow hb);rw [hz.ok] at this;exact this
   have hup:=KC k (by omega);have q7:(aU k).size=2:=rfl;rw [hnm] at c0;obtain ⟨nm,Xf⟩:∃s,aU k=s:=⟨_,rfl⟩;rw [Xf] at hup q7 c0;unfold ax at PW;have Ob:=ae hup;have HNM2:=ae Xf;rcases Nat.eq_zero_or_pos k with h0|h0
   ·subst h0;clear hx hcl hxm hkz hnm Xf hup;simp only [Nat.zero_mul,Nat.add_zero] at c0 c1 c2 c3 c4 c5 c6 c7 c8;go_wp2_with fail;refine (PW.out _ (Below.refl _ _)).mono ?_;rintro e w2 ⟨rfl,hb2⟩;have ni:=ae (HV.out.below hb2);clear hb2;go_wp2_with fail;go_roundw
    case rel=>exact ⟨1,by omega,rfl,ni.out⟩
    case measure=>simp [intOf];omega
   ·obtain ⟨j,rfl⟩:∃j,k=j+1:=⟨k - 1,by omega⟩;obtain ⟨y,hy⟩:∃y,zs[j]? =some y:=⟨_,dK (by omega)⟩;have hnmy:y.e.name=aU j:=HF.out.names j y.e (by rw [HZ.out,List.getElem?_map,hy];rfl);have d0:wr.cell? ⟨b,off+j*9,none⟩=some (.string (aU j)):=by rw [←hnmy];exact gJ.out j y hy 0 _ rfl
    obtain ⟨pn,hpn⟩:∃s,aU j=s:=⟨_,rfl⟩;obtain ⟨s1,s2⟩:=hup;simp only [xM] at s1 s2;rw [hpn] at d0 s1 s2;clear hx hcl hxm hkz hnm Xf hy hnmy hpn;go_wp2_with fail;refine (PW.out _ (Below.refl _ _)).mono ?_;rintro e w2 ⟨rfl,hb2⟩;have ni:=ae (HV.out.below hb2);clear hb2;go_wp2_with fail;go_roundw
    case rel=>exact ⟨j+2,by omega,by go_num,ni.out⟩
    case measure=>simp [intOf];omega
  ·go_wp2_with fail;go_ret;exact ⟨rfl,HV.out.up⟩
end Go.Proofs.YtdibbemgpikgjaaGreat
