/- The texts Kp, Kq, Oka, Kr, Ks, Kt, in this order. -/
import Derived.Test.YtdibbemgpikgjaaGreatDoorY00
import Derived.Test.YtdibbemgpikgjaaGreatDoorY04
import Derived.Test.YtdibbemgpikgjaaGreatDoorY11
import Derived.Test.YtdibbemgpikgjaaGreatDoorY15
import Derived.Test.YtdibbemgpikgjaaGreatDoorY18
import Derived.Test.YtdibbemgpikgjaaGreatDoorY22
import Derived.Test.YtdibbemgpikgjaaGreatDoorY31
set_option maxRecDepth 10000
set_option maxHeartbeats 8000000
namespace Go.Proofs.YtdibbemgpikgjaaGreatDoor
open Go Go.RowKit
def U6 (t:Tr):List UInt8:=le t.at_ 8++le t.off 2
def XE (y:Yr):List UInt8:=le y.month 1++(le y.df 1++(le y.dh 1++(le y.minute 2++le y.off 2)))
def JO (z:Zn):List UInt8:=tK z.cal++(le z.start 2++(le z.trans.length 2++(z.trans.flatMap U6++(le z.hor 8++(le z.aN.length 1++z.aN.flatMap XE)))))
structure Y14 (y:Yr):Prop where
 month:fits y.month
 df:fits y.df
 dh:fits y.dh
 minute:fits y.minute
 off:fits y.off
structure Z14 (z:Zn):Prop where
 cal:C14 z.cal
 start:fits z.start
 tl:z.trans.length≤1000
 tr:∀x∈z.trans,fits x.at_∧fits x.off
 hor:fits z.hor
 yl:z.aN.length≤1000
 yr:∀y∈z.aN,Y14 y
theorem OJ (t:Tr):(U6 t).length=10:=by simp [U6,aF]
theorem OQ (y:Yr):(XE y).length=7:=by simp [XE,aF]
theorem PH (c:Cal) (h:C14 c):(tK c).length≤7000:=by
 have g:=iw (le · 1) c.az 1 c.az.length (fun _=>aF _ _);have g2:=iw U5 c.rules 5 c.rules.length Gn;rw [List.take_length] at g g2;have h1:=h.mo;have h2:=h.ru;simp only [tK,aZ,aF];omega
theorem CB.grow {lo n c:Nat} {v0:Value} {A:Option Addr} {w W W':World} {cs:Array Value} {bs:List UInt8} (h:CB lo v0 w cs bs A n c W) (hb:Below W.heap.size W W'):CB lo v0 w cs bs A n c W':=
 ⟨h.row.keep hb,nH.below h.own hb,h.len,h.keep.below hb,h.far⟩
theorem CB.qP {lo n c:Nat} {v0:Value} {A:Option Addr} {w W:World} {cs:Array Value} {bs:List UInt8} (h:CB lo v0 w cs bs A n c W) (b:Nat) (hb:W.heap.size≤b):some b≠(Value.slice A n c).ownBlock:=fun e=>by have:=(World.ownsRow.lt h.own _ e.symm).2;omega
def Ve (b:Nat) (cs:Array Value) (v:Value) (W:World):Prop:=Row W b cs∧some b≠v.ownBlock
theorem Ve.next {b:Nat} {cs:Array Value} {v v':Value} {W W':World} (h:Ve b cs v W) (hk:uD v W v' W'):Ve b cs v' W':=by
 have hlt:=h.1.1;refine ⟨⟨dP hlt hk.size,fun i=>(World.cell?_of_block (a:=⟨b,i,none⟩) (hk.block _ hlt h.2)).trans (h.1.2 i)⟩,?_⟩;rcases hk.own with e|⟨g,e,hb⟩
 ·rw [e];exact h.2
 ·rw [e];intro h';injection h' with h';omega
theorem UI (lo n c0:Nat) (A0:Option Addr) (bs:List UInt8) (z:Zn) (s:Zs) (w:World) (hl:bs.length=n) (hn:n≤50000) (hc:Z14 z) (hm:jG w lo s z) (hlo:lo≤w.heap.size) (hO:nH lo w A0 n c0 bs):
  Calls Tryz.prog 66 #[.slice A0 n c0, .agg (ay z s)] w (XQ lo (.slice A0 n c0) w (bs++JO z)):=by
 have vS:Hid (Calls Tryz.prog 89 #[.slice A0 n c0, .agg (aG z.cal s.A s.a s.B s.b)] (w.alloc (.cells (ay z s) 67)) (XQ lo (.slice A0 n c0) (w.alloc (.cells (ay z s) 67)) (bs++tK z.cal))):=ae (KW lo n c0 A0 bs z.cal s.A s.B s.a s.b _ hl (by omega) hc.cal ⟨(hm.az.keep ((ag w _).mono hlo)),(hm.rules.keep ((ag w _).mono hlo))⟩ (by simp;omega) (nH.below hO (ag w _)));have hcb:=PH z.cal hc.cal;obtain ⟨cb,hcbe⟩:∃l,tK z.cal=l:=⟨_,rfl⟩;rw [hcbe] at vS hcb;obtain ⟨⟨ep,mo,lp,ru⟩,st,tr,ho,yr⟩:=z;obtain ⟨A,a,R,r,C,cc,D,dd⟩:=s;obtain ⟨_,x1,x2,x3,x4,x5,x6⟩:=hc;obtain ⟨_,_,y0,y1⟩:=hm;simp only at x1 x2 x3 x4 x5 x6 y0 y1;unfold JO;rw [hcbe];unfold ay aG at vS;unfold ay;simp only at vS ⊢;obtain ⟨nm,hnm⟩:∃n,mo.length=n:=⟨_,rfl⟩;obtain ⟨nr,hnr⟩:∃n,ru.length=n:=⟨_,rfl⟩;obtain ⟨nt,hnt⟩:∃n,tr.length=n:=⟨_,rfl⟩;obtain ⟨ny,hny⟩:∃n,yr.length=n:=⟨_,rfl⟩;have FM:=ae (fun k=>iw U6 tr 10 k OJ);have FR:=ae (fun k=>iw XE yr 7 k OQ);have yS:=ae x3;have qw:=ae x6;have HY0:=ae y0;have Rq:=ae y1;have Ba:=ae hO;have HNT:=ae hnt;have Yd:=ae hny;rw [hnm,hnr] at vS ⊢;rw [hnt] at x2 FM vS ⊢;rw [hny] at x5 FR vS ⊢;have HB:=ae (CB.start #[I ep, .slice A nm a,I lp, .slice R nr r,I st, .slice C nt cc,I ho, .slice D ny dd] 67 hO hl);clear x3 x6 y0 y1 hO hnm hnr hnt hny hcbe;go_enter Tryz.func66,Tryz.ntmps66;go_wp2_with fail;refine vS.out.mono ?_;rintro e w0 ⟨A1,n1,c1,l1,rfl,o1,k1⟩;have H0:=ae (HB.out.next o1 l1 k1);clear l1 o1 k1 vS;have q0:(w0).cell? ⟨w.heap.size,0,none⟩=some (I ep):=H0.out.row.2 0;have q1:(w0).cell? ⟨w.heap.size,1,none⟩=some (.slice A nm a):=H0.out.row.2 1;have q2:(w0).cell? ⟨w.heap.size,2,none⟩=some (I lp):=H0.out.row.2 2;have q3:(w0).cell? ⟨w.heap.size,3,none⟩=some (.slice R nr r):=H0.out.row.2 3;have q4:(w0).cell? ⟨w.heap.size,4,none⟩=some (I st):=H0.out.row.2 4;have q5:(w0).cell? ⟨w.heap.size,5,none⟩=some (.slice C nt cc):=H0.out.row.2 5;have q6:(w0).cell? ⟨w.heap.size,6,none⟩=some (I ho):=H0.out.row.2 6;have q7:(w0).cell? ⟨w.heap.size,7,none⟩=some (.slice D ny dd):=H0.out.row.2 7;go_wp2_with fail;refine (dQ lo _ _ 2 _ _ st _ H0.out.len (by have h:=H0.out.len;(try simp only [aZ] at h);omega) (by omega) x1 (Nat.le_trans hlo H0.out.keep.size) H0.out.own).mono ?_;rintro e w2 ⟨A2,n2,c2,l1,rfl,o1,k1⟩;have H1:=ae (H0.out.next o1 l1 k1);clear l1 o1 k1;clear q0 q1 q2 q3 q4 q5 q6 q7;have q0:(w2).cell? ⟨w.heap.size,0,none⟩=some (I ep):=H1.out.row.2 0;have q1:(w2).cell? ⟨w.heap.size,1,none⟩=some (.slice A nm a):=H1.out.row.2 1;have q2:(w2).cell? ⟨w.heap.size,2,none⟩=some (I lp):=H1.out.row.2 2;have q3:(w2).cell? ⟨w.heap.size,3,none⟩=some (.slice R nr r):=H1.out.row.2 3;have q4:(w2).cell? ⟨w.heap.size,4,none⟩=some (I st):=H1.out.row.2 4;have q5:(w2).cell? ⟨w.heap.size,5,none⟩=some (.slice C nt cc):=H1.out.row.2 5;have q6:(w2).cell? ⟨w.heap.size,6,none⟩=some (I ho):=H1.out.row.2 6;have q7:(w2).cell? ⟨w.heap.size,7,none⟩=some (.slice D ny dd):=H1.out.row.2 7;go_wp2_with fail;refine (dQ lo _ _ 2 _ _ nt _ H1.out.len (by have h:=H1.out.len;(try simp only [aZ,aF] at h);omega) (by omega) ⟨by omega,by omega⟩ (Nat.le_trans hlo H1.out.keep.size) H1.out.own).mono ?_;rintro e w3 ⟨A3,n3,c3,l1,rfl,o1,k1⟩;have H2:=ae (H1.out.next o1 l1 k1);clear l1 o1 k1;clear q0 q1 q2 q3 q4 q5 q6 q7;have q0:(w3).cell? ⟨w.heap.size,0,none⟩=some (I ep):=H2.out.row.2 0;have q1:(w3).cell? ⟨w.heap.size,1,none⟩=some (.slice A nm a):=H2.out.row.2 1;have q2:(w3).cell? ⟨w.heap.size,2,none⟩=some (I lp):=H2.out.row.2 2;have q3:(w3).cell? ⟨w.heap.size,3,none⟩=some (.slice R nr r):=H2.out.row.2 3;have q4:(w3).cell? ⟨w.heap.size,4,none⟩=some (I st):=H2.out.row.2 4;have q5:(w3).cell? ⟨w.heap.size,5,none⟩=some (.slice C nt cc):=H2.out.row.2 5;have q6:(w3).cell? ⟨w.heap.size,6,none⟩=some (I ho):=H2.out.row.2 6;have q7:(w3).cell? ⟨w.heap.size,7,none⟩=some (.slice D ny dd):=H2.out.row.2 7;go_wp2_with fail
 go_loopw [0,5] (fun b i wr=>Hg lo (.slice A0 n c0) w #[I ep, .slice A nm a,I lp, .slice R nr r,I st, .slice C nt cc,I ho, .slice D ny dd] (fun k=>bs++cb++le st 2++le nt 2++(tr.take k).flatMap U6) nt b i wr) (fun _ i _=>nt - (intOf i).toNat)
 case atStart=>exact ⟨0,n3,c3,A3,Nat.zero_le _,rfl,by go_num,by simpa using H2.out⟩
 case round=>
  obtain ⟨k,n4,c4,A4,hk,rfl,rfl,hb3⟩:=hrel;have HB3:=ae hb3;clear hb3 q0 q1 q2 q3 q4 q5 q6 q7;have q0:(wr).cell? ⟨w.heap.size,0,none⟩=some (I ep):=HB3.out.row.2 0;have q1:(wr).cell? ⟨w.heap.size,1,none⟩=some (.slice A nm a):=HB3.out.row.2 1;have q2:(wr).cell? ⟨w.heap.size,2,none⟩=some (I lp):=HB3.out.row.2 2;have q3:(wr).cell? ⟨w.heap.size,3,none⟩=some (.slice R nr r):=HB3.out.row.2 3;have q4:(wr).cell? ⟨w.heap.size,4,none⟩=some (I st):=HB3.out.row.2 4;have q5:(wr).cell? ⟨w.heap.size,5,none⟩=some (.slice C nt cc):=HB3.out.row.2 5;have q6:(wr).cell? ⟨w.heap.size,6,none⟩=some (I ho):=HB3.out.row.2 6;have q7:(wr).cell? ⟨w.heap.size,7,none⟩=some (.slice D ny dd):=HB3.out.row.2 7;by_cases hlt:(k:Int)<(nt:Int)
  ·obtain ⟨b,off,rfl,nN,hcl⟩:=HY0.out.there (by rw [dD (s:=2) Tr.cells tr (fun _ _=>rfl),HNT.out];omega);have hx:tr[k]? =some (tr[k]'(by rw [HNT.out];omega)):=bZ _;obtain ⟨x,hxx⟩:∃x,tr[k]'(by rw [HNT.out];omega)=x:=⟨_,rfl⟩;rw [hxx] at hx;have Ep:Hid (∀i u,x.cells[i]? =some u→w.cell? ⟨b,off+k*2+i,none⟩=some u):=ae (fun i u hu=>by rw [Nat.add_assoc];exact hcl _ _ (by rw [flat_get (s:=2) Tr.cells tr (fun _ _=>rfl) k i x hx (by have:=(eG.1 hu).1;simpa [Tr.cells] using this)];exact hu));have HX:=ae hx;have hfx:=yS.out x (dS hx);clear hcl hx hxx;have z0:(wr).cell? ⟨b,off+k*2,none⟩=some (I x.at_):=((HB3.out.low Ba.out hlo).cell (p:=⟨b,off+k*2,none⟩) nN).trans (Ep.out 0 _ rfl);have z1:(wr).cell? ⟨b,off+k*2+1,none⟩=some (I x.off):=((HB3.out.low Ba.out hlo).cell (p:=⟨b,off+k*2+1,none⟩) nN).trans (Ep.out 1 _ rfl);go_wp2_with fail;refine (dQ lo _ _ 8 _ _ x.at_ _ HB3.out.len (by have h:=HB3.out.len;have g:=FM.out k;(try simp only [aZ,aF] at h);omega) (by omega) hfx.1 (Nat.le_trans hlo HB3.out.keep.size) HB3.out.own).mono ?_;rintro e w5 ⟨A5,n5,c5,l1,rfl,o1,k1⟩;have H4:=ae (HB3.out.next o1 l1 k1);clear l1 o1 k1;clear q0 q1 q2 q3 q4 q5 q6 q7;clear z0 z1;have q0:(w5).cell? ⟨w.heap.size,0,none⟩=some (I ep):=H4.out.row.2 0;have q1:(w5).cell? ⟨w.heap.size,1,none⟩=some (.slice A nm a):=H4.out.row.2 1;have q2:(w5).cell? ⟨w.heap.size,2,none⟩=some (I lp):=H4.out.row.2 2;have q3:(w5).cell? ⟨w.heap.size,3,none⟩=some (.slice R nr r):=H4.out.row.2 3;have q4:(w5).cell? ⟨w.heap.size,4,none⟩=some (I st):=H4.out.row.2 4;have q5:(w5).cell? ⟨w.heap.size,5,none⟩=some (.slice (some ⟨b,off,none⟩) nt cc):=H4.out.row.2 5;have q6:(w5).cell? ⟨w.heap.size,6,none⟩=some (I ho):=H4.out.row.2 6;have q7:(w5).cell? ⟨w.heap.size,7,none⟩=some (.slice D ny dd):=H4.out.row.2 7;have z0:(w5).cell? ⟨b,off+k*2,none⟩=some (I x.at_):=((H4.out.low Ba.out hlo).cell (p:=⟨b,off+k*2,none⟩) nN).trans (Ep.out 0 _ rfl);have z1:(w5).cell? ⟨b,off+k*2+1,none⟩=some (I x.off):=((H4.out.low Ba.out hlo).cell (p:=⟨b,off+k*2+1,none⟩) nN).trans (Ep.out 1 _ rfl);go_wp2_with fail;refine (dQ lo _ _ 2 _ _ x.off _ H4.out.len (by have h:=H4.out.len;have g:=FM.out k;(try simp only [aZ,aF] at h);omega) (by omega) hfx.2 (Nat.le_trans hlo H4.out.keep.size) H4.out.own).mono ?_;rintro e w6 ⟨A6,n6,c6,l1,rfl,o1,k1⟩;have H5:=ae (H4.out.next o1 l1 k1);clear l1 o1 k1;go_wp2_with fail;go_roundw
   case rel=>exact ⟨k+1,n6,c6,A6,by omega,rfl,by go_num,by show CB _ _ _ _ (_++(tr.take (k+1)).flatMap U6) _ _ _ _;rw [qJ _ _ _ _ HX.out,←List.append_assoc];simpa [U6,List.append_assoc] using H5.out⟩
   case measure=>simp [intOf];omega
  ·have hk2:k=nt:=by omega
   subst hk2;clear hlt;go_wp2_with fail;refine (dQ lo _ _ 8 _ _ ho _ HB3.out.len (by have h:=HB3.out.len;have g:=FM.out k;(try simp only [aZ,aF] at h);omega) (by omega) x4 (Nat.le_trans hlo HB3.out.keep.size) HB3.out.own).mono ?_;rintro e w5 ⟨A5,n5,c5,l1,rfl,o1,k1⟩;have H5:=ae (HB3.out.next o1 l1 k1);clear l1 o1 k1;clear q0 q1 q2 q3 q4 q5 q6 q7;have q0:(w5).cell? ⟨w.heap.size,0,none⟩=some (I ep):=H5.out.row.2 0;have q1:(w5).cell? ⟨w.heap.size,1,none⟩=some (.slice A nm a):=H5.out.row.2 1;have q2:(w5).cell? ⟨w.heap.size,2,none⟩=some (I lp):=H5.out.row.2 2;have q3:(w5).cell? ⟨w.heap.size,3,none⟩=some (.slice R nr r):=H5.out.row.2 3;have q4:(w5).cell? ⟨w.heap.size,4,none⟩=some (I st):=H5.out.row.2 4;have q5:(w5).cell? ⟨w.heap.size,5,none⟩=some (.slice C k cc):=H5.out.row.2 5;have q6:(w5).cell? ⟨w.heap.size,6,none⟩=some (I ho):=H5.out.row.2 6;have q7:(w5).cell? ⟨w.heap.size,7,none⟩=some (.slice D ny dd):=H5.out.row.2 7;go_wp2_with fail;refine (dQ lo _ _ 1 _ _ ny _ H5.out.len (by have h:=H5.out.len;have g:=FM.out k;(try simp only [aZ,aF] at h);omega) (by omega) ⟨by omega,by omega⟩ (Nat.le_trans hlo H5.out.keep.size) H5.out.own).mono ?_;rintro e w6 ⟨A6,n6,c6,l1,rfl,o1,k1⟩;have H6:=ae (H5.out.next o1 l1 k1);clear l1 o1 k1;clear q0 q1 q2 q3 q4 q5 q6 q7;have q0:(w6).cell? ⟨w.heap.size,0,none⟩=some (I ep):=H6.out.row.2 0;have q1:(w6).cell? ⟨w.heap.size,1,none⟩=some (.slice A nm a):=H6.out.row.2 1;have q2:(w6).cell? ⟨w.heap.size,2,none⟩=some (I lp):=H6.out.row.2 2;have q3:(w6).cell? ⟨w.heap.size,3,none⟩=some (.slice R nr r):=H6.out.row.2 3;have q4:(w6).cell? ⟨w.heap.size,4,none⟩=some (I st):=H6.out.row.2 4;have q5:(w6).cell? ⟨w.heap.size,5,none⟩=some (.slice C k cc):=H6.out.row.2 5;have q6:(w6).cell? ⟨w.heap.size,6,none⟩=some (I ho):=H6.out.row.2 6;have q7:(w6).cell? ⟨w.heap.size,7,none⟩=some (.slice D ny dd):=H6.out.row.2 7;go_wp2_with fail
   go_loopw [0,6] (fun b i wr=>Hg lo (.slice A0 n c0) w #[I ep, .slice A nm a,I lp, .slice R nr r,I st, .slice C k cc,I ho, .slice D ny dd] (fun j=>(bs++cb++le st 2++le k 2++(tr.take k).flatMap U6)++le ho 8++le ny 1++(yr.take j).flatMap XE) ny b i wr) (fun _ i _=>ny - (intOf i).toNat)
   case atStart=>exact ⟨0,n6,c6,A6,Nat.zero_le _,rfl,by go_num,by simpa using H6.out⟩
   case round=>
    obtain ⟨j,n7,c7,A7,hj,rfl,rfl,hb7⟩:=hrel;have qC:=ae hb7;clear hb7 q0 q1 q2 q3 q4 q5 q6 q7;have q0:(wr).cell? ⟨w.heap.size,0,none⟩=some (I ep):=qC.out.row.2 0;have q1:(wr).cell? ⟨w.heap.size,1,none⟩=some (.slice A nm a):=qC.out.row.2 1;have q2:(wr).cell? ⟨w.heap.size,2,none⟩=some (I lp):=qC.out.row.2 2;have q3:(wr).cell? ⟨w.heap.size,3,none⟩=some (.slice R nr r):=qC.out.row.2 3;have q4:(wr).cell? ⟨w.heap.size,4,none⟩=some (I st):=qC.out.row.2 4;have q5:(wr).cell? ⟨w.heap.size,5,none⟩=some (.slice C k cc):=qC.out.row.2 5;have q6:(wr).cell? ⟨w.heap.size,6,none⟩=some (I ho):=qC.out.row.2 6;have q7:(wr).cell? ⟨w.heap.size,7,none⟩=some (.slice D ny dd):=qC.out.row.2 7;by_cases hlt:(j:Int)<(ny:Int)
    ·obtain ⟨b,off,rfl,nN,hcl⟩:=Rq.out.there (by rw [dD (s:=5) Yr.cells yr (fun _ _=>rfl),Yd.out];omega);have hx:yr[j]? =some (yr[j]'(by rw [Yd.out];omega)):=bZ _;obtain ⟨x,hxx⟩:∃x,yr[j]'(by rw [Yd.out];omega)=x:=⟨_,rfl⟩;rw [hxx] at hx;have Ep:Hid (∀i u,x.cells[i]? =some u→w.cell? ⟨b,off+j*5+i,none⟩=some u):=ae (fun i u hu=>by rw [Nat.add_assoc];exact hcl _ _ (by rw [flat_get (s:=5) Yr.cells yr (fun _ _=>rfl) j i x hx (by have:=(eG.1 hu).1;simpa [Yr.cells] using this)];exact hu));have HX:=ae hx;have hfx:=qw.out x (dS hx);clear hcl hx hxx;have z0:(wr).cell? ⟨b,off+j*5,none⟩=some (I x.month):=((qC.out.low Ba.out hlo).cell (p:=⟨b,off+j*5,none⟩) nN).trans (Ep.out 0 _ rfl);have z1:(wr).cell? ⟨b,off+j*5+1,none⟩=some (I x.df):=((qC.out.low Ba.out hlo).cell (p:=⟨b,off+j*5+1,none⟩) nN).trans (Ep.out 1 _ rfl);have z2:(wr).cell? ⟨b,off+j*5+2,none⟩=some (I x.dh):=((qC.out.low Ba.out hlo).cell (p:=⟨b,off+j*5+2,none⟩) nN).trans (Ep.out 2 _ rfl);have z3:(wr).cell? ⟨b,off+j*5+3,none⟩=some (I x.minute):=((qC.out.low Ba.out hlo).cell (p:=⟨b,off+j*5+3,none⟩) nN).trans (Ep.out 3 _ rfl);have z4:(wr).cell? ⟨b,off+j*5+4,none⟩=some (I x.off):=((qC.out.low Ba.out hlo).cell (p:=⟨b,off+j*5+4,none⟩) nN).trans (Ep.out 4 _ rfl);go_wp2_with fail;obtain ⟨W0,hW0⟩:∃W0,W0=wr.alloc (.cells #[I x.month,I x.df,I x.dh,I x.minute,I x.off] 129):=⟨_,rfl⟩;have hbw:Below wr.heap.size wr W0:=by rw [hW0];exact ag wr _
     have H8:=ae (qC.out.grow hbw);have F8:Hid (Ve wr.heap.size #[I x.month,I x.df,I x.dh,I x.minute,I x.off] (.slice A7 n7 c7) W0):=ae ⟨by rw [hW0];exact Row.new wr _ _,qC.out.qP _ (Nat.le_refl _)⟩;rw [←hW0];refine (dQ lo _ _ 1 _ _ x.month _ H8.out.len (by have h:=H8.out.len;have g:=FM.out k;have g2:=FR.out j;(try simp only [aZ,aF] at h);omega) (by omega) hfx.month (Nat.le_trans hlo H8.out.keep.size) H8.out.own).mono ?_;rintro e w9 ⟨A9,n9,c9,l1,rfl,o1,k1⟩;have H9:=ae (H8.out.next o1 l1 k1);have F9:=ae (F8.out.next k1);clear l1 o1 k1;have y0:(w9).cell? ⟨wr.heap.size,0,none⟩=some (I x.month):=F9.out.1.2 0;have y1:(w9).cell? ⟨wr.heap.size,1,none⟩=some (I x.df):=F9.out.1.2 1;have y2:(w9).cell? ⟨wr.heap.size,2,none⟩=some (I x.dh):=F9.out.1.2 2;have y3:(w9).cell? ⟨wr.heap.size,3,none⟩=some (I x.minute):=F9.out.1.2 3;have y4:(w9).cell? ⟨wr.heap.size,4,none⟩=some (I x.off):=F9.out.1.2 4;go_wp2_with fail;refine (dQ lo _ _ 1 _ _ x.df _ H9.out.len (by have h:=H9.out.len;have g:=FM.out k;have g2:=FR.out j;(try simp only [aZ,aF] at h);omega) (by omega) hfx.df (Nat.le_trans hlo H9.out.keep.size) H9.out.own).mono ?_;rintro e w10 ⟨A10,n10,c10,l1,rfl,o1,k1⟩;have YU:=ae (H9.out.next o1 l1 k1);have F10:=ae (F9.out.next k1);clear l1 o1 k1;clear y0 y1 y2 y3 y4;have y0:(w10).cell? ⟨wr.heap.size,0,none⟩=some (I x.month):=F10.out.1.2 0;have y1:(w10).cell? ⟨wr.heap.size,1,none⟩=some (I x.df):=F10.out.1.2 1;have y2:(w10).cell? ⟨wr.heap.size,2,none⟩=some (I x.dh):=F10.out.1.2 2;have y3:(w10).cell? ⟨wr.heap.size,3,none⟩=some (I x.minute):=F10.out.1.2 3;have y4:(w10).cell? ⟨wr.heap.size,4,none⟩=some (I x.off):=F10.out.1.2 4;go_wp2_with fail;refine (dQ lo _ _ 1 _ _ x.dh _ YU.out.len (by have h:=YU.out.len;have g:=FM.out k;have g2:=FR.out j;(try simp only [aZ,aF] at h);omega) (by omega) hfx.dh (Nat.le_trans hlo YU.out.keep.size) YU.out.own).mono ?_;rintro e U8 ⟨A11,n11,c11,l1,rfl,o1,k1⟩;have H11:=ae (YU.out.next o1 l1 k1);have F11:=ae (F10.out.next k1);clear l1 o1 k1;clear y0 y1 y2 y3 y4;have y0:(U8).cell? ⟨wr.heap.size,0,none⟩=some (I x.month):=F11.out.1.2 0;have y1:(U8).cell? ⟨wr.heap.size,1,none⟩=some (I x.df):=F11.out.1.2 1;have y2:(U8).cell? ⟨wr.heap.size,2,none⟩=some (I x.dh):=F11.out.1.2 2;have y3:(U8).cell? ⟨wr.heap.size,3,none⟩=some (I x.minute):=F11.out.1.2 3;have y4:(U8).cell? ⟨wr.heap.size,4,none⟩=some (I x.off):=F11.out.1.2 4;go_wp2_with fail;refine (dQ lo _ _ 2 _ _ x.minute _ H11.out.len (by have h:=H11.out.len;have g:=FM.out k;have g2:=FR.out j;(try simp only [aZ,aF] at h);omega) (by omega) hfx.minute (Nat.le_trans hlo H11.out.keep.size) H11.out.own).mono ?_;rintro e w12 ⟨A12,n12,c12,l1,rfl,o1,k1⟩;have H12:=ae (H11.out.next o1 l1 k1);have F12:=ae (F11.out.next k1);clear l1 o1 k1;clear y0 y1 y2 y3 y4;have y0:(w12).cell? ⟨wr.heap.size,0,none⟩=some (I x.month):=F12.out.1.2 0;have y1:(w12).cell? ⟨wr.heap.size,1,none⟩=some (I x.df):=F12.out.1.2 1;have y2:(w12).cell? ⟨wr.heap.size,2,none⟩=some (I x.dh):=F12.out.1.2 2;have y3:(w12).cell? ⟨wr.heap.size,3,none⟩=some (I x.minute):=F12.out.1.2 3;have y4:(w12).cell? ⟨wr.heap.size,4,none⟩=some (I x.off):=F12.out.1.2 4;go_wp2_with fail;refine (dQ lo _ _ 2 _ _ x.off _ H12.out.len (by have h:=H12.out.len;have g:=FM.out k;have g2:=FR.out j;(try simp only [aZ,aF] at h);omega) (by omega) hfx.off (Nat.le_trans hlo H12.out.keep.size) H12.out.own).mono ?_;rintro e w13 ⟨A13,n13,c13,l1,rfl,o1,k1⟩;have H13:=ae (H12.out.next o1 l1 k1);have F13:=ae (F12.out.next k1);clear l1 o1 k1;go_wp2_with fail;go_roundw
     case rel=>exact ⟨j+1,n13,c13,A13,by omega,rfl,by go_num,by show CB _ _ _ _ (_++(yr.take (j+1)).flatMap XE) _ _ _ _;rw [qJ _ _ _ _ HX.out,←List.append_assoc];simpa [XE,List.append_assoc] using H13.out⟩
     case measure=>simp [intOf];omega
    ·have hj2:j=ny:=by omega
     have HJ:=ae hj2;clear hj2;go_wp2_with fail;go_ret;have hb:=qC.out;rw [HJ.out,List.take_of_length_le (Nat.le_of_eq Yd.out),List.take_of_length_le (Nat.le_of_eq HNT.out)] at hb;refine ⟨A7,n7,c7,?_,rfl,?_,hb.keep⟩
     ·rw [←hb.len];simp [List.append_assoc]
     ·have:=hb.own;simpa [HNT.out,Yd.out,List.append_assoc] using this
def bW (k:Nat):ByteArray:=⟨#[122,(97+k).toUInt8]⟩
theorem rV (k:Nat):(bW k).size=2:=rfl
def xx:Nat→ByteArray
 |0=>⟨#[]⟩
 |k+1=>bW k
theorem JP:∀k,k<3→(Op.bytesLess (bW k).toList (xx k).toList=false∧((bW k).toList==(xx k).toList)=false):=by decide+kernel
structure ZnV0 (z:Zn):Prop where
 made:uS z
 ok:zM z=0
theorem Xg (z:Zn) (h:z.aN= []):zM z=0:=by
 have e1:rf z= []:=by unfold rf;rw [h]
 unfold zM qL;rw [e1];simp [jS,eP]
theorem PX (x:Eu):ZnV0 (jl x):=by
 refine ⟨TP x,?_⟩;unfold jl;split
 ·rename_i h;exact h.2
 ·exact Xg _ rfl
theorem uS.z14 {z:Zn} (h:uS z):Z14 z:=by
 obtain ⟨hc,hs,hh,hl,ht,_,hy⟩:=h;refine ⟨⟨⟨by have:=hc.ep;omega,by have:=hc.ep;omega⟩,by rw [hc.mo];omega,fun x hx=>⟨by have:=hc.all x hx;omega,by have:=hc.all x hx;omega⟩,⟨hc.le.1,by have:=hc.le;omega⟩,by have:=hc.ru;omega,fun r hr=>?_⟩,⟨by omega,by omega⟩,by omega,fun x hx=>?_,⟨by omega,by omega⟩,?_,fun y hm=>?_⟩
 ·obtain ⟨h1,h2,h3⟩:=hc.rl r hr;exact ⟨⟨by omega,by omega⟩,⟨by omega,by omega⟩⟩
 ·obtain ⟨⟨h1,h2⟩,h3,h4⟩:=ht x hx;exact ⟨⟨by omega,by omega⟩,⟨by omega,by omega⟩⟩
 ·rcases hy with h|⟨r0,r1,h,_,_⟩<;>rw [h]<;>simp
 ·have hS:yh y:=by
   rcases hy with h|⟨r0,r1,h,h0,h1⟩
   ·rw [h] at hm;cases hm
   ·rw [h] at hm;rcases List.mem_cons.1 hm with rfl|hm
    ·exact h0
    ·rcases List.mem_cons.1 hm with rfl|hm
     ·exact h1
     ·cases hm
  exact ⟨by have:=hS.mo;constructor<;>omega,by have:=hS.wk;constructor<;>omega,by have:=hS.wd;constructor<;>omega,by have:=hS.mi;constructor<;>omega,by have:=hS.of;constructor<;>omega⟩
theorem UH (z:Zn) (h:uS z):(JO z).length≤100:=by
 have g1:=iw (le · 1) z.cal.az 1 z.cal.az.length (fun _=>aF _ _);have g2:=iw U5 z.cal.rules 5 z.cal.rules.length Gn;have g3:=iw U6 z.trans 10 z.trans.length OJ;have g4:=iw XE z.aN 7 z.aN.length OQ;rw [List.take_length] at g1 g2 g3 g4;have h1:=h.cal.mo;have h2:=h.cal.ru;have h3:=h.U7;have h4:z.aN.length≤2:=by rcases h.yr with e|⟨r0,r1,e,_,_⟩<;>rw [e]<;>simp
 simp only [JO,tK,aZ,aF];omega
structure FN (t:Tb):Prop where
 aP:0≤t.aP∧t.aP≤15
 version:1≤t.version∧t.version≤64
 aC:0≤t.aC∧t.aC<t.version
 first:t.version=1→t.prev=aU
 num:t.aK.length≤3
 aK:∀e∈t.aK,ZnV0 e.z
 names:∀k e,t.aK[k]? =some e→e.name=bW k
theorem nU (w:World) (r:List UInt8) (h:r.length=32):(Op.equalIn 10000 23 (.agg (r.map Extern.Stop.cell).toArray) (.agg (r.map Extern.Stop.cell).toArray)).run Tryz.prog w= .ok true w:=by
 rw [run_equalIn_bytes w 9998 23 5 32 Tryz.underlying23 Tryz.underlying5 (fun w=>Aq w) r r h h,beq_self_eq_true]
attribute [local go_sem] jy jA jQ bD
theorem JD (t:Tb) (A:Option Addr) (n c:Nat) (w:World) (h:FN t) (hp:t.prev.length=32):
  Calls Tryz.prog 88 #[.agg (ai t (.slice A n c))] w (Gives (.bool true) w):=by
 have HR0:=ae (Row.new w (ai t (.slice A n c)) 37);have HB0:=ae (ag w (.cells (ai t (.slice A n c)) 37));have k0:=HR0.out.2;have q1:=h.aP.1;have q2:=h.aP.2;have q3:=h.version.1;have q4:=h.version.2;have q5:=h.aC.1;have q6:=h.aC.2;have HF:=ae h;clear h;by_cases hv:t.version=1
 ·have hpz:t.prev=aU:=HF.out.first hv;have heq:∀W,(binOp .eql 23 (.agg (aj t.prev).toArray) (.agg (aj aU).toArray)).run Tryz.prog W= .ok (.bool true) W:=fun W=>by
   rw [hpz];unfold aj;rw [run_eql_struct,Go.Proofs.YtdibbemgpikgjaaGreatDoor.nU W aU rfl];simp [Result.andThen]
  have h32:(Tryz.prog.info? 23).map (·.size)=some (aj t.prev).length:=by rw [show (aj t.prev).length=32 by simp [aj,hp]];kernel_rfl
  have HP:=ae (mY t (.slice A n c) HR0.out);have QE:=ae h32;clear hpz h32 hp;rw [oG] at heq;go_enter Tryz.func88,Tryz.ntmps88;go_wp2_with (with_reducible refine dN 23 ?_;refine bP rfl _ _ rfl w.heap.size 4 rfl (aj t.prev) HP.out _ Tryz.underlying23 rfl QE.out ?_);go_ret;exact ⟨rfl,HB0.out⟩
 ·go_enter Tryz.func88,Tryz.ntmps88;go_wp2_with fail;go_ret;exact ⟨rfl,HB0.out⟩
structure TVr (w:World) (cs:Array Value) (A:Option Addr) (zs:List dB) (W:World):Prop where
 row:Row W w.heap.size cs
 mem:lW W w.heap.size A zs
 up:Below w.heap.size w W
theorem TVr.below {w W W':World} {cs:Array Value} {A:Option Addr} {zs:List dB} (h:TVr w cs A zs W) (hb:Below W.heap.size W W'):TVr w cs A zs W':=
 ⟨h.row.keep hb,h.mem.keep (hb.mono h.up.size),ah h.up hb⟩
theorem Qs (x:bI) (w:World) (hx:jE w w.heap.size x) (h:FN x.t):
  Calls Tryz.prog 64 #[.agg (ai x.t (.slice x.A x.zs.length x.c))] w (Gives (.int .i64 0) w):=by
 obtain ⟨t,A,c,zs⟩:=x;obtain ⟨hz,hp,hm,hA⟩:=hx;simp only at hz hp hm hA h ⊢;obtain ⟨n,hn⟩:∃n,zs.length=n:=⟨_,rfl⟩;rw [hn];have HB0:=ae (ag w (.cells (ai t (.slice A n c)) 37));have Ku:Hid (TVr w (ai t (.slice A n c)) A zs (w.alloc (.cells (ai t (.slice A n c)) 37))):=ae ⟨Row.new w _ _,hA.keep HB0.out,HB0.out⟩;have HHD:Hid (∀W,Calls Tryz.prog 88 #[.agg (ai t (.slice A n c))] W (Gives (.bool true) W)):=ae fun W=>JD t A n c W h hp;have dR:=ae (bU t (.slice A n c) hp hm);have hn3:n≤3:=by have:=h.num;rw [hz,List.length_map,hn] at this;exact this
 have HF:=ae h;have HZ:=ae hz;have Dv:=ae hn;clear h hz hp hm hA hn HB0;go_enter Tryz.func64,Tryz.ntmps64;go_wp2_with ((with_reducible refine fU 37 ?_);go_must (refine aY rfl _ _ rfl w.heap.size rfl (ai t (.slice A n c)) Ku.out.row _ Tryz.underlying37 rfl dR.out ?_));refine (HHD.out _).mono ?_;rintro e w1 ⟨rfl,hb1⟩;have pJ:=ae (Ku.out.below hb1);have k1:=pJ.out.row.2;have hlt1:=pJ.out.row.1;clear hb1 Ku;go_wp2_with fail
 go_loopw [3] (fun i wr=>∃k:Nat,k≤n∧i=I k∧TVr w (ai t (.slice A n c)) A zs wr) (fun i _=>n - (intOf i).toNat)
 case atStart=>exact ⟨0,Nat.zero_le _,rfl,pJ.out⟩
 case round=>
  obtain ⟨k,hk,rfl,zK⟩:=hrel;have HV:=ae zK;clear zK k1 hlt1 pJ;have k1:=HV.out.row.2;have hlt1:=HV.out.row.1;by_cases hlt:(k:Int)<(n:Int)
  ·have hkz:k<zs.length:=by rw [Dv.out];omega
   obtain ⟨x,hx⟩:∃x,zs[k]? =some x:=⟨_,bZ hkz⟩;obtain ⟨b,off,rfl,nN,hcl⟩:=HV.out.mem.row.there (by rw [dL];omega);have gu:Hid (∀k x,zs[k]? =some x→wr.rangeAt b (off+k*9) x.cells.toList):=ae fun k x hx=>aA.elem (s:=9) (f:=fun x:dB=>x.cells.toList) (fun _ _=>rfl) hcl k x hx;have c0:wr.cell? ⟨b,off+k*9,none⟩=some (.string x.e.name):=gu.out k x hx 0 _ rfl;have c1:wr.cell? ⟨b,off+k*9+1,none⟩=some (I x.e.z.cal.aX):=gu.out k x hx 1 _ rfl;have c2:wr.cell? ⟨b,off+k*9+2,none⟩=some (.slice x.s.A x.e.z.cal.az.length x.s.a):=gu.out k x hx 2 _ rfl;have c3:wr.cell? ⟨b,off+k*9+3,none⟩=some (I x.e.z.cal.dM):=gu.out k x hx 3 _ rfl;have c4:wr.cell? ⟨b,off+k*9+4,none⟩=some (.slice x.s.B x.e.z.cal.rules.length x.s.b):=gu.out k x hx 4 _ rfl;have c5:wr.cell? ⟨b,off+k*9+5,none⟩=some (I x.e.z.start):=gu.out k x hx 5 _ rfl;have c6:wr.cell? ⟨b,off+k*9+6,none⟩=some (.slice x.s.C x.e.z.trans.length x.s.c):=gu.out k x hx 6 _ rfl;have c7:wr.cell? ⟨b,off+k*9+7,none⟩=some (I x.e.z.hor):=gu.out k x hx 7 _ rfl;have c8:wr.cell? ⟨b,off+k*9+8,none⟩=some (.slice x.s.D x.e.z.aN.length x.s.d):=gu.out k x hx 8 _ rfl;have hxm:x.e∈t.aK:=by rw [HZ.out];exact List.mem_map_of_mem (dS hx)
   have hnm:x.e.name=bW k:=HF.out.names k x.e (by rw [HZ.out,List.getElem?_map,hx];rfl);have xZ:=ae hnm;have KI:Hid (∀W,Below wr.heap.size wr W→Calls Tryz.prog 53 #[.agg (ay x.e.z x.s)] W (Gives (.int .i64 0) W)):=ae fun W hb=>by
    have hz:=HF.out.aK _ hxm;have:=Cm x.e.z x.s W hz.made (((HV.out.mem.each x (dS hx)).more HV.out.up.size).grow hb);rw [hz.ok] at this;exact this
   have hup:=JP k (by omega);have q7:(bW k).size=2:=rfl;rw [hnm] at c0;obtain ⟨nm,Wy⟩:∃s,bW k=s:=⟨_,rfl⟩;rw [Wy] at hup q7 c0;unfold ay at KI;have NT:=ae hup;have HNM2:=ae Wy;rcases Nat.eq_zero_or_pos k with h0|h0
   ·subst h0;clear hx hcl hxm hkz hnm Wy hup;simp only [Nat.zero_mul,Nat.add_zero] at c0 c1 c2 c3 c4 c5 c6 c7 c8;go_wp2_with fail;refine (KI.out _ (Below.refl _ _)).mono ?_;rintro e w2 ⟨rfl,hb2⟩;have nJ:=ae (HV.out.below hb2);clear hb2;go_wp2_with fail;go_roundw
    case rel=>exact ⟨1,by omega,rfl,nJ.out⟩
    case measure=>simp [intOf];omega
   ·obtain ⟨j,rfl⟩:∃j,k=j+1:=⟨k - 1,by omega⟩;obtain ⟨y,hy⟩:∃y,zs[j]? =some y:=⟨_,bZ (by omega)⟩;have hnmy:y.e.name=bW j:=HF.out.names j y.e (by rw [HZ.out,List.getElem?_map,hy];rfl);have d0:wr.cell? ⟨b,off+j*9,none⟩=some (.string (bW j)):=by rw [←hnmy];exact gu.out j y hy 0 _ rfl
    obtain ⟨pn,hpn⟩:∃s,bW j=s:=⟨_,rfl⟩;obtain ⟨s1,s2⟩:=hup;simp only [xx] at s1 s2;rw [hpn] at d0 s1 s2;clear hx hcl hxm hkz hnm Wy hy hnmy hpn;go_wp2_with fail;refine (KI.out _ (Below.refl _ _)).mono ?_;rintro e w2 ⟨rfl,hb2⟩;have nJ:=ae (HV.out.below hb2);clear hb2;go_wp2_with fail;go_roundw
    case rel=>exact ⟨j+2,by omega,by go_num,nJ.out⟩
    case measure=>simp [intOf];omega
  ·go_wp2_with fail;go_ret;exact ⟨rfl,HV.out.up⟩
end Go.Proofs.YtdibbemgpikgjaaGreatDoor
namespace Go.Proofs.YtdibbemgpikgjaaGreatDoor
open Go Go.RowKit
theorem FN.good {t:Tb} (h:FN t) (hp:t.prev.length=32) (hm:t.bn.length=32):VH t where
 aP:=⟨h.aP.1,by have:=h.aP.2;omega⟩
 version:=h.version
 aC:=h.aC
 prev:=hp
 bn:=hm
 first:=h.first
 num:=by have:=h.num;omega
 good:=fun e he=>⟨(h.aK e he).made,(h.aK e he).ok⟩
 short:=fun e he=>by
  obtain ⟨k,hk⟩:=List.getElem?_of_mem he;rw [h.names k e hk,rV];omega
theorem FN.up {t:Tb} (h:FN t) {zs:List dB} (hz:t.aK=zs.map (·.e)):jv zs:=by
 intro k x hx;have hk:=(eG.1 hx).1;have hn:=h.num;rw [hz,List.length_map] at hn;have h1:∀j y,zs[j]? =some y→y.e.name=bW j:=fun j y hy=>h.names j y.e (by rw [hz,List.getElem?_map,hy];rfl);have hl:fK zs k=xx k:=by
  cases k with
  |zero=>rfl
  |succ k=>
   show (zs[k]?.map (·.e.name)).getD ⟨#[]⟩=bW k;rw [bZ (by omega)];exact h1 k _ (bZ (by omega))
 rw [h1 k x hx,hl];exact JP k (by omega)
theorem CB.fresh (w:World) (cs:Array Value) (t:TypeId):CB w.heap.size (.slice none 0 0) w cs [] (some ⟨w.heap.size+1,0,none⟩) 0 0 ((w.alloc (.cells cs t)).alloc (.cells #[] 5)):=by
 have hb:Below w.heap.size w ((w.alloc (.cells cs t)).alloc (.cells #[] 5)):=ah (ag w _) (ag _ _);have ho:=gm (w.alloc (.cells cs t)) 5 1;refine ⟨(Row.new w cs t).keep (ag _ _),nH.lower (lo:=w.heap.size+1) (by simpa [nH] using ho) (by omega),rfl,⟨hb.os,hb.tape,hb.output,hb.size,fun k hk _=>hb.block k hk, .inr ⟨w.heap.size+1,rfl,by omega⟩⟩,fun e=>?_⟩;have h:w.heap.size=w.heap.size+1:=Option.some.inj e;omega
theorem take_snoc {α:Type} (l:List α) (k:Nat) (x:α) (hx:l[k]? =some x):l.take (k+1)=l.take k++ [x]:=by
 rw [List.take_add_one,hx];rfl
theorem CB.grown {lo n c n' c':Nat} {v0:Value} {A A':Option Addr} {w W W':World} {o:Obj} {cs:Array Value} {bs bs':List UInt8} (h:CB lo v0 w cs bs A n c W) (hO:nH lo W' A' n' c' bs') (hl:bs'.length=n') (hg:(W.alloc o).grownBy W' (Value.slice A n c).ownBlock) (hat:(Value.slice A' n' c').ownBlock=(Value.slice A n c).ownBlock∨(Value.slice A' n' c').ownBlock=some (W.heap.size+1)):CB lo v0 w cs bs' A' n' c' W':=
 h.next hO hl (uD.app hg (hat.imp id fun e=>e.trans (by simp)))
theorem yt (d:List UInt8) (w:World) (hd:d.length=32):
  Calls Tryz.prog 55 #[.agg (aj d).toArray] w (XQ w.heap.size (.slice none 0 0) w d):=by
 obtain ⟨i0,hi,hz0,hz1,hz2⟩:=info_parts kF;have HI:=ae hi;have HZ0:=ae hz0;have HZ1:=ae hz1;have HZ2:=ae hz2;clear hi hz0 hz1 hz2;have HF:=ae (CB.fresh w (aj d).toArray 23);have HD:=ae hd;clear hd;go_enter Tryz.func55,Tryz.ntmps55;go_wp2_with fail
 go_loopw [3,4] (fun b i wr=>Hg w.heap.size (.slice none 0 0) w (aj d).toArray (fun k=>d.take k) 32 b i wr) (fun _ i _=>32 - (intOf i).toNat)
 case atStart=>exact ⟨0,0,0,_,Nat.zero_le _,rfl,by go_num,HF.out⟩
 case round=>
  obtain ⟨k,n,c,A,hk,rfl,rfl,hb⟩:=hrel;have HB:Hid (CB w.heap.size (.slice none 0 0) w (aj d).toArray (d.take k) A n c wr):=ae hb;have hn:n=k:=by rw [←hb.len];show (d.take k).length=k;rw [List.length_take,HD.out];omega
  have hsz:w.heap.size≤wr.heap.size:=hb.keep.size;clear hb;subst hn;by_cases hlt:(n:Int)<32
  ·obtain ⟨x,hx⟩:∃x,d[n]? =some x:=⟨_,bZ (by rw [HD.out];omega)⟩;have v0:wr.cell? ⟨w.heap.size,n,none⟩=some (.int .u8 (x.toNat:Int)):=by rw [HB.out.row.2 n,List.getElem?_toArray];unfold aj;rw [List.getElem?_map,hx];rfl
   have HX:=ae hx;clear hx;obtain ⟨pre,hpre⟩:∃l,d.take n=l:=⟨_,rfl⟩;have DJ:=ae hpre;rw [hpre] at HB;clear hpre;have NP:=ae (World.ownsRow.alloc HB.out.own (.cells #[Value.int .u8 (x.toNat:Int)] 5));go_wp2_with (at_builtin;go_must (refine wpList_append_own_at _ rfl _ _ 32 rfl w.heap.size 5 i0 (.int .u8 0) 1 1 Tryz.underlying32 HI.out HZ0.out HZ1.out HZ2.out rfl (by decide) _ n ((pre).map Extern.Stop.cell) rfl NP.out _ 1 1 [Value.int .u8 (x.toNat:Int)] rfl rfl (cell_one_new _ _ _) (wF _) (by unfold maxLen;omega) (by omega) (by simp;omega) ?_));intro v' w3 hown hg _ hat;obtain ⟨A',c',rfl⟩:=dG hown;have H2:=ae (HB.out.grown (bs':=d.take (n+1)) (by unfold nH;rw [take_snoc d n x HX.out,DJ.out,List.map_append];exact hown) (by rw [List.length_take,HD.out];omega) hg hat);clear hown hg hat;go_wp2_with fail;go_roundw
   case rel=>exact ⟨n+1,n+1,c',A',by omega,rfl,by go_num,H2.out⟩
   case measure=>simp [intOf];omega
  ·have HN:Hid (n=32):=ae (by omega);go_wp2_with fail;go_ret;have hb:=HB.out;rw [HN.out,List.take_of_length_le (Nat.le_of_eq HD.out)] at hb;have hn:=HN.out;subst hn;exact ⟨A,32,c,HD.out,rfl,hb.own,hb.keep⟩
def xb3 (m:Int) (x:UInt8):UInt8:=byteOf (bits BinOp.xor IntKind.u8 x.toNat m)
theorem Xz (x:UInt8) (m:Int):0≤bits BinOp.xor IntKind.u8 x.toNat m∧bits BinOp.xor IntKind.u8 x.toNat m<256:=by
 unfold bits;simp only [IntKind.wrap,IntKind.bits,IntKind.signed];constructor
 ·exact Int.emod_nonneg _ (by decide)
 ·exact Int.emod_lt_of_pos _ (by decide)
theorem UE (m:Int) (x:UInt8):Extern.Stop.cell (xb3 m x)= .int .u8 (bits BinOp.xor IntKind.u8 x.toNat m):=by
 obtain ⟨h1,h2⟩:=Xz x m;unfold xb3;rw [dF];congr 1;omega
def ry (m:Int) (d:List UInt8):List UInt8:=d.map (xb3 m)++List.replicate 32 (byteOf m)
theorem tJ (m:Int) (d:List UInt8) (h:d.length=32):(ry m d).length=64:=by simp [ry,h]
theorem RY (m:Int) (h0:0≤m) (h1:m<256):Extern.Stop.cell (byteOf m)= .int .u8 m:=by
 rw [dF];congr 1;omega
theorem ED (m:Int) (d:List UInt8) (w:World) (hd:d.length=32) (h0:0≤m) (h1:m<256):
  Calls Tryz.prog 67 #[.agg (aj d).toArray, .int .u8 m] w (XQ w.heap.size (.slice none 0 0) w (ry m d)):=by
 obtain ⟨i0,hi,hz0,hz1,hz2⟩:=info_parts kF;have HI:=ae hi;have HZ0:=ae hz0;have HZ1:=ae hz1;have HZ2:=ae hz2;clear hi hz0 hz1 hz2;have HF:=ae (CB.fresh w (aj d).toArray 23);have HD:=ae hd;obtain ⟨xs,hxs⟩:∃l,d.map (xb3 m)=l:=⟨_,rfl⟩;have NU:Hid (xs.length=32):=ae (by rw [←hxs,List.length_map,hd]);have xZ:=ae hxs;obtain ⟨ys,hys⟩:∃l,List.replicate 32 (byteOf m)=l:=⟨_,rfl⟩;have nI:Hid (ys.length=32):=ae (by rw [←hys,List.length_replicate]);have HYS:=ae hys;have HM:=ae (RY m h0 h1);clear hd hxs hys;go_enter Tryz.func67,Tryz.ntmps67;go_wp2_with fail
 go_loopw [5,6] (fun b i wr=>Hg w.heap.size (.slice none 0 0) w (aj d).toArray (fun k=>xs.take k) 32 b i wr) (fun _ i _=>32 - (intOf i).toNat)
 case atStart=>exact ⟨0,0,0,_,Nat.zero_le _,rfl,by go_num,HF.out⟩
 case round=>
  obtain ⟨k,n,c,A,hk,rfl,rfl,hb⟩:=hrel;have HB:Hid (CB w.heap.size (.slice none 0 0) w (aj d).toArray (xs.take k) A n c wr):=ae hb;have hn:n=k:=by rw [←hb.len];show (xs.take k).length=k;rw [List.length_take,NU.out];omega
  have hsz:w.heap.size≤wr.heap.size:=hb.keep.size;clear hb;subst hn;by_cases hlt:(n:Int)<32
  ·obtain ⟨x,hx⟩:∃x,d[n]? =some x:=⟨_,bZ (by rw [HD.out];omega)⟩;have v0:wr.cell? ⟨w.heap.size,n,none⟩=some (.int .u8 (x.toNat:Int)):=by rw [HB.out.row.2 n,List.getElem?_toArray];unfold aj;rw [List.getElem?_map,hx];rfl
   have HX:Hid (xs[n]? =some (xb3 m x)):=ae (by rw [←xZ.out,List.getElem?_map,hx];rfl);have Yi:=ae (UE m x);clear hx;obtain ⟨pre,hpre⟩:∃l,xs.take n=l:=⟨_,rfl⟩;have DJ:=ae hpre;rw [hpre] at HB;clear hpre;have NP:=ae (World.ownsRow.alloc HB.out.own (.cells #[Value.int .u8 (bits BinOp.xor IntKind.u8 x.toNat m)] 5));go_wp2_with (at_builtin;go_must (refine wpList_append_own_at _ rfl _ _ 32 rfl w.heap.size 5 i0 (.int .u8 0) 1 1 Tryz.underlying32 HI.out HZ0.out HZ1.out HZ2.out rfl (by decide) _ n ((pre).map Extern.Stop.cell) rfl NP.out _ 1 1 [Value.int .u8 (bits BinOp.xor IntKind.u8 x.toNat m)] rfl rfl (cell_one_new _ _ _) (wF _) (by unfold maxLen;omega) (by omega) (by simp;omega) ?_));intro v' w3 hown hg _ hat;obtain ⟨A',c',rfl⟩:=dG hown;have H2:=ae (HB.out.grown (bs':=xs.take (n+1)) (by unfold nH;rw [take_snoc xs n _ HX.out,DJ.out,List.map_append];show World.ownsRow _ _ _ _ _ _ (_++ [Extern.Stop.cell _]);rw [Yi.out];exact hown) (by rw [List.length_take,NU.out];omega) hg hat);clear hown hg hat;go_wp2_with fail;go_roundw
   case rel=>exact ⟨n+1,n+1,c',A',by omega,rfl,by go_num,H2.out⟩
   case measure=>simp [intOf];omega
  ·have HN32:Hid (n=32):=ae (by omega);have HB3:Hid (CB w.heap.size (.slice none 0 0) w (aj d).toArray (xs++ys.take 0) A n c wr):=ae (by have hb:=HB.out;rw [HN32.out,List.take_of_length_le (Nat.le_of_eq NU.out),←HN32.out] at hb;simpa using hb);go_wp2_with fail
   go_loopw [5,7] (fun b i wr=>Hg w.heap.size (.slice none 0 0) w (aj d).toArray (fun k=>xs++ys.take k) 32 b i wr) (fun _ i _=>32 - (intOf i).toNat)
   case atStart=>exact ⟨0,n,c,A,Nat.zero_le _,rfl,by go_num,HB3.out⟩
   case round=>
    clear HB HB3 hsz hk hlt;obtain ⟨k,n2,c,A,hk,rfl,rfl,hb⟩:=hrel;have HB:Hid (CB w.heap.size (.slice none 0 0) w (aj d).toArray (xs++ys.take k) A n2 c wr):=ae hb;have hn:n2=32+k:=by rw [←hb.len];show (xs++ys.take k).length=32+k;rw [aZ,List.length_take,NU.out,nI.out];omega
    have hsz:w.heap.size≤wr.heap.size:=hb.keep.size;clear hb;subst hn;by_cases hlt:(k:Int)<32
    ·have HX:Hid (ys[k]? =some (byteOf m)):=ae (by rw [←HYS.out,List.getElem?_replicate,if_pos (by omega)]);obtain ⟨pre,hpre⟩:∃l,xs++ys.take k=l:=⟨_,rfl⟩;have DJ:=ae hpre;rw [hpre] at HB;clear hpre;have NP:=ae (World.ownsRow.alloc HB.out.own (.cells #[Value.int .u8 m] 5));go_wp2_with (at_builtin;go_must (refine wpList_append_own_at _ rfl _ _ 32 rfl w.heap.size 5 i0 (.int .u8 0) 1 1 Tryz.underlying32 HI.out HZ0.out HZ1.out HZ2.out rfl (by decide) _ (32+k) ((pre).map Extern.Stop.cell) rfl NP.out _ 1 1 [Value.int .u8 m] rfl rfl (cell_one_new _ _ _) (wF _) (by unfold maxLen;omega) (by omega) (by simp;omega) ?_));intro v' w3 hown hg _ hat;obtain ⟨A',c',rfl⟩:=dG hown;have H2:=ae (HB.out.grown (bs':=xs++ys.take (k+1)) (n':=32+k+1) (by unfold nH;rw [take_snoc ys k _ HX.out,←List.append_assoc,DJ.out,List.map_append];show World.ownsRow _ _ _ _ _ _ (_++ [Extern.Stop.cell _]);rw [HM.out];exact hown) (by rw [aZ,List.length_take,NU.out,nI.out];omega) hg hat);clear hown hg hat;go_wp2_with fail;go_roundw
     case rel=>exact ⟨k+1,32+k+1,c',A',by omega,rfl,by go_num,H2.out⟩
     case measure=>simp [intOf];omega
    ·have HN:Hid (k=32):=ae (by omega);go_wp2_with fail;go_ret;have hb:=HB.out;have hk:=HN.out;subst hk;rw [List.take_of_length_le (Nat.le_of_eq nI.out),←xZ.out,←HYS.out] at hb;exact ⟨A,64,c,tJ m d HD.out,rfl,hb.own,hb.keep⟩
structure PB (v0:Value) (w:World) (bs:List UInt8) (A:Option Addr) (n c:Nat) (W:World):Prop where
 own:nH w.heap.size W A n c bs
 len:bs.length=n
 keep:uD v0 w (.slice A n c) W
theorem PB.grown {n c n' c':Nat} {v0:Value} {A A':Option Addr} {w W W':World} {o:Obj} {bs bs':List UInt8} (h:PB v0 w bs A n c W) (hO:nH w.heap.size W' A' n' c' bs') (hl:bs'.length=n') (hg:(W.alloc o).grownBy W' (Value.slice A n c).ownBlock) (hat:(Value.slice A' n' c').ownBlock=(Value.slice A n c).ownBlock∨(Value.slice A' n' c').ownBlock=some (W.heap.size+1)):PB v0 w bs' A' n' c' W':=
 ⟨hO,hl,h.keep.trans (uD.app hg (hat.imp id fun e=>e.trans (by simp)))⟩
def lenV:Value→Nat
 | .slice _ m _=>m
 |_=>0
def Gt (n:Nat):Nat:=(120 - (n+1)%64)%64
theorem I7 (n:Nat):(n+1+Gt n)%64=56:=by unfold Gt;omega
theorem Oz (n:Nat):Gt n<64:=Nat.mod_lt _ (by omega)
theorem PB.fresh {w W:World} {A:Option Addr} {n c:Nat} {bs:List UInt8} (h:nH w.heap.size W A n c bs) (hl:bs.length=n) (hg:(w.alloc (.cells #[] 5)).grownBy W (some w.heap.size)) (hat:(Value.slice A n c).ownBlock=some w.heap.size∨(Value.slice A n c).ownBlock=some (w.heap.size+1)):PB (.slice none 0 0) w bs A n c W:=by
 refine ⟨h,hl,hg.os,hg.tape,hg.output,Nat.le_trans (by simp) hg.size,fun k hk _=>(hg.block k (by simp;omega) (fun e=>by injection e;omega)).trans (Below.heap_alloc w _ k hk), .inr ?_⟩;rcases hat with e|e
 ·exact ⟨_,e,by omega⟩
 ·exact ⟨_,e,by omega⟩
end Go.Proofs.YtdibbemgpikgjaaGreatDoor
