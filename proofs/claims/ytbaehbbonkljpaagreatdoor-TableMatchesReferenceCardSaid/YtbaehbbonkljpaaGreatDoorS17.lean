/- The texts Kp, Kq, TbV, Oa, Jn, in this order. -/
import Derived.Test.YtbaehbbonkljpaaGreatDoorS00
import Derived.Test.YtbaehbbonkljpaaGreatDoorS01
import Derived.Test.YtbaehbbonkljpaaGreatDoorS03
import Derived.Test.YtbaehbbonkljpaaGreatDoorS10
import Derived.Test.YtbaehbbonkljpaaGreatDoorS11
import Derived.Test.YtbaehbbonkljpaaGreatDoorS16
set_option maxRecDepth 10000
set_option maxHeartbeats 8000000
namespace Go.Proofs.YtbaehbbonkljpaaGreatDoor
open Go Go.RowKit
def U7 (t:Tr):List UInt8:=le t.at_ 8++le t.off 2
def Wu (y:Yr):List UInt8:=le y.month 1++(le y.cZ 1++(le y.dh 1++(le y.minute 2++le y.off 2)))
def Hu (z:Zn):List UInt8:=sH z.cal++(le z.start 2++(le z.trans.length 2++(z.trans.flatMap U7++(le z.hor 8++(le z.aH.length 1++z.aH.flatMap Wu)))))
structure Y14 (y:Yr):Prop where
 month:fits y.month
 cZ:fits y.cZ
 dh:fits y.dh
 minute:fits y.minute
 off:fits y.off
structure Z14 (z:Zn):Prop where
 cal:C14 z.cal
 start:fits z.start
 tl:z.trans.length<=1000
 tr:∀x∈z.trans,fits x.at_/\fits x.off
 hor:fits z.hor
 yl:z.aH.length<=1000
 yr:∀y∈z.aH,Y14 y
theorem GY (t:Tr):(U7 t).length=10:=by simp [U7,aC]
theorem Ho (y:Yr):(Wu y).length=7:=by simp [Wu,aC]
theorem Qb (c:Cal) (h:C14 c):(sH c).length<=7000:=by
 have g:=fC (le · 1) c.au 1 c.au.length (fun _=>aC _ _);have g2:=fC Uo c.rules 5 c.rules.length Aj;rw [List.take_length] at g g2;have h1:=h.mo;have h2:=h.ru;simp only [sH,bF,aC];omega
theorem CB.grow {lo n c:Nat} {v0:Value} {A:Option Addr} {w W W':World} {cs:Array Value} {bs:List UInt8} (h:CB lo v0 w cs bs A n c W) (hb:Below W.heap.size W W'):CB lo v0 w cs bs A n c W':=
 ⟨h.row.keep hb,ou.below h.own hb,h.len,h.keep.below hb,h.far⟩
theorem CB.qA {lo n c:Nat} {v0:Value} {A:Option Addr} {w W:World} {cs:Array Value} {bs:List UInt8} (h:CB lo v0 w cs bs A n c W) (b:Nat) (hb:W.heap.size<=b):some b≠(Value.slice A n c).ownBlock:=fun e=>by have:=(World.ownsRow.lt h.own _ e.symm).2;omega
def WC (b:Nat) (cs:Array Value) (v:Value) (W:World):Prop:=Row W b cs/\some b≠v.ownBlock
theorem WC.next {b:Nat} {cs:Array Value} {v v':Value} {W W':World} (h:WC b cs v W) (hk:uO v W v' W'):WC b cs v' W':=by
 have hlt:=h.1.1;refine ⟨⟨dP hlt hk.size,fun i=>(World.cell?_of_block (a:=⟨b,i,none⟩) (hk.block _ hlt h.2)).trans (h.1.2 i)⟩,?_⟩;rcases hk.own with e|⟨g,e,hb⟩
 ·rw [e];exact h.2
 ·rw [e];intro h';injection h' with h';omega
theorem VM (lo n c0:Nat) (A0:Option Addr) (bs:List UInt8) (z:Zn) (s:Zs) (w:World) (hl:bs.length=n) (hn:n<=800000) (hc:Z14 z) (hm:iP w lo s z) (hlo:lo<=w.heap.size) (hO:ou lo w A0 n c0 bs):
  Calls Tryz.prog 53 #[.slice A0 n c0, .agg (ay z s)] w (Zc lo (.slice A0 n c0) w (bs++Hu z)):=by
 have yc:Hid (Calls Tryz.prog 72 #[.slice A0 n c0, .agg (aI z.cal s.A s.a s.B s.b)] (w.alloc (.cells (ay z s) 69)) (Zc lo (.slice A0 n c0) (w.alloc (.cells (ay z s) 69)) (bs++sH z.cal))):=ae (LU lo n c0 A0 bs z.cal s.A s.B s.a s.b _ hl (by omega) hc.cal ⟨(hm.au.keep ((ag w _).mono hlo)),(hm.rules.keep ((ag w _).mono hlo))⟩ (by simp;omega) (ou.below hO (ag w _)));have hcb:=Qb z.cal hc.cal;obtain ⟨cb,hcbe⟩:∃l,sH z.cal=l:=⟨_,rfl⟩;rw [hcbe] at yc hcb;obtain ⟨⟨ep,mo,lp,ru⟩,st,tr,ho,yr⟩:=z;obtain ⟨A,a,R,r,C,cc,D,dd⟩:=s;obtain ⟨_,x1,x2,x3,x4,x5,x6⟩:=hc;obtain ⟨_,_,y0,y1⟩:=hm;simp only at x1 x2 x3 x4 x5 x6 y0 y1;unfold Hu;rw [hcbe];unfold ay aI at yc;unfold ay;simp only at yc ⊢;obtain ⟨nm,hnm⟩:∃n,mo.length=n:=⟨_,rfl⟩;obtain ⟨nr,hnr⟩:∃n,ru.length=n:=⟨_,rfl⟩;obtain ⟨nt,hnt⟩:∃n,tr.length=n:=⟨_,rfl⟩;obtain ⟨ny,hny⟩:∃n,yr.length=n:=⟨_,rfl⟩;have FM:=ae (fun k=>fC U7 tr 10 k GY);have FR:=ae (fun k=>fC Wu yr 7 k Ho);have Bg:=ae x3;have qL:=ae x6;have HY0:=ae y0;have Ia:=ae y1;have AO:=ae hO;have HNT:=ae hnt;have VY:=ae hny;rw [hnm,hnr] at yc ⊢;rw [hnt] at x2 FM yc ⊢;rw [hny] at x5 FR yc ⊢;have HB:=ae (CB.start #[I ep, .slice A nm a,I lp, .slice R nr r,I st, .slice C nt cc,I ho, .slice D ny dd] 69 hO hl);clear x3 x6 y0 y1 hO hnm hnr hnt hny hcbe;go_enter Tryz.func53,Tryz.ntmps53;go_wp2_with fail;refine yc.out.mono ?_;rintro e w0 ⟨A1,n1,c1,l1,rfl,o1,k1⟩;have H0:=ae (HB.out.next o1 l1 k1);clear l1 o1 k1 yc;have q0:(w0).cell? ⟨w.heap.size,0,none⟩=some (I ep):=H0.out.row.2 0;have q1:(w0).cell? ⟨w.heap.size,1,none⟩=some (.slice A nm a):=H0.out.row.2 1;have q2:(w0).cell? ⟨w.heap.size,2,none⟩=some (I lp):=H0.out.row.2 2;have q3:(w0).cell? ⟨w.heap.size,3,none⟩=some (.slice R nr r):=H0.out.row.2 3;have q4:(w0).cell? ⟨w.heap.size,4,none⟩=some (I st):=H0.out.row.2 4;have q5:(w0).cell? ⟨w.heap.size,5,none⟩=some (.slice C nt cc):=H0.out.row.2 5;have q6:(w0).cell? ⟨w.heap.size,6,none⟩=some (I ho):=H0.out.row.2 6;have q7:(w0).cell? ⟨w.heap.size,7,none⟩=some (.slice D ny dd):=H0.out.row.2 7;go_wp2_with fail;refine (dZ lo _ _ 2 _ _ st _ H0.out.len (by have h:=H0.out.len;(try simp only [bF] at h);omega) (by omega) x1 (Nat.le_trans hlo H0.out.keep.size) H0.out.own).mono ?_;rintro e w2 ⟨A2,n2,c2,l1,rfl,o1,k1⟩;have H1:=ae (H0.out.next o1 l1 k1);clear l1 o1 k1;clear q0 q1 q2 q3 q4 q5 q6 q7;have q0:(w2).cell? ⟨w.heap.size,0,none⟩=some (I ep):=H1.out.row.2 0;have q1:(w2).cell? ⟨w.heap.size,1,none⟩=some (.slice A nm a):=H1.out.row.2 1;have q2:(w2).cell? ⟨w.heap.size,2,none⟩=some (I lp):=H1.out.row.2 2;have q3:(w2).cell? ⟨w.heap.size,3,none⟩=some (.slice R nr r):=H1.out.row.2 3;have q4:(w2).cell? ⟨w.heap.size,4,none⟩=some (I st):=H1.out.row.2 4;have q5:(w2).cell? ⟨w.heap.size,5,none⟩=some (.slice C nt cc):=H1.out.row.2 5;have q6:(w2).cell? ⟨w.heap.size,6,none⟩=some (I ho):=H1.out.row.2 6;have q7:(w2).cell? ⟨w.heap.size,7,none⟩=some (.slice D ny dd):=H1.out.row.2 7;go_wp2_with fail;refine (dZ lo _ _ 2 _ _ nt _ H1.out.len (by have h:=H1.out.len;(try simp only [bF,aC] at h);omega) (by omega) ⟨by omega,by omega⟩ (Nat.le_trans hlo H1.out.keep.size) H1.out.own).mono ?_;rintro e w3 ⟨A3,n3,c3,l1,rfl,o1,k1⟩;have H2:=ae (H1.out.next o1 l1 k1);clear l1 o1 k1;clear q0 q1 q2 q3 q4 q5 q6 q7;have q0:(w3).cell? ⟨w.heap.size,0,none⟩=some (I ep):=H2.out.row.2 0;have q1:(w3).cell? ⟨w.heap.size,1,none⟩=some (.slice A nm a):=H2.out.row.2 1;have q2:(w3).cell? ⟨w.heap.size,2,none⟩=some (I lp):=H2.out.row.2 2;have q3:(w3).cell? ⟨w.heap.size,3,none⟩=some (.slice R nr r):=H2.out.row.2 3;have q4:(w3).cell? ⟨w.heap.size,4,none⟩=some (I st):=H2.out.row.2 4;have q5:(w3).cell? ⟨w.heap.size,5,none⟩=some (.slice C nt cc):=H2.out.row.2 5;have q6:(w3).cell? ⟨w.heap.size,6,none⟩=some (I ho):=H2.out.row.2 6;have q7:(w3).cell? ⟨w.heap.size,7,none⟩=some (.slice D ny dd):=H2.out.row.2 7;go_wp2_with fail
 go_loopw [0,5] (fun b i wr=>Ij lo (.slice A0 n c0) w #[I ep, .slice A nm a,I lp, .slice R nr r,I st, .slice C nt cc,I ho, .slice D ny dd] (fun k=>bs++cb++le st 2++le nt 2++(tr.take k).flatMap U7) nt b i wr) (fun _ i _=>nt - (intOf i).toNat)
 case atStart=>exact ⟨0,n3,c3,A3,Nat.zero_le _,rfl,by go_num,by simpa using H2.out⟩
 case round=>
  obtain ⟨k,n4,c4,A4,hk,rfl,rfl,hb3⟩:=hrel;have HB3:=ae hb3;clear hb3 q0 q1 q2 q3 q4 q5 q6 q7;have q0:(wr).cell? ⟨w.heap.size,0,none⟩=some (I ep):=HB3.out.row.2 0;have q1:(wr).cell? ⟨w.heap.size,1,none⟩=some (.slice A nm a):=HB3.out.row.2 1;have q2:(wr).cell? ⟨w.heap.size,2,none⟩=some (I lp):=HB3.out.row.2 2;have q3:(wr).cell? ⟨w.heap.size,3,none⟩=some (.slice R nr r):=HB3.out.row.2 3;have q4:(wr).cell? ⟨w.heap.size,4,none⟩=some (I st):=HB3.out.row.2 4;have q5:(wr).cell? ⟨w.heap.size,5,none⟩=some (.slice C nt cc):=HB3.out.row.2 5;have q6:(wr).cell? ⟨w.heap.size,6,none⟩=some (I ho):=HB3.out.row.2 6;have q7:(wr).cell? ⟨w.heap.size,7,none⟩=some (.slice D ny dd):=HB3.out.row.2 7;by_cases hlt:(k:Int)<(nt:Int)
  ·obtain ⟨b,off,rfl,nZ,hcl⟩:=HY0.out.there (by rw [bZ (s:=2) Tr.cells tr (fun _ _=>rfl),HNT.out];omega);have hx:tr[k]? =some (tr[k]'(by rw [HNT.out];omega)):=bK _;obtain ⟨x,hxx⟩:∃x,tr[k]'(by rw [HNT.out];omega)=x:=⟨_,rfl⟩;rw [hxx] at hx;have EC:Hid (∀i u,x.cells[i]? =some u->w.cell? ⟨b,off+k*2+i,none⟩=some u):=ae (fun i u hu=>by rw [Nat.add_assoc];exact hcl _ _ (by rw [flat_get (s:=2) Tr.cells tr (fun _ _=>rfl) k i x hx (by have:=(gQ.1 hu).1;simpa [Tr.cells] using this)];exact hu));have HX:=ae hx;have hfx:=Bg.out x (gZ hx);clear hcl hx hxx;have z0:(wr).cell? ⟨b,off+k*2,none⟩=some (I x.at_):=((HB3.out.low AO.out hlo).cell (p:=⟨b,off+k*2,none⟩) nZ).trans (EC.out 0 _ rfl);have z1:(wr).cell? ⟨b,off+k*2+1,none⟩=some (I x.off):=((HB3.out.low AO.out hlo).cell (p:=⟨b,off+k*2+1,none⟩) nZ).trans (EC.out 1 _ rfl);go_wp2_with fail;refine (dZ lo _ _ 8 _ _ x.at_ _ HB3.out.len (by have h:=HB3.out.len;have g:=FM.out k;(try simp only [bF,aC] at h);omega) (by omega) hfx.1 (Nat.le_trans hlo HB3.out.keep.size) HB3.out.own).mono ?_;rintro e w5 ⟨A5,n5,c5,l1,rfl,o1,k1⟩;have H4:=ae (HB3.out.next o1 l1 k1);clear l1 o1 k1;clear q0 q1 q2 q3 q4 q5 q6 q7;clear z0 z1;have q0:(w5).cell? ⟨w.heap.size,0,none⟩=some (I ep):=H4.out.row.2 0;have q1:(w5).cell? ⟨w.heap.size,1,none⟩=some (.slice A nm a):=H4.out.row.2 1;have q2:(w5).cell? ⟨w.heap.size,2,none⟩=some (I lp):=H4.out.row.2 2;have q3:(w5).cell? ⟨w.heap.size,3,none⟩=some (.slice R nr r):=H4.out.row.2 3;have q4:(w5).cell? ⟨w.heap.size,4,none⟩=some (I st):=H4.out.row.2 4;have q5:(w5).cell? ⟨w.heap.size,5,none⟩=some (.slice (some ⟨b,off,none⟩) nt cc):=H4.out.row.2 5;have q6:(w5).cell? ⟨w.heap.size,6,none⟩=some (I ho):=H4.out.row.2 6;have q7:(w5).cell? ⟨w.heap.size,7,none⟩=some (.slice D ny dd):=H4.out.row.2 7;have z0:(w5).cell? ⟨b,off+k*2,none⟩=some (I x.at_):=((H4.out.low AO.out hlo).cell (p:=⟨b,off+k*2,none⟩) nZ).trans (EC.out 0 _ rfl);have z1:(w5).cell? ⟨b,off+k*2+1,none⟩=some (I x.off):=((H4.out.low AO.out hlo).cell (p:=⟨b,off+k*2+1,none⟩) nZ).trans (EC.out 1 _ rfl);go_wp2_with fail;refine (dZ lo _ _ 2 _ _ x.off _ H4.out.len (by have h:=H4.out.len;have g:=FM.out k;(try simp only [bF,aC] at h);omega) (by omega) hfx.2 (Nat.le_trans hlo H4.out.keep.size) H4.out.own).mono ?_;rintro e w6 ⟨A6,n6,c6,l1,rfl,o1,k1⟩;have H5:=ae (H4.out.next o1 l1 k1);clear l1 o1 k1;go_wp2_with fail;go_roundw
   case rel=>exact ⟨k+1,n6,c6,A6,by omega,rfl,by go_num,by show CB _ _ _ _ (_++(tr.take (k+1)).flatMap U7) _ _ _ _;rw [qY _ _ _ _ HX.out,<-List.append_assoc];simpa [U7,List.append_assoc] using H5.out⟩
   case measure=>simp [intOf];omega
  ·have hk2:k=nt:=by omega
   subst hk2;clear hlt;go_wp2_with fail;refine (dZ lo _ _ 8 _ _ ho _ HB3.out.len (by have h:=HB3.out.len;have g:=FM.out k;(try simp only [bF,aC] at h);omega) (by omega) x4 (Nat.le_trans hlo HB3.out.keep.size) HB3.out.own).mono ?_;rintro e w5 ⟨A5,n5,c5,l1,rfl,o1,k1⟩;have H5:=ae (HB3.out.next o1 l1 k1);clear l1 o1 k1;clear q0 q1 q2 q3 q4 q5 q6 q7;have q0:(w5).cell? ⟨w.heap.size,0,none⟩=some (I ep):=H5.out.row.2 0;have q1:(w5).cell? ⟨w.heap.size,1,none⟩=some (.slice A nm a):=H5.out.row.2 1;have q2:(w5).cell? ⟨w.heap.size,2,none⟩=some (I lp):=H5.out.row.2 2;have q3:(w5).cell? ⟨w.heap.size,3,none⟩=some (.slice R nr r):=H5.out.row.2 3;have q4:(w5).cell? ⟨w.heap.size,4,none⟩=some (I st):=H5.out.row.2 4;have q5:(w5).cell? ⟨w.heap.size,5,none⟩=some (.slice C k cc):=H5.out.row.2 5;have q6:(w5).cell? ⟨w.heap.size,6,none⟩=some (I ho):=H5.out.row.2 6;have q7:(w5).cell? ⟨w.heap.size,7,none⟩=some (.slice D ny dd):=H5.out.row.2 7;go_wp2_with fail;refine (dZ lo _ _ 1 _ _ ny _ H5.out.len (by have h:=H5.out.len;have g:=FM.out k;(try simp only [bF,aC] at h);omega) (by omega) ⟨by omega,by omega⟩ (Nat.le_trans hlo H5.out.keep.size) H5.out.own).mono ?_;rintro e w6 ⟨A6,n6,c6,l1,rfl,o1,k1⟩;have H6:=ae (H5.out.next o1 l1 k1);clear l1 o1 k1;clear q0 q1 q2 q3 q4 q5 q6 q7;have q0:(w6).cell? ⟨w.heap.size,0,none⟩=some (I ep):=H6.out.row.2 0;have q1:(w6).cell? ⟨w.heap.size,1,none⟩=some (.slice A nm a):=H6.out.row.2 1;have q2:(w6).cell? ⟨w.heap.size,2,none⟩=some (I lp):=H6.out.row.2 2;have q3:(w6).cell? ⟨w.heap.size,3,none⟩=some (.slice R nr r):=H6.out.row.2 3;have q4:(w6).cell? ⟨w.heap.size,4,none⟩=some (I st):=H6.out.row.2 4;have q5:(w6).cell? ⟨w.heap.size,5,none⟩=some (.slice C k cc):=H6.out.row.2 5;have q6:(w6).cell? ⟨w.heap.size,6,none⟩=some (I ho):=H6.out.row.2 6;have q7:(w6).cell? ⟨w.heap.size,7,none⟩=some (.slice D ny dd):=H6.out.row.2 7;go_wp2_with fail
   go_loopw [0,6] (fun b i wr=>Ij lo (.slice A0 n c0) w #[I ep, .slice A nm a,I lp, .slice R nr r,I st, .slice C k cc,I ho, .slice D ny dd] (fun j=>(bs++cb++le st 2++le k 2++(tr.take k).flatMap U7)++le ho 8++le ny 1++(yr.take j).flatMap Wu) ny b i wr) (fun _ i _=>ny - (intOf i).toNat)
   case atStart=>exact ⟨0,n6,c6,A6,Nat.zero_le _,rfl,by go_num,by simpa using H6.out⟩
   case round=>
    obtain ⟨j,n7,c7,A7,hj,rfl,rfl,hb7⟩:=hrel;have rE:=ae hb7;clear hb7 q0 q1 q2 q3 q4 q5 q6 q7;have q0:(wr).cell? ⟨w.heap.size,0,none⟩=some (I ep):=rE.out.row.2 0;have q1:(wr).cell? ⟨w.heap.size,1,none⟩=some (.slice A nm a):=rE.out.row.2 1;have q2:(wr).cell? ⟨w.heap.size,2,none⟩=some (I lp):=rE.out.row.2 2;have q3:(wr).cell? ⟨w.heap.size,3,none⟩=some (.slice R nr r):=rE.out.row.2 3;have q4:(wr).cell? ⟨w.heap.size,4,none⟩=some (I st):=rE.out.row.2 4;have q5:(wr).cell? ⟨w.heap.size,5,none⟩=some (.slice C k cc):=rE.out.row.2 5;have q6:(wr).cell? ⟨w.heap.size,6,none⟩=some (I ho):=rE.out.row.2 6;have q7:(wr).cell? ⟨w.heap.size,7,none⟩=some (.slice D ny dd):=rE.out.row.2 7;by_cases hlt:(j:Int)<(ny:Int)
    ·obtain ⟨b,off,rfl,nZ,hcl⟩:=Ia.out.there (by rw [bZ (s:=5) Yr.cells yr (fun _ _=>rfl),VY.out];omega);have hx:yr[j]? =some (yr[j]'(by rw [VY.out];omega)):=bK _;obtain ⟨x,hxx⟩:∃x,yr[j]'(by rw [VY.out];omega)=x:=⟨_,rfl⟩;rw [hxx] at hx;have EC:Hid (∀i u,x.cells[i]? =some u->w.cell? ⟨b,off+j*5+i,none⟩=some u):=ae (fun i u hu=>by rw [Nat.add_assoc];exact hcl _ _ (by rw [flat_get (s:=5) Yr.cells yr (fun _ _=>rfl) j i x hx (by have:=(gQ.1 hu).1;simpa [Yr.cells] using this)];exact hu));have HX:=ae hx;have hfx:=qL.out x (gZ hx);clear hcl hx hxx;have z0:(wr).cell? ⟨b,off+j*5,none⟩=some (I x.month):=((rE.out.low AO.out hlo).cell (p:=⟨b,off+j*5,none⟩) nZ).trans (EC.out 0 _ rfl);have z1:(wr).cell? ⟨b,off+j*5+1,none⟩=some (I x.cZ):=((rE.out.low AO.out hlo).cell (p:=⟨b,off+j*5+1,none⟩) nZ).trans (EC.out 1 _ rfl);have z2:(wr).cell? ⟨b,off+j*5+2,none⟩=some (I x.dh):=((rE.out.low AO.out hlo).cell (p:=⟨b,off+j*5+2,none⟩) nZ).trans (EC.out 2 _ rfl);have z3:(wr).cell? ⟨b,off+j*5+3,none⟩=some (I x.minute):=((rE.out.low AO.out hlo).cell (p:=⟨b,off+j*5+3,none⟩) nZ).trans (EC.out 3 _ rfl);have z4:(wr).cell? ⟨b,off+j*5+4,none⟩=some (I x.off):=((rE.out.low AO.out hlo).cell (p:=⟨b,off+j*5+4,none⟩) nZ).trans (EC.out 4 _ rfl);go_wp2_with fail;obtain ⟨W0,hW0⟩:∃W0,W0=wr.alloc (.cells #[I x.month,I x.cZ,I x.dh,I x.minute,I x.off] 110):=⟨_,rfl⟩;have hbw:Below wr.heap.size wr W0:=by rw [hW0];exact ag wr _
     have H8:=ae (rE.out.grow hbw);have F8:Hid (WC wr.heap.size #[I x.month,I x.cZ,I x.dh,I x.minute,I x.off] (.slice A7 n7 c7) W0):=ae ⟨by rw [hW0];exact Row.new wr _ _,rE.out.qA _ (Nat.le_refl _)⟩;rw [<-hW0];refine (dZ lo _ _ 1 _ _ x.month _ H8.out.len (by have h:=H8.out.len;have g:=FM.out k;have g2:=FR.out j;(try simp only [bF,aC] at h);omega) (by omega) hfx.month (Nat.le_trans hlo H8.out.keep.size) H8.out.own).mono ?_;rintro e w9 ⟨A9,n9,c9,l1,rfl,o1,k1⟩;have H9:=ae (H8.out.next o1 l1 k1);have F9:=ae (F8.out.next k1);clear l1 o1 k1;have y0:(w9).cell? ⟨wr.heap.size,0,none⟩=some (I x.month):=F9.out.1.2 0;have y1:(w9).cell? ⟨wr.heap.size,1,none⟩=some (I x.cZ):=F9.out.1.2 1;have y2:(w9).cell? ⟨wr.heap.size,2,none⟩=some (I x.dh):=F9.out.1.2 2;have y3:(w9).cell? ⟨wr.heap.size,3,none⟩=some (I x.minute):=F9.out.1.2 3;have y4:(w9).cell? ⟨wr.heap.size,4,none⟩=some (I x.off):=F9.out.1.2 4;go_wp2_with fail;refine (dZ lo _ _ 1 _ _ x.cZ _ H9.out.len (by have h:=H9.out.len;have g:=FM.out k;have g2:=FR.out j;(try simp only [bF,aC] at h);omega) (by omega) hfx.cZ (Nat.le_trans hlo H9.out.keep.size) H9.out.own).mono ?_;rintro e w10 ⟨A10,n10,c10,l1,rfl,o1,k1⟩;have H10:=ae (H9.out.next o1 l1 k1);have F10:=ae (F9.out.next k1);clear l1 o1 k1;clear y0 y1 y2 y3 y4;have y0:(w10).cell? ⟨wr.heap.size,0,none⟩=some (I x.month):=F10.out.1.2 0;have y1:(w10).cell? ⟨wr.heap.size,1,none⟩=some (I x.cZ):=F10.out.1.2 1;have y2:(w10).cell? ⟨wr.heap.size,2,none⟩=some (I x.dh):=F10.out.1.2 2;have y3:(w10).cell? ⟨wr.heap.size,3,none⟩=some (I x.minute):=F10.out.1.2 3;have y4:(w10).cell? ⟨wr.heap.size,4,none⟩=some (I x.off):=F10.out.1.2 4;go_wp2_with fail;refine (dZ lo _ _ 1 _ _ x.dh _ H10.out.len (by have h:=H10.out.len;have g:=FM.out k;have g2:=FR.out j;(try simp only [bF,aC] at h);omega) (by omega) hfx.dh (Nat.le_trans hlo H10.out.keep.size) H10.out.own).mono ?_;rintro e Vm ⟨A11,n11,c11,l1,rfl,o1,k1⟩;have H11:=ae (H10.out.next o1 l1 k1);have F11:=ae (F10.out.next k1);clear l1 o1 k1;clear y0 y1 y2 y3 y4;have y0:(Vm).cell? ⟨wr.heap.size,0,none⟩=some (I x.month):=F11.out.1.2 0;have y1:(Vm).cell? ⟨wr.heap.size,1,none⟩=some (I x.cZ):=F11.out.1.2 1;have y2:(Vm).cell? ⟨wr.heap.size,2,none⟩=some (I x.dh):=F11.out.1.2 2;have y3:(Vm).cell? ⟨wr.heap.size,3,none⟩=some (I x.minute):=F11.out.1.2 3;have y4:(Vm).cell? ⟨wr.heap.size,4,none⟩=some (I x.off):=F11.out.1.2 4;go_wp2_with fail;refine (dZ lo _ _ 2 _ _ x.minute _ H11.out.len (by have h:=H11.out.len;have g:=FM.out k;have g2:=FR.out j;(try simp only [bF,aC] at h);omega) (by omega) hfx.minute (Nat.le_trans hlo H11.out.keep.size) H11.out.own).mono ?_;rintro e w12 ⟨A12,n12,c12,l1,rfl,o1,k1⟩;have WE:=ae (H11.out.next o1 l1 k1);have F12:=ae (F11.out.next k1);clear l1 o1 k1;clear y0 y1 y2 y3 y4;have y0:(w12).cell? ⟨wr.heap.size,0,none⟩=some (I x.month):=F12.out.1.2 0;have y1:(w12).cell? ⟨wr.heap.size,1,none⟩=some (I x.cZ):=F12.out.1.2 1;have y2:(w12).cell? ⟨wr.heap.size,2,none⟩=some (I x.dh):=F12.out.1.2 2;have y3:(w12).cell? ⟨wr.heap.size,3,none⟩=some (I x.minute):=F12.out.1.2 3;have y4:(w12).cell? ⟨wr.heap.size,4,none⟩=some (I x.off):=F12.out.1.2 4;go_wp2_with fail;refine (dZ lo _ _ 2 _ _ x.off _ WE.out.len (by have h:=WE.out.len;have g:=FM.out k;have g2:=FR.out j;(try simp only [bF,aC] at h);omega) (by omega) hfx.off (Nat.le_trans hlo WE.out.keep.size) WE.out.own).mono ?_;rintro e w13 ⟨A13,n13,c13,l1,rfl,o1,k1⟩;have H13:=ae (WE.out.next o1 l1 k1);have F13:=ae (F12.out.next k1);clear l1 o1 k1;go_wp2_with fail;go_roundw
     case rel=>exact ⟨j+1,n13,c13,A13,by omega,rfl,by go_num,by show CB _ _ _ _ (_++(yr.take (j+1)).flatMap Wu) _ _ _ _;rw [qY _ _ _ _ HX.out,<-List.append_assoc];simpa [Wu,List.append_assoc] using H13.out⟩
     case measure=>simp [intOf];omega
    ·have hj2:j=ny:=by omega
     have HJ:=ae hj2;clear hj2;go_wp2_with fail;go_ret;have hb:=rE.out;rw [HJ.out,List.take_of_length_le (Nat.le_of_eq VY.out),List.take_of_length_le (Nat.le_of_eq HNT.out)] at hb;refine ⟨A7,n7,c7,?_,rfl,?_,hb.keep⟩
     ·rw [<-hb.len];simp [List.append_assoc]
     ·have:=hb.own;simpa [HNT.out,VY.out,List.append_assoc] using this
def bW (k:Nat):ByteArray:=⟨#[122,(97+k).toUInt8]⟩
theorem Dw (k:Nat):(bW k).size=2:=rfl
def Cj:Nat->ByteArray
 |0=>⟨#[]⟩
 |k+1=>bW k
theorem VJ:∀k,k<3->(Op.bytesLess (bW k).toList (Cj k).toList=false/\((bW k).toList==(Cj k).toList)=false):=by decide+kernel
theorem KN.good {c:Cal} (hc:KN c):fJ c:=by
 have h1:=hc.ep;have h2:=hc.mo;have h3:=hc.le;have h4:=hc.ru;refine ⟨by omega,by omega,by omega,by omega,hc.nl,fun m hm=>by have:=hc.all m hm;omega,?_⟩;have h5:=hc.rl;cases hr:c.rules with
 |nil=>rfl
 |cons r rs=>
  rw [hr] at h4 h5;have hn:rs= []:=by
   cases rs with
   |nil=>rfl
   |cons _ _=>simp at h4
  subst hn;obtain ⟨e1,e2,e3⟩:=h5 r List.mem_cons_self;unfold jU;rw [if_neg (by omega),e1];rfl
theorem Zb {z:Zn} (h:Oj z) (hy:z.aH= []):vg z=0:=by
 have e:tJ z= []:=by
  unfold tJ uy;rw [hy];simp only [List.mergeSort_nil]
 unfold vg;rw [if_neg (by have:=h.QS;omega),if_pos];refine Gy ⟨by have:=h.QS;omega,h.cal.good,h.start,by have:=h.hor;omega,fun i hi=>?_, .inl hy,?_,?_⟩
 ·obtain ⟨h1,h2,h3⟩:=h.at_bd i hi;have h4:=h.hor;refine ⟨h1,by omega,h3,?_⟩;cases i with
  |zero=>exact .inl rfl
  |succ j=>
   have h5:=h.gap j hi;exact .inr (by rw [Nat.add_sub_cancel];omega)
 ·rw [e];rfl
 ·intro _ h2;rw [e] at h2;exact absurd rfl h2
structure ZnV0 (z:Zn):Prop where
 made:Oj z
 ok:vg z=0
theorem Qv (x:EI):ZnV0 (jv x):=by
 refine ⟨Ut x,?_⟩;unfold jv;split
 ·rename_i h;exact h.2
 ·exact Zb (VH x) rfl
theorem Oj.z14 {z:Zn} (h:Oj z):Z14 z:=by
 obtain ⟨hc,hs,hh,hl,ht,_,hy⟩:=h;refine ⟨⟨⟨by have:=hc.ep;omega,by have:=hc.ep;omega⟩,by rw [hc.mo];omega,fun x hx=>⟨by have:=hc.all x hx;omega,by have:=hc.all x hx;omega⟩,⟨hc.le.1,by have:=hc.le;omega⟩,by have:=hc.ru;omega,fun r hr=>?_⟩,⟨by omega,by omega⟩,by omega,fun x hx=>?_,⟨by omega,by omega⟩,?_,fun y hm=>?_⟩
 ·obtain ⟨h1,h2,h3⟩:=hc.rl r hr;exact ⟨⟨by omega,by omega⟩,⟨by omega,by omega⟩⟩
 ·obtain ⟨⟨h1,h2⟩,h3,h4⟩:=ht x hx;exact ⟨⟨by omega,by omega⟩,⟨by omega,by omega⟩⟩
 ·rcases hy with h|⟨r0,r1,h,_,_⟩<;>rw [h]<;>simp
 ·have hS:YrS y:=by
   rcases hy with h|⟨r0,r1,h,h0,h1⟩
   ·rw [h] at hm;cases hm
   ·rw [h] at hm;rcases List.mem_cons.1 hm with rfl|hm
    ·exact h0
    ·rcases List.mem_cons.1 hm with rfl|hm
     ·exact h1
     ·cases hm
  exact ⟨by have:=hS.mo;constructor<;>omega,by have:=hS.wk;constructor<;>omega,by have:=hS.wd;constructor<;>omega,by have:=hS.mi;constructor<;>omega,by have:=hS.of;constructor<;>omega⟩
theorem VI (z:Zn) (h:Oj z):(Hu z).length<=100:=by
 have g1:=fC (le · 1) z.cal.au 1 z.cal.au.length (fun _=>aC _ _);have g2:=fC Uo z.cal.rules 5 z.cal.rules.length Aj;have g3:=fC U7 z.trans 10 z.trans.length GY;have g4:=fC Wu z.aH 7 z.aH.length Ho;rw [List.take_length] at g1 g2 g3 g4;have h1:=h.cal.mo;have h2:=h.cal.ru;have h3:=h.QS;have h4:z.aH.length<=2:=by rcases h.yr with e|⟨r0,r1,e,_,_⟩<;>rw [e]<;>simp
 simp only [Hu,sH,bF,aC];omega
structure FY (t:Tb):Prop where
 bG:0<=t.bG/\t.bG<=15
 version:1<=t.version/\t.version<=64
 aO:0<=t.aO/\t.aO<t.version
 first:t.version=1->t.prev=fU
 num:t.aF.length<=3
 aF:∀e∈t.aF,ZnV0 e.z
 names:∀k e,t.aF[k]? =some e->e.name=bW k
theorem vN (w:World) (r:List UInt8) (h:r.length=32):(Op.equalIn 10000 24 (.agg (r.map Extern.Stop.cell).toArray) (.agg (r.map Extern.Stop.cell).toArray)).run Tryz.prog w= .ok true w:=by
 rw [run_equalIn_bytes w 9998 24 5 32 Tryz.underlying24 Tryz.underlying5 (fun w=>GN w) r r h h,beq_self_eq_true]
attribute [local go_sem] ja jb jc bC
structure TVr (w:World) (cs:Array Value) (A:Option Addr) (zs:List dw) (W:World):Prop where
 row:Row W w.heap.size cs
 mem:kz W w.heap.size A zs
 up:Below w.heap.size w W
theorem TVr.below {w W W':World} {cs:Array Value} {A:Option Addr} {zs:List dw} (h:TVr w cs A zs W) (hb:Below W.heap.size W W'):TVr w cs A zs W':=
 ⟨h.row.keep hb,h.mem.keep (hb.mono h.up.size),ah h.up hb⟩
end Go.Proofs.YtbaehbbonkljpaaGreatDoor
namespace Go.Proofs.YtbaehbbonkljpaaGreatDoor
open Go Go.RowKit
structure TV (w:World) (cs:Array Value) (A:Option Addr) (zs:List dw) (W:World):Prop where
 row:Row W w.heap.size cs
 mem:y7 W w.heap.size A zs
 up:Below w.heap.size w W
theorem TV.below {w W W':World} {cs:Array Value} {A:Option Addr} {zs:List dw} (h:TV w cs A zs W) (hb:Below W.heap.size W W'):TV w cs A zs W':=
 ⟨h.row.keep hb,h.mem.keep (hb.mono h.up.size),ah h.up hb⟩
def jG (zs:List dw):Nat->ByteArray
 |0=>⟨#[]⟩
 |k+1=>(zs[k]?.map (·.e.name)).getD ⟨#[]⟩
def FW (zs:List dw):Prop:=∀k x,zs[k]? =some x->Op.bytesLess x.e.name.toList (jG zs k).toList=false/\(x.e.name.toList==(jG zs k).toList)=false
attribute [local go_sem] ja jb jc bC
end Go.Proofs.YtbaehbbonkljpaaGreatDoor
namespace Go.Proofs.YtbaehbbonkljpaaGreatDoor
open Go Go.RowKit
structure TbG (t:Tb):Prop where
 bG:0<=t.bG/\t.bG<16
 version:1<=t.version/\t.version<=64
 aO:0<=t.aO/\t.aO<t.version
 prev:t.prev.length=32
 bP:t.bP.length=32
 first:t.version=1->t.prev=fU
 num:t.aF.length<=128
 good:∀e∈t.aF,Oj e.z/\vg e.z=0
 short:∀e∈t.aF,e.name.size<=32
theorem kz.at {w:World} {B:Nat} {A:Option Addr} {zs:List dw} {k:Nat} {x:dw} (h:kz w B A zs) (hx:zs[k]? =some x):∃b off,A=some ⟨b,off,none⟩/\b<B/\w.rangeAt b (off+k*9) x.cells.toList:=by
 have hk:=(gQ.1 hx).1;obtain ⟨b,off,e,hb,hc⟩:=h.row.there (by rw [dX];omega);exact ⟨b,off,e,hb,aA.elem (s:=9) (f:=fun x:dw=>x.cells.toList) (fun _ _=>rfl) hc k x hx⟩
attribute [local go_sem] ja jb jc bC
structure TG (w:World) (cs:Array Value) (A:Option Addr) (zs:List dw) (W:World):Prop where
 row:Row W w.heap.size cs
 mem:kz W w.heap.size A zs
 up:Below w.heap.size w W
theorem TG.below {w W W':World} {cs:Array Value} {A:Option Addr} {zs:List dw} (h:TG w cs A zs W) (hb:Below W.heap.size W W'):TG w cs A zs W':=
 ⟨h.row.keep hb,h.mem.keep (hb.mono h.up.size),ah h.up hb⟩
end Go.Proofs.YtbaehbbonkljpaaGreatDoor
namespace Go.Proofs.YtbaehbbonkljpaaGreatDoor
open Go Go.RowKit
attribute [local go_sem] ja jb jc bC
def mM (x last:ByteArray):Bool:=Op.bytesLess x.toList last.toList||(x.toList==last.toList)
def eu:ByteArray->List Ze->Int
 |_,[]=>0
 |last,e::es=>if 32<e.name.size\/mM e.name last=true then 1 else if vg e.z=0 then eu e.name es else vg e.z
theorem oZ (last:ByteArray) (e:Ze) (es:List Ze):eu last (e::es)=if 32<e.name.size\/mM e.name last=true then 1 else if vg e.z=0 then eu e.name es else vg e.z:=rfl
def Wq (t:Tb):Bool:=decide (t.bG<0\/16<=t.bG\/t.version<1\/64<t.version)
def Ws (t:Tb):Bool:=decide (t.aO<0\/t.version<=t.aO\/(t.version=1/\(t.prev==fU)=false))
def mg (t:Tb):Int:=if Wq t=true then 1 else if Ws t=true then 1 else if 128<t.aF.length then 2 else eu ⟨#[]⟩ t.aF
theorem MX (xs:List UInt8) (h:xs.length=32):∀W,(binOp .neq 24 (.agg (ax xs).toArray) (.agg (ax fU).toArray)).run Tryz.prog W= .ok (.bool (!(xs==fU))) W:=fun W=>by
 unfold ax;rw [run_neq_struct,run_equalIn_bytes W 9998 24 5 32 Tryz.underlying24 Tryz.underlying5 (fun w=>GN w) xs fU h rfl];simp [Result.andThen]
theorem pX (t:Tb) (A:Option Addr) (n c:Nat) (zs:List dw) (w:World) (hpl:t.prev.length=32) (hz:t.aF=zs.map (·.e)) (hn:zs.length=n) (hA:kz w w.heap.size A zs):
  Calls Tryz.prog 29 #[.agg (ai t (.slice A n c))] w (Gives (I (mg t)) w):=by
 have HR0:=ae (Row.new w (ai t (.slice A n c)) 26);have HB0:=ae (ag w (.cells (ai t (.slice A n c)) 26));have HZ:=ae hz;have yt:Hid (TG w (ai t (.slice A n c)) A zs (w.alloc (.cells (ai t (.slice A n c)) 26))):=ae ⟨HR0.out,hA.keep HB0.out,HB0.out⟩;have KT:=ae hn;have HNZ:Hid (t.aF.length=n):=ae (by rw [hz,List.length_map,hn]);have h32:(Tryz.prog.info? 24).map (·.size)=some (ax t.prev).length:=by rw [show (ax t.prev).length=32 by simp [ax,hpl]];kernel_rfl
 have HP:=ae (uU t (.slice A n c) yt.out.row);have WG:=ae h32;have hneq:=MX t.prev hpl;rw [xW] at hneq;obtain ⟨pz,hpz⟩:∃b,(t.prev==fU)=b:=⟨_,rfl⟩;rw [hpz] at hneq;have HNEQ:=ae hneq;have HPZ:=ae hpz;obtain ⟨b1,hb1⟩:∃b,Wq t=b:=⟨_,rfl⟩;obtain ⟨b2,hb2⟩:∃b,Ws t=b:=⟨_,rfl⟩;have HB1:=ae hb1;have HB2:=ae hb2;obtain ⟨ti,hti⟩:∃x,t.bG=x:=⟨_,rfl⟩;obtain ⟨tv,DJ⟩:∃x,t.version=x:=⟨_,rfl⟩;obtain ⟨tw,htw⟩:∃x,t.aO=x:=⟨_,rfl⟩;have HT1:Hid (Wq t=decide (ti<0\/16<=ti\/tv<1\/64<tv)):=ae (by unfold Wq;rw [hti,DJ]);have HT2:Hid (Ws t=decide (tw<0\/tv<=tw\/(tv=1/\pz=false))):=ae (by unfold Ws;rw [htw,DJ,hpz]);have HK:Hid (∀W,Row W w.heap.size (ai t (.slice A n c))->W.cell? ⟨w.heap.size,0,none⟩=some (I ti)/\W.cell? ⟨w.heap.size,1,none⟩=some (I tv)/\W.cell? ⟨w.heap.size,2,none⟩=some (I tw)/\W.cell? ⟨w.heap.size,3,none⟩=some (.slice A n c)):=ae (fun W hW=>⟨(hW.2 0).trans (by rw [ja,hti]),(hW.2 1).trans (by rw [jb,DJ]),(hW.2 2).trans (by rw [jc,htw]),(hW.2 3).trans (bC _ _)⟩);clear hz hA hn HR0 HB0 h32 hneq hpz hb1 hb2 hti DJ htw hpl;have mQ:Hid (mg t=if b1=true then 1 else if b2=true then 1 else if 128<n then 2 else eu ⟨#[]⟩ t.aF):=ae (by unfold mg;rw [HB1.out,HB2.out,HNZ.out]);obtain ⟨rv,zi⟩:∃v,mg t=v:=⟨_,rfl⟩;rw [zi];rw [zi] at mQ;clear zi;go_enter Tryz.func29,Tryz.ntmps29;go_upto_region 1 with fail;generalize w.alloc (.cells (ai t (.slice A n c)) 26)=W0 at yt HP ⊢;try simp only [Act.put]
 (try simp only [List.setIfInBounds_toArray,List.set_cons_zero,List.set_cons_succ])
 go_cut [7] from 8 to 25 (fun p wx=>p= .bool b1/\wx=W0)
 case first=>
  obtain ⟨k0,k1,k2,k3⟩:=HK.out W0 yt.out.row;clear k2 k3;by_cases m0:ti<0
  ·have HT:Hid (b1=true):=ae (by
    rw [<-HB1.out,HT1.out];exact decide_eq_true (by omega))
   go_wp2_with fail;go_meet;exact ⟨by rw [HT.out],rfl⟩
  ·by_cases m1:(16:Int)<=ti
   ·have HT:Hid (b1=true):=ae (by
     rw [<-HB1.out,HT1.out];exact decide_eq_true (by omega))
    go_wp2_with fail;go_meet;exact ⟨by rw [HT.out],rfl⟩
   ·by_cases m2:tv<1
    ·have HT:Hid (b1=true):=ae (by
      rw [<-HB1.out,HT1.out];exact decide_eq_true (by omega))
     go_wp2_with fail;go_meet;exact ⟨by rw [HT.out],rfl⟩
    ·by_cases m3:(64:Int)<tv
     ·have HT:Hid (b1=true):=ae (by
       rw [<-HB1.out,HT1.out];exact decide_eq_true (by omega))
      go_wp2_with fail;go_meet;exact ⟨by rw [HT.out],rfl⟩
     ·have HT:Hid (b1=false):=ae (by
       rw [<-HB1.out,HT1.out];exact decide_eq_false (by omega))
      go_wp2_with fail;go_meet;exact ⟨by rw [HT.out],rfl⟩
 case rest=>
  obtain ⟨rfl,rfl⟩:=hcut;cases b1 with
  |true=>
   go_wp2_with fail;go_ret;have e9:=mQ.out;simp only [if_true] at e9;subst e9;exact ⟨rfl,yt.out.up⟩
  |false=>
   go_upto_region 3 with fail
   go_cut [26] from 27 to 47 (fun p wx=>p= .bool b2/\wx=wc)
   case first=>
    obtain ⟨k0,k1,k2,k3⟩:=HK.out wc yt.out.row;clear k0 k3;by_cases m0:tw<0
    ·have HT:Hid (b2=true):=ae (by
      rw [<-HB2.out,HT2.out];exact decide_eq_true (by omega))
     go_wp2_with fail;go_meet;exact ⟨by rw [HT.out],rfl⟩
    ·by_cases m1:tv<=tw
     ·have HT:Hid (b2=true):=ae (by
       rw [<-HB2.out,HT2.out];exact decide_eq_true (by omega))
      go_wp2_with fail;go_meet;exact ⟨by rw [HT.out],rfl⟩
     ·by_cases m2:tv=1
      ·have hneq:=HNEQ.out;have m3:(tv==1)=true:=by simp [m2]
       have m4:¬(1:Int)<=tw:=by omega
       cases pz with
       |true=>
        have HT:Hid (b2=false):=ae (by
         rw [<-HB2.out,HT2.out];exact decide_eq_false (fun h=>by rcases h with h|h|⟨_,h⟩<;>first|omega|cases h))
        go_wp2_with ((with_reducible refine dY 24 ?_);refine dn rfl _ _ rfl w.heap.size 4 rfl (ax t.prev) HP.out _ Tryz.underlying24 rfl WG.out ?_);go_meet;exact ⟨by rw [HT.out],rfl⟩
       |false=>
        have HT:Hid (b2=true):=ae (by
         rw [<-HB2.out,HT2.out];exact decide_eq_true (.inr (.inr ⟨m2,rfl⟩)))
        go_wp2_with ((with_reducible refine dY 24 ?_);refine dn rfl _ _ rfl w.heap.size 4 rfl (ax t.prev) HP.out _ Tryz.underlying24 rfl WG.out ?_);go_meet;exact ⟨by rw [HT.out],rfl⟩
      ·have m3:(tv==1)=false:=by simp [m2]
       have HT:Hid (b2=false):=ae (by
        rw [<-HB2.out,HT2.out];exact decide_eq_false (by omega))
       go_wp2_with fail;go_meet;exact ⟨by rw [HT.out],rfl⟩
   case rest=>
    obtain ⟨rfl,rfl⟩:=hcut;cases b2 with
    |true=>
     go_wp2_with fail;go_ret;have e9:=mQ.out;simp only [if_false,if_true,Bool.false_eq_true] at e9;subst e9;exact ⟨rfl,yt.out.up⟩
    |false=>
     replace mQ:=mQ.out;simp only [if_false,Bool.false_eq_true] at mQ;replace mQ:=ae mQ;obtain ⟨k0,k1,k2,k3⟩:=HK.out wc yt.out.row;clear k0 k1 k2;by_cases q7:128<n
     ·have q8:(128:Int)<(n:Int):=by omega
      go_wp2_with fail;go_ret;have e9:=mQ.out;rw [if_pos q7] at e9;subst e9;exact ⟨rfl,yt.out.up⟩
     ·have q8:¬(128:Int)<(n:Int):=by omega
      replace mQ:=mQ.out;rw [if_neg q7] at mQ;replace mQ:=ae mQ;go_wp2_with fail;clear k3
      go_loopw [3,56] (fun l i wr=>∃k:Nat,k<=n/\l= .string (jG zs k)/\i=I k/\eu ⟨#[]⟩ t.aF=eu (jG zs k) (t.aF.drop k)/\TG w (ai t (.slice A n c)) A zs wr) (fun _ i _=>n - (intOf i).toNat)
      case atStart=>exact ⟨0,Nat.zero_le _,rfl,rfl,rfl,yt.out⟩
      case round=>
       obtain ⟨k,hk,rfl,rfl,hen,DJ⟩:=hrel;have HV:=ae DJ;have WV:=ae hen;have k3:=(HK.out wr DJ.row).2.2.2;have hlt1:=DJ.row.1;clear DJ yt hen;by_cases hlt:k<n
       ·have hkz:k<zs.length:=by rw [KT.out];exact hlt
        obtain ⟨x,hx⟩:∃x,zs[k]? =some x:=⟨_,bK hkz⟩;obtain ⟨b,off,rfl,hbl,hr⟩:=kz.at HV.out.mem hx;have hi:=HV.out.mem.each x (gZ hx);have i0:(0:Int)<=(k:Int):=by omega
        have i1:(k:Int)<(n:Int):=by omega
        have c0:wr.cell? ⟨b,off+k*9,none⟩=some (.string x.e.name):=hr 0 _ rfl;have c1:wr.cell? ⟨b,off+k*9+1,none⟩=some (I x.e.z.cal.bn):=hr 1 _ rfl;have c2:wr.cell? ⟨b,off+k*9+2,none⟩=some (.slice x.s.A x.e.z.cal.au.length x.s.a):=hr 2 _ rfl;have c3:wr.cell? ⟨b,off+k*9+3,none⟩=some (I x.e.z.cal.dA):=hr 3 _ rfl;have c4:wr.cell? ⟨b,off+k*9+4,none⟩=some (.slice x.s.B x.e.z.cal.rules.length x.s.b):=hr 4 _ rfl;have c5:wr.cell? ⟨b,off+k*9+5,none⟩=some (I x.e.z.start):=hr 5 _ rfl;have c6:wr.cell? ⟨b,off+k*9+6,none⟩=some (.slice x.s.C x.e.z.trans.length x.s.c):=hr 6 _ rfl;have c7:wr.cell? ⟨b,off+k*9+7,none⟩=some (I x.e.z.hor):=hr 7 _ rfl;have c8:wr.cell? ⟨b,off+k*9+8,none⟩=some (.slice x.s.D x.e.z.aH.length x.s.d):=hr 8 _ rfl;have HX:=ae hx;have HI:=ae hi;obtain ⟨L,hL⟩:∃L,jG zs k=L:=⟨_,rfl⟩;have ZQ:Hid (∀w',Below wr.heap.size wr w'->Calls Tryz.prog 50 #[.agg #[I x.e.z.cal.bn, .slice x.s.A x.e.z.cal.au.length x.s.a,I x.e.z.cal.dA, .slice x.s.B x.e.z.cal.rules.length x.s.b,I x.e.z.start, .slice x.s.C x.e.z.trans.length x.s.c,I x.e.z.hor, .slice x.s.D x.e.z.aH.length x.s.d]] w' (Gives (I (vg x.e.z)) w')):=ae fun w' hb=>
         Et x.e.z x.s w' (((HI.out.more HV.out.up.size).keep hb).more hb.size)
        have hdr:t.aF.drop k=x.e::t.aF.drop (k+1):=by
         have h1:t.aF[k]? =some x.e:=by rw [HZ.out,List.getElem?_map,hx];rfl
         have h2:k<t.aF.length:=(gQ.1 h1).1;rw [List.drop_eq_getElem_cons h2];rw [bK h2] at h1;injection h1 with h1;rw [h1]
        rw [hL] at WV ⊢;obtain ⟨zv,hzv⟩:∃v,vg x.e.z=v:=⟨_,rfl⟩;have vF:Hid (eu ⟨#[]⟩ t.aF=if 32<x.e.name.size\/mM x.e.name L=true then 1 else if zv=0 then eu x.e.name (t.aF.drop (k+1)) else zv):=ae (by rw [WV.out,hdr,oZ,hzv]);rw [hzv] at ZQ;have hlb:b<wr.heap.size:=by omega
        have RN:=ae (ag wr (.cells x.cells 76));have AL:Hid (jG zs (k+1)=x.e.name):=ae (by show (zs[k]?.map (·.e.name)).getD ⟨#[]⟩=_;rw [hx];rfl);clear hx hr hi hkz hL hdr hzv WV;by_cases q9:32<x.e.name.size
        ·have q10:(32:Int)<(x.e.name.size:Int):=by omega
         have HR:Hid (eu ⟨#[]⟩ t.aF=1):=ae (by rw [vF.out,if_pos (.inl q9)]);go_wp2_with fail;go_ret;have e9:=mQ.out;rw [HR.out] at e9;subst e9;exact ⟨rfl,ah HV.out.up RN.out⟩
        ·have q10:¬(32:Int)<(x.e.name.size:Int):=by omega
         obtain ⟨s1,hs1⟩:∃b,Op.bytesLess x.e.name.toList L.toList=b:=⟨_,rfl⟩;obtain ⟨s2,hs2⟩:∃b,(x.e.name.toList==L.toList)=b:=⟨_,rfl⟩;have Kz:Hid (mM x.e.name L=(s1||s2)):=ae (by unfold mM;rw [hs1,hs2]);cases s1 with
         |true=>
          have HR:Hid (eu ⟨#[]⟩ t.aF=1):=ae (by rw [vF.out,if_pos (.inr (by rw [Kz.out,Bool.true_or]))]);go_wp2_with fail;go_ret;have e9:=mQ.out;rw [HR.out] at e9;subst e9;exact ⟨rfl,ah HV.out.up RN.out⟩
         |false=>
         cases s2 with
         |true=>
          have HR:Hid (eu ⟨#[]⟩ t.aF=1):=ae (by rw [vF.out,if_pos (.inr (by rw [Kz.out];rfl))]);go_wp2_with fail;go_ret;have e9:=mQ.out;rw [HR.out] at e9;subst e9;exact ⟨rfl,ah HV.out.up RN.out⟩
         |false=>
          have HR:Hid (eu ⟨#[]⟩ t.aF=if zv=0 then eu x.e.name (t.aF.drop (k+1)) else zv):=ae (by rw [vF.out,if_neg (by rw [Kz.out];rintro (h|h);exact q9 h;cases h)]);go_wp2_with fail;refine (ZQ.out _ RN.out).mono ?_;rintro e w2 ⟨rfl,hb2⟩;have nD:=ae (HV.out.below (ah RN.out hb2));have d0:w2.cell? ⟨wr.heap.size,0,none⟩=some (.string x.e.name):=((Row.new wr x.cells 76).keep hb2).2 0;clear hb2 c0 c1 c2 c3 c4 c5 c6 c7 c8 k3 ZQ;by_cases q11:zv=0
          ·have HR2:Hid (eu ⟨#[]⟩ t.aF=eu x.e.name (t.aF.drop (k+1))):=ae (by rw [HR.out,if_pos q11]);subst q11;go_wp2_with fail;go_roundw
           case rel=>exact ⟨k+1,by omega,by rw [AL.out],by go_num,by rw [AL.out];exact HR2.out,nD.out⟩
           case measure=>simp [intOf];omega
          ·have HR2:Hid (eu ⟨#[]⟩ t.aF=zv):=ae (by rw [HR.out,if_neg q11]);have q12:(zv !=0)=true:=by simp [q11]
           go_wp2_with fail;go_ret;have e9:=mQ.out;rw [HR2.out] at e9;subst e9;exact ⟨rfl,nD.out.up⟩
       ·have hkn:k=n:=by omega
        have HR:Hid (eu ⟨#[]⟩ t.aF=0):=ae (by rw [WV.out,List.drop_of_length_le (by rw [HNZ.out];omega)];rfl);have i1:¬(k:Int)<(n:Int):=by omega
        clear hkn;go_wp2_with fail;go_ret;have e9:=mQ.out;rw [HR.out] at e9;subst e9;exact ⟨rfl,HV.out.up⟩
end Go.Proofs.YtbaehbbonkljpaaGreatDoor
