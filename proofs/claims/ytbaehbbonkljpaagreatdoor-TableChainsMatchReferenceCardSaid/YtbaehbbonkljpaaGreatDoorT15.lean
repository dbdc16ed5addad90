/- The texts Kq, TbV, Oa, Jn, TbY, Ob, in this order. -/
import Derived.Test.YtbaehbbonkljpaaGreatDoorT14
set_option maxRecDepth 10000
set_option maxHeartbeats 8000000
namespace Go.Proofs.YtbaehbbonkljpaaGreatDoor
open Go Go.RowKit
section
def QG (k:Nat):ByteArray:=⟨#[122,(97+k).toUInt8]⟩
theorem aaB (k:Nat):(QG k).size=2:=rfl
def Z7:Nat->ByteArray
 |0=>⟨#[]⟩
 |k+1=>QG k
theorem amn:∀k,k<3->(Op.bytesLess (QG k).toList (Z7 k).toList=false/\((QG k).toList==(Z7 k).toList)=false):=by decide+kernel
theorem afc.good {c:Cal}(hc:afc c):MR c:=by
 have h1:=hc.ep;have h2:=hc.mo;have h3:=hc.le;have h4:=hc.ru;refine⟨by omega,by omega,by omega,by omega,hc.nl,fun m hm=>by have:=hc.all m hm;omega,?_⟩;have h5:=hc.rl;cases hr:c.rules with
 |nil=>rfl
 |cons r rs=>
  rw[hr] at h4 h5;have hn:rs= []:=by
   cases rs with
   |nil=>rfl
   |cons _ _=>simp at h4
  subst hn;obtain⟨e1,e2,e3⟩:=h5 r gI;unfold PK;rw[bP (by omega),e1];rfl
theorem ao8 {z:Zn}(h:ZnM z)(hy:z.J6= []):VH z=0:=by
 have e:UW z= []:=by
  unfold UW Vg;rw[hy];simp only[oO]
 unfold VH;rw[bP (by have:=h.trl;omega),bD];refine acw ⟨by have:=h.trl;omega,h.cal.good,h.start,by have:=h.hor;omega,fun i hi=>?_,.inl hy,?_,?_⟩
 ·obtain⟨h1,h2,h3⟩:=h.awd i hi;have h4:=h.hor;refine⟨h1,by omega,h3,?_⟩;cases i with
  |zero=>exact .inl rfl
  |succ j=>
   have h5:=h.gap j hi;exact .inr (by rw[iC];omega)
 ·rw[e];rfl
 ·intro _ h2;rw[e] at h2;exact absurd rfl h2
structure arw (z:Zn):Prop where
 made:ZnM z
 ok:VH z=0
theorem aiB (x:RwZ):arw (OU x):=by
 refine⟨alb x,?_⟩;unfold OU;split
 ·rename_i h;exact h.2
 ·exact ao8 (amj x) rfl
theorem ZnM.z14 {z:Zn}(h:ZnM z):Z14 z:=by
 obtain⟨hc,hs,hh,hl,ht,_,hy⟩:=h;refine⟨⟨⟨by have:=hc.ep;omega,by have:=hc.ep;omega⟩,by rw[hc.mo];omega,fun x hx=>⟨by have:=hc.all x hx;omega,by have:=hc.all x hx;omega⟩,⟨hc.le.1,by have:=hc.le;omega⟩,by have:=hc.ru;omega,fun r hr=>?_⟩,⟨by omega,by omega⟩,by omega,fun x hx=>?_,⟨by omega,by omega⟩,?_,fun y hm=>?_⟩
 ·obtain⟨h1,h2,h3⟩:=hc.rl r hr;exact⟨⟨by omega,by omega⟩,⟨by omega,by omega⟩⟩
 ·obtain⟨⟨h1,h2⟩,h3,h4⟩:=ht x hx;exact⟨⟨by omega,by omega⟩,⟨by omega,by omega⟩⟩
 ·rcases hy with h|⟨r0,r1,h,_,_⟩<;>rw[h]<;>simp
 ·have hS:YrS y:=by
   rcases hy with h|⟨r0,r1,h,h0,h1⟩
   ·rw[h] at hm;cases hm
   ·rw[h] at hm;rcases dQ.1 hm with rfl|hm
    ·exact h0
    ·rcases dQ.1 hm with rfl|hm
     ·exact h1
     ·cases hm
  exact⟨by have:=hS.mo;constructor<;>omega,by have:=hS.wk;constructor<;>omega,by have:=hS.wd;constructor<;>omega,by have:=hS.mi;constructor<;>omega,by have:=hS.of;constructor<;>omega⟩
theorem amk (z:Zn)(h:ZnM z):(ac2 z).length<=100:=by
 have g1:=MJ (le · 1) z.cal.JQ 1 z.cal.JQ.length (fun _=>J4 _ _);have g2:=MJ lrB z.cal.rules 5 z.cal.rules.length YW;have g3:=MJ trE z.trans 10 z.trans.length acL;have g4:=MJ yrE z.J6 7 z.J6.length acY;rw[jB] at g1 g2 g3 g4;have h1:=h.cal.mo;have h2:=h.cal.ru;have h3:=h.trl;have h4:z.J6.length<=2:=by rcases h.yr with e|⟨r0,r1,e,_,_⟩<;>rw[e]<;>simp
 simp only[ac2,UH,KN,J4];omega
structure YP (t:Tb):Prop where
 J5:0<=t.J5/\t.J5<=15
 version:1<=t.version/\t.version<=64
 JU:0<=t.JU/\t.JU<t.version
 first:t.version=1->t.prev=KA
 num:t.JX.length<=3
 JX:∀e∈t.JX,arw e.z
 names:∀k e,t.JX[k]? =some e->e.name=QG k
theorem VQ (w:ae)(r:ag au)(h:r.length=32):(Op.equalIn 10000 24 (.agg (r.map Extern.Stop.cell).toArray) (.agg (r.map Extern.Stop.cell).toArray)).run Tryz.prog w=.ok true w:=by
 rw[kQ w 9998 24 5 32 aK gW (fun w=>Y0 w) r r h h,beq_self_eq_true]
attribute [local go_sem] NT NU OH LD
structure TVr (w:ae)(cs:ax ah)(A:aj Addr)(zs:ag L9)(W:ae):Prop where
 row:Row W w.heap.size cs
 mem:O3 W w.heap.size A zs
 up:ai w.heap.size w W
theorem TVr.below {w W W':ae}{cs:ax ah}{A:aj Addr}{zs:ag L9}(h:TVr w cs A zs W)(hb:ai W.heap.size W W'):TVr w cs A zs W':=
 ⟨h.row.keep hb,h.mem.keep (hb.mono h.up.size),JL h.up hb⟩
end
section
structure TV (w:ae)(cs:ax ah)(A:aj Addr)(zs:ag L9)(W:ae):Prop where
 row:Row W w.heap.size cs
 mem:Zp W w.heap.size A zs
 up:ai w.heap.size w W
theorem TV.below {w W W':ae}{cs:ax ah}{A:aj Addr}{zs:ag L9}(h:TV w cs A zs W)(hb:ai W.heap.size W W'):TV w cs A zs W':=
 ⟨h.row.keep hb,h.mem.keep (hb.mono h.up.size),JL h.up hb⟩
def NG (zs:ag L9):Nat->ByteArray
 |0=>⟨#[]⟩
 |k+1=>(zs[k]?.map (·.e.name)).getD ⟨#[]⟩
def OV (zs:ag L9):Prop:=∀k x,zs[k]? =some x->Op.bytesLess x.e.name.toList (NG zs k).toList=false/\(x.e.name.toList==(NG zs k).toList)=false
attribute [local go_sem] NT NU OH LD
end
section
structure TbG (t:Tb):Prop where
 J5:0<=t.J5/\t.J5<16
 version:1<=t.version/\t.version<=64
 JU:0<=t.JU/\t.JU<t.version
 prev:t.prev.length=32
 Ku:t.Ku.length=32
 first:t.version=1->t.prev=KA
 num:t.JX.length<=128
 good:∀e∈t.JX,ZnM e.z/\VH e.z=0
 short:∀e∈t.JX,e.name.size<=32
theorem O3.at {w:ae}{B:Nat}{A:aj Addr}{zs:ag L9}{k:Nat}{x:L9}(h:O3 w B A zs)(hx:zs[k]? =some x):∃b off,A=some ⟨b,off,none⟩/\b<B/\w.rangeAt b (off+k*9) x.cells.toList:=by
 have hk:=(MF.1 hx).1;obtain⟨b,off,e,hb,hc⟩:=h.row.there (by rw[MB];omega);exact⟨b,off,e,hb,JS.elem (s:=9) (f:=fun x:L9=>x.cells.toList) (fun _ _=>rfl) hc k x hx⟩
attribute [local go_sem] NT NU OH LD
structure TG (w:ae)(cs:ax ah)(A:aj Addr)(zs:ag L9)(W:ae):Prop where
 row:Row W w.heap.size cs
 mem:O3 W w.heap.size A zs
 up:ai w.heap.size w W
theorem TG.below {w W W':ae}{cs:ax ah}{A:aj Addr}{zs:ag L9}(h:TG w cs A zs W)(hb:ai W.heap.size W W'):TG w cs A zs W':=
 ⟨h.row.keep hb,h.mem.keep (hb.mono h.up.size),JL h.up hb⟩
end
section
attribute [local go_sem] NT NU OH LD
def QM (x last:ByteArray):Bool:=Op.bytesLess x.toList last.toList||(x.toList==last.toList)
def Mc:ByteArray->ag Ze->Int
 |_,[]=>0
 |last,e::es=>if 32<e.name.size\/QM e.name last=true then 1 else if VH e.z=0 then Mc e.name es else VH e.z
theorem Si (last:ByteArray)(e:Ze)(es:ag Ze):Mc last (e::es)=if 32<e.name.size\/QM e.name last=true then 1 else if VH e.z=0 then Mc e.name es else VH e.z:=rfl
def tv1 (t:Tb):Bool:=decide (t.J5<0\/16<=t.J5\/t.version<1\/64<t.version)
def tv2 (t:Tb):Bool:=decide (t.JU<0\/t.version<=t.JU\/(t.version=1/\(t.prev==KA)=false))
def O0 (t:Tb):Int:=if tv1 t=true then 1 else if tv2 t=true then 1 else if 128<t.JX.length then 2 else Mc ⟨#[]⟩ t.JX
theorem afX (xs:ag au)(h:xs.length=32):∀W,(binOp .neq 24 (.agg (JO xs).toArray) (.agg (JO KA).toArray)).run Tryz.prog W=.ok (.bool (!(xs==KA))) W:=fun W=>by
 unfold JO;rw[nM,kQ W 9998 24 5 32 aK gW (fun w=>Y0 w) xs KA h rfl];simp[Result.andThen]
theorem Vl (t:Tb)(A:aj Addr)(n c:Nat)(zs:ag L9)(w:ae)(hpl:t.prev.length=32)(hz:t.JX=zs.map (·.e))(hn:zs.length=n)(hA:O3 w w.heap.size A zs):
  Calls Tryz.prog 29 #[.agg (JK t (.slice A n c))] w (Gives (I (O0 t)) w):=by
 have HR0:=JJ (Row.new w (JK t (.slice A n c)) 26);have HB0:=JJ (JM w (.cells (JK t (.slice A n c)) 26));have HZ:=JJ hz;have XE:Hid (TG w (JK t (.slice A n c)) A zs (w.alloc (.cells (JK t (.slice A n c)) 26))):=JJ ⟨HR0.out,hA.keep HB0.out,HB0.out⟩;have HNN:=JJ hn;have HNZ:Hid (t.JX.length=n):=JJ (by rw[hz,aI,hn]);have h32:(Tryz.prog.info? 24).map (·.size)=some (JO t.prev).length:=by rw[show(JO t.prev).length=32 by simp[JO,hpl]];kernel_rfl
 have HP:=JJ (Tj t (.slice A n c) XE.out.row);have H32:=JJ h32;have hneq:=afX t.prev hpl;rw[Xw] at hneq;obtain⟨pz,hpz⟩:∃b,(t.prev==KA)=b:=⟨_,rfl⟩;rw[hpz] at hneq;have azf:=JJ hneq;have HPZ:=JJ hpz;obtain⟨b1,hb1⟩:∃b,tv1 t=b:=⟨_,rfl⟩;obtain⟨b2,hb2⟩:∃b,tv2 t=b:=⟨_,rfl⟩;have HB1:=JJ hb1;have HB2:=JJ hb2;obtain⟨ti,hti⟩:∃x,t.J5=x:=⟨_,rfl⟩;obtain⟨tv,htv⟩:∃x,t.version=x:=⟨_,rfl⟩;obtain⟨tw,htw⟩:∃x,t.JU=x:=⟨_,rfl⟩;have HT1:Hid (tv1 t=decide (ti<0\/16<=ti\/tv<1\/64<tv)):=JJ (by unfold tv1;rw[hti,htv]);have HT2:Hid (tv2 t=decide (tw<0\/tv<=tw\/(tv=1/\pz=false))):=JJ (by unfold tv2;rw[htw,htv,hpz]);have HK:Hid (∀W,Row W w.heap.size (JK t (.slice A n c))->W.cell? ⟨w.heap.size,0,none⟩=some (I ti)/\W.cell? ⟨w.heap.size,1,none⟩=some (I tv)/\W.cell? ⟨w.heap.size,2,none⟩=some (I tw)/\W.cell? ⟨w.heap.size,3,none⟩=some (.slice A n c)):=JJ (fun W hW=>⟨(hW.2 0).trans (by rw[NT,hti]),(hW.2 1).trans (by rw[NU,htv]),(hW.2 2).trans (by rw[OH,htw]),(hW.2 3).trans (LD _ _)⟩);clear hz hA hn HR0 HB0 h32 hneq hpz hb1 hb2 hti htv htw hpl;have QN:Hid (O0 t=if b1=true then 1 else if b2=true then 1 else if 128<n then 2 else Mc ⟨#[]⟩ t.JX):=JJ (by unfold O0;rw[HB1.out,HB2.out,HNZ.out]);obtain⟨rv,U1⟩:∃v,O0 t=v:=⟨_,rfl⟩;rw[U1];rw[U1] at QN;clear U1;go_enter Tryz.func29,Tryz.ntmps29;go_upto_region 1 with fail;generalize w.alloc (.cells (JK t (.slice A n c)) 26)=W0 at XE HP⊢;try simp only[Act.put]
 (try simp only[dB,iy,iQ])
 go_cut [7] from 8 to 25 (fun p wx=>p=.bool b1/\wx=W0)
 case first=>
  obtain⟨k0,k1,k2,k3⟩:=HK.out W0 XE.out.row;clear k2 k3;by_cases m0:ti<0
  ·have HT:Hid (b1=true):=JJ (by
    rw[<-HB1.out,HT1.out];exact aZ (by omega))
   go_wp2_with fail;go_meet;exact⟨by rw[HT.out],rfl⟩
  ·by_cases m1:(16:Int)<=ti
   ·have HT:Hid (b1=true):=JJ (by
     rw[<-HB1.out,HT1.out];exact aZ (by omega))
    go_wp2_with fail;go_meet;exact⟨by rw[HT.out],rfl⟩
   ·by_cases m2:tv<1
    ·have HT:Hid (b1=true):=JJ (by
      rw[<-HB1.out,HT1.out];exact aZ (by omega))
     go_wp2_with fail;go_meet;exact⟨by rw[HT.out],rfl⟩
    ·by_cases m3:(64:Int)<tv
     ·have HT:Hid (b1=true):=JJ (by
       rw[<-HB1.out,HT1.out];exact aZ (by omega))
      go_wp2_with fail;go_meet;exact⟨by rw[HT.out],rfl⟩
     ·have HT:Hid (b1=false):=JJ (by
       rw[<-HB1.out,HT1.out];exact bT (by omega))
      go_wp2_with fail;go_meet;exact⟨by rw[HT.out],rfl⟩
 case rest=>
  obtain⟨rfl,rfl⟩:=hcut;cases b1 with
  |true=>
   go_wp2_with fail;go_ret;have e9:=QN.out;simp only[if_true] at e9;subst e9;exact⟨rfl,XE.out.up⟩
  |false=>
   go_upto_region 3 with fail
   go_cut [26] from 27 to 47 (fun p wx=>p=.bool b2/\wx=wc)
   case first=>
    obtain⟨k0,k1,k2,k3⟩:=HK.out wc XE.out.row;clear k0 k3;by_cases m0:tw<0
    ·have HT:Hid (b2=true):=JJ (by
      rw[<-HB2.out,HT2.out];exact aZ (by omega))
     go_wp2_with fail;go_meet;exact⟨by rw[HT.out],rfl⟩
    ·by_cases m1:tv<=tw
     ·have HT:Hid (b2=true):=JJ (by
       rw[<-HB2.out,HT2.out];exact aZ (by omega))
      go_wp2_with fail;go_meet;exact⟨by rw[HT.out],rfl⟩
     ·by_cases m2:tv=1
      ·have hneq:=azf.out;have m3:(tv==1)=true:=by simp[m2]
       have m4:¬(1:Int)<=tw:=by omega
       cases pz with
       |true=>
        have HT:Hid (b2=false):=JJ (by
         rw[<-HB2.out,HT2.out];exact bT (fun h=>by rcases h with h|h|⟨_,h⟩<;>first|omega|cases h))
        go_wp2_with((with_reducible refine Nb 24 ?_);refine Kt rfl _ _ rfl w.heap.size 4 rfl (JO t.prev) HP.out _ aK rfl H32.out ?_);go_meet;exact⟨by rw[HT.out],rfl⟩
       |false=>
        have HT:Hid (b2=true):=JJ (by
         rw[<-HB2.out,HT2.out];exact aZ (.inr (.inr ⟨m2,rfl⟩)))
        go_wp2_with((with_reducible refine Nb 24 ?_);refine Kt rfl _ _ rfl w.heap.size 4 rfl (JO t.prev) HP.out _ aK rfl H32.out ?_);go_meet;exact⟨by rw[HT.out],rfl⟩
      ·have m3:(tv==1)=false:=by simp[m2]
       have HT:Hid (b2=false):=JJ (by
        rw[<-HB2.out,HT2.out];exact bT (by omega))
       go_wp2_with fail;go_meet;exact⟨by rw[HT.out],rfl⟩
   case rest=>
    obtain⟨rfl,rfl⟩:=hcut;cases b2 with
    |true=>
     go_wp2_with fail;go_ret;have e9:=QN.out;simp only[sG,if_true,kC] at e9;subst e9;exact⟨rfl,XE.out.up⟩
    |false=>
     replace QN:=QN.out;simp only[sG,kC] at QN;replace QN:=JJ QN;obtain⟨k0,k1,k2,k3⟩:=HK.out wc XE.out.row;clear k0 k1 k2;by_cases q7:128<n
     ·have q8:(128:Int)<(n:Int):=by omega
      go_wp2_with fail;go_ret;have e9:=QN.out;rw[bD q7] at e9;subst e9;exact⟨rfl,XE.out.up⟩
     ·have q8:¬(128:Int)<(n:Int):=by omega
      replace QN:=QN.out;rw[bP q7] at QN;replace QN:=JJ QN;go_wp2_with fail;clear k3
      go_loopw [3,56] (fun l i wr=>∃k:Nat,k<=n/\l=.string (NG zs k)/\i=I k/\Mc ⟨#[]⟩ t.JX=Mc (NG zs k) (t.JX.drop k)/\TG w (JK t (.slice A n c)) A zs wr) (fun _ i _=>n - (intOf i).toNat)
      case atStart=>exact⟨0,aG _,rfl,rfl,rfl,XE.out⟩
      case round=>
       obtain⟨k,hk,rfl,rfl,hen,htv⟩:=hrel;have HV:=JJ htv;have HEN:=JJ hen;have k3:=(HK.out wr htv.row).2.2.2;have hlt1:=htv.row.1;clear htv XE hen;by_cases hlt:k<n
       ·have hkz:k<zs.length:=by rw[HNN.out];exact hlt
        obtain⟨x,hx⟩:∃x,zs[k]? =some x:=⟨_,KL hkz⟩;obtain⟨b,off,rfl,hbl,hr⟩:=O3.at HV.out.mem hx;have hi:=HV.out.mem.each x (LQ hx);have i0:(0:Int)<=(k:Int):=by omega
        have i1:(k:Int)<(n:Int):=by omega
        have c0:wr.cell? ⟨b,off+k*9,none⟩=some (.string x.e.name):=hr 0 _ rfl;have c1:wr.cell? ⟨b,off+k*9+1,none⟩=some (I x.e.z.cal.KI):=hr 1 _ rfl;have c2:wr.cell? ⟨b,off+k*9+2,none⟩=some (.slice x.s.A x.e.z.cal.JQ.length x.s.a):=hr 2 _ rfl;have c3:wr.cell? ⟨b,off+k*9+3,none⟩=some (I x.e.z.cal.Lm):=hr 3 _ rfl;have c4:wr.cell? ⟨b,off+k*9+4,none⟩=some (.slice x.s.B x.e.z.cal.rules.length x.s.b):=hr 4 _ rfl;have c5:wr.cell? ⟨b,off+k*9+5,none⟩=some (I x.e.z.start):=hr 5 _ rfl;have c6:wr.cell? ⟨b,off+k*9+6,none⟩=some (.slice x.s.C x.e.z.trans.length x.s.c):=hr 6 _ rfl;have c7:wr.cell? ⟨b,off+k*9+7,none⟩=some (I x.e.z.hor):=hr 7 _ rfl;have c8:wr.cell? ⟨b,off+k*9+8,none⟩=some (.slice x.s.D x.e.z.J6.length x.s.d):=hr 8 _ rfl;have HX:=JJ hx;have HI:=JJ hi;obtain⟨L,hL⟩:∃L,NG zs k=L:=⟨_,rfl⟩;have HZV:Hid (∀w',ai wr.heap.size wr w'->Calls Tryz.prog 50 #[.agg #[I x.e.z.cal.KI,.slice x.s.A x.e.z.cal.JQ.length x.s.a,I x.e.z.cal.Lm,.slice x.s.B x.e.z.cal.rules.length x.s.b,I x.e.z.start,.slice x.s.C x.e.z.trans.length x.s.c,I x.e.z.hor,.slice x.s.D x.e.z.J6.length x.s.d]] w' (Gives (I (VH x.e.z)) w')):=JJ fun w' hb=>
         aa9 x.e.z x.s w' (((HI.out.more HV.out.up.size).keep hb).more hb.size)
        have hdr:t.JX.drop k=x.e::t.JX.drop (k+1):=by
         have h1:t.JX[k]? =some x.e:=by rw[HZ.out,aJ,hx];rfl
         have h2:k<t.JX.length:=(MF.1 h1).1;rw[eF h2];rw[KL h2] at h1;injection h1 with h1;rw[h1]
        rw[hL] at HEN⊢;obtain⟨zv,hzv⟩:∃v,VH x.e.z=v:=⟨_,rfl⟩;have WU:Hid (Mc ⟨#[]⟩ t.JX=if 32<x.e.name.size\/QM x.e.name L=true then 1 else if zv=0 then Mc x.e.name (t.JX.drop (k+1)) else zv):=JJ (by rw[HEN.out,hdr,Si,hzv]);rw[hzv] at HZV;have hlb:b<wr.heap.size:=by omega
        have ajE:=JJ (JM wr (.cells x.cells 76));have YL:Hid (NG zs (k+1)=x.e.name):=JJ (by show(zs[k]?.map (·.e.name)).getD ⟨#[]⟩=_;rw[hx];rfl);clear hx hr hi hkz hL hdr hzv HEN;by_cases q9:32<x.e.name.size
        ·have q10:(32:Int)<(x.e.name.size:Int):=by omega
         have HR:Hid (Mc ⟨#[]⟩ t.JX=1):=JJ (by rw[WU.out,bD (.inl q9)]);go_wp2_with fail;go_ret;have e9:=QN.out;rw[HR.out] at e9;subst e9;exact⟨rfl,JL HV.out.up ajE.out⟩
        ·have q10:¬(32:Int)<(x.e.name.size:Int):=by omega
         obtain⟨s1,hs1⟩:∃b,Op.bytesLess x.e.name.toList L.toList=b:=⟨_,rfl⟩;obtain⟨s2,hs2⟩:∃b,(x.e.name.toList==L.toList)=b:=⟨_,rfl⟩;have HNB:Hid (QM x.e.name L=(s1||s2)):=JJ (by unfold QM;rw[hs1,hs2]);cases s1 with
         |true=>
          have HR:Hid (Mc ⟨#[]⟩ t.JX=1):=JJ (by rw[WU.out,bD (.inr (by rw[HNB.out,Bool.true_or]))]);go_wp2_with fail;go_ret;have e9:=QN.out;rw[HR.out] at e9;subst e9;exact⟨rfl,JL HV.out.up ajE.out⟩
         |false=>
         cases s2 with
         |true=>
          have HR:Hid (Mc ⟨#[]⟩ t.JX=1):=JJ (by rw[WU.out,bD (.inr (by rw[HNB.out];rfl))]);go_wp2_with fail;go_ret;have e9:=QN.out;rw[HR.out] at e9;subst e9;exact⟨rfl,JL HV.out.up ajE.out⟩
         |false=>
          have HR:Hid (Mc ⟨#[]⟩ t.JX=if zv=0 then Mc x.e.name (t.JX.drop (k+1)) else zv):=JJ (by rw[WU.out,bP (by rw[HNB.out];rintro(h|h);exact q9 h;cases h)]);go_wp2_with fail;refine(HZV.out _ ajE.out).mono ?_;rintro e w2 ⟨rfl,hb2⟩;have Qd:=JJ (HV.out.below (JL ajE.out hb2));have d0:w2.cell? ⟨wr.heap.size,0,none⟩=some (.string x.e.name):=((Row.new wr x.cells 76).keep hb2).2 0;clear hb2 c0 c1 c2 c3 c4 c5 c6 c7 c8 k3 HZV;by_cases q11:zv=0
          ·have HR2:Hid (Mc ⟨#[]⟩ t.JX=Mc x.e.name (t.JX.drop (k+1))):=JJ (by rw[HR.out,bD q11]);subst q11;go_wp2_with fail;go_roundw
           case rel=>exact⟨k+1,by omega,by rw[YL.out],by go_num,by rw[YL.out];exact HR2.out,Qd.out⟩
           case measure=>simp[intOf];omega
          ·have HR2:Hid (Mc ⟨#[]⟩ t.JX=zv):=JJ (by rw[HR.out,bP q11]);have q12:(zv !=0)=true:=by simp[q11]
           go_wp2_with fail;go_ret;have e9:=QN.out;rw[HR2.out] at e9;subst e9;exact⟨rfl,Qd.out.up⟩
       ·have hkn:k=n:=by omega
        have HR:Hid (Mc ⟨#[]⟩ t.JX=0):=JJ (by rw[HEN.out,dW (by rw[HNZ.out];omega)];rfl);have i1:¬(k:Int)<(n:Int):=by omega
        clear hkn;go_wp2_with fail;go_ret;have e9:=QN.out;rw[HR.out] at e9;subst e9;exact⟨rfl,HV.out.up⟩
end
section
attribute [local go_sem] O8 Pj O9 Pm QY QZ O6 Pg O7 Ph
theorem NJ.drew {w:ae}{g:Nat}{v:ah}{bs:ag au}(h:NJ w g v bs):NJ w.drew g v bs:=⟨h.1,h.2.drew⟩
theorem Kw {g:Nat}{v v':ah}{w w':ae}(h:Oj g v w.drew v' w'):Oj g v w v' w':=⟨h.os,h.tape,h.output,h.size,h.block,h.own⟩
theorem Lc {w w':ae}{g:Nat}{v v':ah}{bs:ag au}(h:NJ w g v bs)(hk:Oj g v w v' w'):ai g w w':=
 ⟨hk.os,hk.tape,hk.output,hk.size,fun k hb=>hk.block k (by have:=h.lt;omega) (by omega) (MV h.2 k (by omega))⟩
theorem agt (w:ae)(g:Nat)(p:Addr)(v:ah)(bs:ag au)(n:Int)(hf:fits n)(hl:bs.length<=1000000000)(hst:NJ w g v bs)(hp:w.cell? p=some (I n)):
  Calls Tryz.prog 104 #[.iface 91 (pt g),.pointer (some p)] w (OD w g v (bs++le n 1)):=by
 have HC:=JJ (Lp w g p v bs n 1 hf.1 hf.2 (by omega) (by omega) hst.lt hst hp);clear hst hp;go_enter Tryz.func104,Tryz.ntmps104;go_wp2_with fail;refine HC.out.mono ?_;rintro e w1 ⟨rfl,h⟩;have H:=JJ h;clear h HC;go_wp2_with fail
 go_end0
 exact⟨rfl,H.out⟩
def av8 (w:ae)(g:Nat)(v:ah)(bs:ag au)(n:Nat)(zs:ag Int)(i:ah)(wr:ae):Prop:=
 ∃k:Nat,k<=n/\i=.int .i64 k/\∃v',NJ wr g v' (bs++(le n 1++Ls (zs.take k)))/\Oj g v w v' wr
theorem acS (w:ae)(g lb lo:Nat)(A:aj Addr)(n c:Nat)(zs:ag Int)(v:ah)(bs:ag au)(hn:zs.length=n)(hn2:n<=100000)(hp:w.cell? ⟨lb,lo,none⟩=some (.slice A n c))(hlg:lb<g)(hA:OT w g A zs)(hfit:∀z∈zs,fits z)
  (hl:bs.length<=100000000)(hst:NJ w g v bs):
  Calls Tryz.prog 103 #[.iface 91 (pt g),.pointer (some ⟨lb,lo,none⟩),I 1,.func (.func 104) #[] #[]] w (OD w g v (bs++(le n 1++Ls zs))):=by
 have HC:=JJ (Pv w.drew g v bs n 1 (by omega) (by omega) (by omega) (by omega) hst.drew);have HST:=JJ hst;have HN:=JJ hn;have HF:=JJ hfit;have HA:=JJ hA;have HP:=JJ hp;have hgl:=hst.lt;clear hst hn hfit hA;go_enter Tryz.func103,Tryz.ntmps103;go_wp2_with fail;go_still_tail 9,(by kernel_rfl);go_wp2_with fail;refine HC.out.mono ?_;rintro e w1 ⟨rfl,v1,hs1,hk1⟩;have PT:=JJ hs1;have Pz:=JJ (Kw hk1);clear hs1 hk1 HC hp;go_wp2_with fail
 go_loopw [22] (fun i wr=>av8 w g v bs n zs i wr) (fun i _=>n - (intOf i).toNat)
 case atStart=>exact⟨0,aG _,rfl,v1,by simpa[Ls] using PT.out,Pz.out⟩
 case round=>
  obtain⟨k,hk,rfl,v2,hs2,hk2⟩:=hrel;have hb2:=Lc HST.out hk2;have HB2:=JJ hb2;have HS2:=JJ hs2;have OZ:=JJ hk2;have hp2:wr.cell? ⟨lb,lo,none⟩=some (.slice A n c):=(hb2.cell (p:=⟨lb,lo,none⟩) hlg).trans HP.out;clear hs2 hk2 hb2 PT Pz;by_cases hlt:k<n
  ·have hkz:k<zs.length:=by rw[HN.out];exact hlt
   obtain⟨b,off,rfl,hbg,hc0⟩:∃b off,A=some ⟨b,off,none⟩/\b<g/\∀j,j<zs.length->w.cell? ⟨b,off+j,none⟩=some (I (zs[j]?.getD 0)):=by
    rcases HA.out with h|h
    ·omega
    ·exact h
   obtain⟨z,hz⟩:∃z,zs[k]? =some z:=⟨_,KL hkz⟩;have hcz:wr.cell? ⟨b,off+k,none⟩=some (I z):=(HB2.out.cell (p:=⟨b,off+k,none⟩) hbg).trans (by rw[hc0 k hkz,hz];rfl);have hlen:(bs++(le (n:Int) 1++Ls (zs.take k))).length<=1000000000:=by
    rw[KN,KN,J4,QO,bn];omega
   have HM:=JJ (agt wr g ⟨b,off+k,none⟩ v2 _ z (HF.out z (LQ hz)) hlen HS2.out hcz);have HZ:=JJ hz;have i0:(0:Int)<=(k:Int):=by omega
   have i1:(k:Int)<(n:Int):=by omega
   have i2:((k:Int)==(n:Int))=false:=by simp;omega
   clear hkz hc0 hz hlen hcz;go_wp2_with fail;refine HM.out.mono ?_;rintro e w3 ⟨rfl,v3,hs3,hk3⟩;have Qi:=JJ hs3;have SE:=JJ (OZ.out.trans hk3);clear hs3 hk3 hp2;go_wp2_with fail;go_roundw
   case rel=>exact⟨k+1,by omega,by go_num,v3,by rw[Oq zs k z HZ.out,ZA,<-aH (le _ _),<-aH];exact Qi.out,SE.out⟩
   case measure=>simp[intOf];omega
  ·have hkn:k=n:=by omega
   have WY:=JJ hkn;clear hkn;go_wp2_with fail
   go_end0
   exact⟨rfl,v2,by have h:=HS2.out;rwa [WY.out,aU (by rw[HN.out];exact ay _)] at h,OZ.out⟩
end
section
attribute [local go_sem] O8 Pj O9 Pm QY QZ O6 Pg O7 Ph ak9 alg
def VW (b:Bool):Int:=if b=true then 1 else 0
def Qw (x:Lr):ag au:=le x.every 2++(le x.rest 2++le (VW x.yes) 1)
def PO (x:Tr):ag au:=le x.at_ 8++le x.off 2
def QD (x:Yr):ag au:=le x.month 1++(le x.La 1++(le x.Lh 1++(le x.minute 2++le x.off 2)))
def Qp (z:Int):Prop:= -9223372036854775808<=z/\z<=9223372036854775807
def Yd (x:Lr):Prop:=Qp x.every/\Qp x.rest
def Yi (x:Tr):Prop:=Qp x.at_/\Qp x.off
def Tq (x:Yr):Prop:=Qp x.month/\Qp x.La/\Qp x.Lh/\Qp x.minute/\Qp x.off
theorem Yc (x:Lr):(Qw x).length=5:=by simp[Qw,J4]
theorem Vq (x:Tr):(PO x).length=10:=by simp[PO,J4]
theorem Yu (x:Yr):(QD x).length=7:=by simp[QD,J4]
theorem Wl {α:Type}(f:α->ag au)(L:Nat)(h:∀x,(f x).length=L)(xs:ag α):(xs.flatMap f).length=xs.length*L:=by
 induction xs with
 |nil=>simp
 |cons x xs ih=>rw[dI,KN,ih,h,bG,kJ,kP]
theorem aiY (w:ae)(g:Nat)(p:Addr)(v:ah)(bs:ag au)(b:Bool)(hl:bs.length<=1000000000)(hst:NJ w g v bs)(hp:w.cell? p=some (.bool b)):
  Calls Tryz.prog 175 #[pt g,.pointer (some p)] w (OD w g v (bs++le (VW b) 1)):=by
 obtain⟨h1,h2⟩:=hst.grow (JM w (.cells #[I (VW b)] 3));have HG2:=JJ h2;have hp1:(w.alloc (.cells #[I 0] 3)).cell? p=some (.bool b):=(World.cell?_alloc_some w p _ (by rw[hp];rfl)).trans hp;have HC:=JJ (Lp (w.alloc (.cells #[I (VW b)] 3)) g ⟨w.heap.size,0,none⟩ v bs (VW b) 1 (by unfold VW;split<;>omega) (by unfold VW;split<;>omega) (by omega) (by omega) h1.lt h1 ((Row.new w #[I (VW b)] 3).2 0));clear hst h1 h2;cases b with
 |false=>
  rw[show VW false=0 from rfl] at HC HG2⊢;go_enter Tryz.func175,Tryz.ntmps175;go_wp2_with fail;refine HC.out.mono ?_;rintro e w1 ⟨rfl,v1,hs1,hk1⟩;have PT:=JJ hs1;have Pz:=JJ (HG2.out.trans hk1);clear hs1 hk1 HC HG2;go_wp2_with fail
  go_end0
  exact⟨rfl,v1,PT.out,Pz.out⟩
 |true=>
  rw[show VW true=1 from rfl] at HC HG2⊢;go_enter Tryz.func175,Tryz.ntmps175;go_wp2_with fail;refine HC.out.mono ?_;rintro e w1 ⟨rfl,v1,hs1,hk1⟩;have PT:=JJ hs1;have Pz:=JJ (HG2.out.trans hk1);clear hs1 hk1 HC HG2;go_wp2_with fail
  go_end0
  exact⟨rfl,v1,PT.out,Pz.out⟩
theorem aja (w:ae)(g xb xo:Nat)(v:ah)(bs:ag au)(x:Lr)(hr:w.rangeAt xb xo x.cells)(hxg:xb<g)(hf:Yd x)(hl:bs.length<=900000000)(hst:NJ w g v bs):
  Calls Tryz.prog 106 #[.iface 91 (pt g),.pointer (some ⟨xb,xo,none⟩)] w (OD w g v (bs++Qw x)):=by
 have hgl:=hst.lt;have HST:=JJ hst;have HF:=JJ hf;have c0:w.cell? ⟨xb,xo,none⟩=some (I x.every):=hr 0 _ rfl;have c1:w.cell? ⟨xb,xo+1,none⟩=some (I x.rest):=hr 1 _ rfl;have c2:w.cell? ⟨xb,xo+2,none⟩=some (.bool x.yes):=hr 2 _ rfl;have HB0:Hid (ai g w w):=JJ (aW _ _);have Uc:=JJ hst;have XC:Hid (Oj g v w v w):=JJ (Oj.refl _ _ _);clear hr hf hst;have hc0:w.drew.cell? ⟨xb,xo,none⟩=some (I x.every):=(HB0.out.cell (p:=⟨xb,xo,none⟩) hxg).trans c0;have hlen0:(bs).length<=900000100:=by
  try simp only[KN,J4]
  omega
 have HC0:=JJ (Lp w.drew g ⟨xb,xo,none⟩ v (bs) x.every 2 (by have:=HF.out;unfold Yd Qp at this;omega) (by have:=HF.out;unfold Yd Qp at this;omega) (by omega) (by omega) Uc.out.drew.lt Uc.out.drew hc0);clear hc0;go_enter Tryz.func106,Tryz.ntmps106;go_wp2_with fail;go_still_tail 7,(by kernel_rfl);go_wp2_with fail;refine HC0.out.mono ?_;rintro e w1 ⟨rfl,v1,hs1,hk1⟩;have HB1:=JJ (HB0.out.trans (Lc Uc.out (Kw hk1)));have PT:=JJ hs1;have Pz:=JJ (XC.out.trans (Kw hk1));clear hs1 hk1 HC0 HB0 Uc XC hlen0;have hc1:w1.drew.cell? ⟨xb,xo+1,none⟩=some (I x.rest):=(HB1.out.cell (p:=⟨xb,xo+1,none⟩) hxg).trans c1;have hlen1:(bs++le (x.every) 2).length<=900000100:=by
  try simp only[KN,J4]
  omega
 have Rj:=JJ (Lp w1.drew g ⟨xb,xo+1,none⟩ v1 (bs++le (x.every) 2) x.rest 2 (by have:=HF.out;unfold Yd Qp at this;omega) (by have:=HF.out;unfold Yd Qp at this;omega) (by omega) (by omega) PT.out.drew.lt PT.out.drew hc1);clear hc1;go_wp2_with fail;go_still_tail 7,(by kernel_rfl);go_wp2_with fail;refine Rj.out.mono ?_;rintro e w2 ⟨rfl,v2,hs2,hk2⟩;have HB2:=JJ (HB1.out.trans (Lc PT.out (Kw hk2)));have HS2:=JJ hs2;have OZ:=JJ (Pz.out.trans (Kw hk2));clear hs2 hk2 Rj HB1 PT Pz hlen1;have hc2:w2.drew.cell? ⟨xb,xo+2,none⟩=some (.bool x.yes):=(HB2.out.cell (p:=⟨xb,xo+2,none⟩) hxg).trans c2;have hlen2:(bs++le (x.every) 2++le (x.rest) 2).length<=900000100:=by
  try simp only[KN,J4]
  omega
 have HC2:=JJ (aiY w2.drew g ⟨xb,xo+2,none⟩ v2 (bs++le (x.every) 2++le (x.rest) 2) x.yes (by omega) HS2.out.drew hc2);clear hc2;go_wp2_with fail;go_still_tail 7,(by kernel_rfl);go_wp2_with fail;refine HC2.out.mono ?_;rintro e w3 ⟨rfl,v3,hs3,hk3⟩;have HB3:=JJ (HB2.out.trans (Lc HS2.out (Kw hk3)));have Qi:=JJ hs3;have SE:=JJ (OZ.out.trans (Kw hk3));clear hs3 hk3 HC2 HB2 HS2 OZ hlen2;go_wp2_with fail
 go_end0
 exact⟨rfl,v3,by unfold Qw;have h:=Qi.out;simpa[List.append_assoc] using h,SE.out⟩
theorem agv (w:ae)(g xb xo:Nat)(v:ah)(bs:ag au)(x:Tr)(hr:w.rangeAt xb xo x.cells)(hxg:xb<g)(hf:Yi x)(hl:bs.length<=900000000)(hst:NJ w g v bs):
  Calls Tryz.prog 85 #[.iface 91 (pt g),.pointer (some ⟨xb,xo,none⟩)] w (OD w g v (bs++PO x)):=by
 have hgl:=hst.lt;have HST:=JJ hst;have HF:=JJ hf;have c0:w.cell? ⟨xb,xo,none⟩=some (I x.at_):=hr 0 _ rfl;have c1:w.cell? ⟨xb,xo+1,none⟩=some (I x.off):=hr 1 _ rfl;have HB0:Hid (ai g w w):=JJ (aW _ _);have Uc:=JJ hst;have XC:Hid (Oj g v w v w):=JJ (Oj.refl _ _ _);clear hr hf hst;have hc0:w.drew.cell? ⟨xb,xo,none⟩=some (I x.at_):=(HB0.out.cell (p:=⟨xb,xo,none⟩) hxg).trans c0;have hlen0:(bs).length<=900000100:=by
  try simp only[KN,J4]
  omega
 have HC0:=JJ (Lp w.drew g ⟨xb,xo,none⟩ v (bs) x.at_ 8 (by have:=HF.out;unfold Yi Qp at this;omega) (by have:=HF.out;unfold Yi Qp at this;omega) (by omega) (by omega) Uc.out.drew.lt Uc.out.drew hc0);clear hc0;go_enter Tryz.func85,Tryz.ntmps85;go_wp2_with fail;go_still_tail 7,(by kernel_rfl);go_wp2_with fail;refine HC0.out.mono ?_;rintro e w1 ⟨rfl,v1,hs1,hk1⟩;have HB1:=JJ (HB0.out.trans (Lc Uc.out (Kw hk1)));have PT:=JJ hs1;have Pz:=JJ (XC.out.trans (Kw hk1));clear hs1 hk1 HC0 HB0 Uc XC hlen0;have hc1:w1.drew.cell? ⟨xb,xo+1,none⟩=some (I x.off):=(HB1.out.cell (p:=⟨xb,xo+1,none⟩) hxg).trans c1;have hlen1:(bs++le (x.at_) 8).length<=900000100:=by
  try simp only[KN,J4]
  omega
 have Rj:=JJ (Vp w1.drew g ⟨xb,xo+1,none⟩ v1 (bs++le (x.at_) 8) x.off (by have:=HF.out;unfold Yi Qp at this;omega) (by have:=HF.out;unfold Yi Qp at this;omega) (by omega) PT.out.drew hc1);clear hc1;go_wp2_with fail;go_still_tail 7,(by kernel_rfl);go_wp2_with fail;refine Rj.out.mono ?_;rintro e w2 ⟨rfl,v2,hs2,hk2⟩;have HB2:=JJ (HB1.out.trans (Lc PT.out (Kw hk2)));have HS2:=JJ hs2;have OZ:=JJ (Pz.out.trans (Kw hk2));clear hs2 hk2 Rj HB1 PT Pz hlen1;go_wp2_with fail
 go_end0
 exact⟨rfl,v2,by unfold PO;have h:=HS2.out;simpa[List.append_assoc] using h,OZ.out⟩
theorem ajb (w:ae)(g xb xo:Nat)(v:ah)(bs:ag au)(x:Yr)(hr:w.rangeAt xb xo x.cells)(hxg:xb<g)(hf:Tq x)(hl:bs.length<=900000000)(hst:NJ w g v bs):
  Calls Tryz.prog 87 #[.iface 91 (pt g),.pointer (some ⟨xb,xo,none⟩)] w (OD w g v (bs++QD x)):=by
 have hgl:=hst.lt;have HST:=JJ hst;have HF:=JJ hf;have c0:w.cell? ⟨xb,xo,none⟩=some (I x.month):=hr 0 _ rfl;have c1:w.cell? ⟨xb,xo+1,none⟩=some (I x.La):=hr 1 _ rfl;have c2:w.cell? ⟨xb,xo+2,none⟩=some (I x.Lh):=hr 2 _ rfl;have c3:w.cell? ⟨xb,xo+3,none⟩=some (I x.minute):=hr 3 _ rfl;have c4:w.cell? ⟨xb,xo+4,none⟩=some (I x.off):=hr 4 _ rfl;have HB0:Hid (ai g w w):=JJ (aW _ _);have Uc:=JJ hst;have XC:Hid (Oj g v w v w):=JJ (Oj.refl _ _ _);clear hr hf hst;have hc0:w.drew.cell? ⟨xb,xo,none⟩=some (I x.month):=(HB0.out.cell (p:=⟨xb,xo,none⟩) hxg).trans c0;have hlen0:(bs).length<=900000100:=by
  try simp only[KN,J4]
  omega
 have HC0:=JJ (Lp w.drew g ⟨xb,xo,none⟩ v (bs) x.month 1 (by have:=HF.out;unfold Tq Qp at this;omega) (by have:=HF.out;unfold Tq Qp at this;omega) (by omega) (by omega) Uc.out.drew.lt Uc.out.drew hc0);clear hc0;go_enter Tryz.func87,Tryz.ntmps87;go_wp2_with fail;go_still_tail 7,(by kernel_rfl);go_wp2_with fail;refine HC0.out.mono ?_;rintro e w1 ⟨rfl,v1,hs1,hk1⟩;have HB1:=JJ (HB0.out.trans (Lc Uc.out (Kw hk1)));have PT:=JJ hs1;have Pz:=JJ (XC.out.trans (Kw hk1));clear hs1 hk1 HC0 HB0 Uc XC hlen0;have hc1:w1.drew.cell? ⟨xb,xo+1,none⟩=some (I x.La):=(HB1.out.cell (p:=⟨xb,xo+1,none⟩) hxg).trans c1;have hlen1:(bs++le (x.month) 1).length<=900000100:=by
  try simp only[KN,J4]
  omega
 have Rj:=JJ (Lp w1.drew g ⟨xb,xo+1,none⟩ v1 (bs++le (x.month) 1) x.La 1 (by have:=HF.out;unfold Tq Qp at this;omega) (by have:=HF.out;unfold Tq Qp at this;omega) (by omega) (by omega) PT.out.drew.lt PT.out.drew hc1);clear hc1;go_wp2_with fail;go_still_tail 7,(by kernel_rfl);go_wp2_with fail;refine Rj.out.mono ?_;rintro e w2 ⟨rfl,v2,hs2,hk2⟩;have HB2:=JJ (HB1.out.trans (Lc PT.out (Kw hk2)));have HS2:=JJ hs2;have OZ:=JJ (Pz.out.trans (Kw hk2));clear hs2 hk2 Rj HB1 PT Pz hlen1;have hc2:w2.drew.cell? ⟨xb,xo+2,none⟩=some (I x.Lh):=(HB2.out.cell (p:=⟨xb,xo+2,none⟩) hxg).trans c2;have hlen2:(bs++le (x.month) 1++le (x.La) 1).length<=900000100:=by
  try simp only[KN,J4]
  omega
 have HC2:=JJ (Lp w2.drew g ⟨xb,xo+2,none⟩ v2 (bs++le (x.month) 1++le (x.La) 1) x.Lh 1 (by have:=HF.out;unfold Tq Qp at this;omega) (by have:=HF.out;unfold Tq Qp at this;omega) (by omega) (by omega) HS2.out.drew.lt HS2.out.drew hc2);clear hc2;go_wp2_with fail;go_still_tail 7,(by kernel_rfl);go_wp2_with fail;refine HC2.out.mono ?_;rintro e w3 ⟨rfl,v3,hs3,hk3⟩;have HB3:=JJ (HB2.out.trans (Lc HS2.out (Kw hk3)));have Qi:=JJ hs3;have SE:=JJ (OZ.out.trans (Kw hk3));clear hs3 hk3 HC2 HB2 HS2 OZ hlen2;have hc3:w3.drew.cell? ⟨xb,xo+3,none⟩=some (I x.minute):=(HB3.out.cell (p:=⟨xb,xo+3,none⟩) hxg).trans c3;have hlen3:(bs++le (x.month) 1++le (x.La) 1++le (x.Lh) 1).length<=900000100:=by
  try simp only[KN,J4]
  omega
 have Wh:=JJ (Lp w3.drew g ⟨xb,xo+3,none⟩ v3 (bs++le (x.month) 1++le (x.La) 1++le (x.Lh) 1) x.minute 2 (by have:=HF.out;unfold Tq Qp at this;omega) (by have:=HF.out;unfold Tq Qp at this;omega) (by omega) (by omega) Qi.out.drew.lt Qi.out.drew hc3);clear hc3;go_wp2_with fail;go_still_tail 7,(by kernel_rfl);go_wp2_with fail;refine Wh.out.mono ?_;rintro e w4 ⟨rfl,v4,hs4,hk4⟩;have HB4:=JJ (HB3.out.trans (Lc Qi.out (Kw hk4)));have HS4:=JJ hs4;have HK4:=JJ (SE.out.trans (Kw hk4));clear hs4 hk4 Wh HB3 Qi SE hlen3;have hc4:w4.drew.cell? ⟨xb,xo+4,none⟩=some (I x.off):=(HB4.out.cell (p:=⟨xb,xo+4,none⟩) hxg).trans c4;have awL:(bs++le (x.month) 1++le (x.La) 1++le (x.Lh) 1++le (x.minute) 2).length<=900000100:=by
  try simp only[KN,J4]
  omega
 have WT:=JJ (Vp w4.drew g ⟨xb,xo+4,none⟩ v4 (bs++le (x.month) 1++le (x.La) 1++le (x.Lh) 1++le (x.minute) 2) x.off (by have:=HF.out;unfold Tq Qp at this;omega) (by have:=HF.out;unfold Tq Qp at this;omega) (by omega) HS4.out.drew hc4);clear hc4;go_wp2_with fail;go_still_tail 7,(by kernel_rfl);go_wp2_with fail;refine WT.out.mono ?_;rintro e w5 ⟨rfl,v5,hs5,hk5⟩;have VI:=JJ (HB4.out.trans (Lc HS4.out (Kw hk5)));have UO:=JJ hs5;have HK5:=JJ (HK4.out.trans (Kw hk5));clear hs5 hk5 WT HB4 HS4 HK4 awL;go_wp2_with fail
 go_end0
 exact⟨rfl,v5,by unfold QD;have h:=UO.out;simpa[List.append_assoc] using h,HK5.out⟩
def acT (w:ae)(g:Nat)(v:ah)(bs:ag au)(n:Nat)(xs:ag Lr)(i:ah)(wr:ae):Prop:=
 ∃k:Nat,k<=n/\i=.int .i64 k/\∃v',NJ wr g v' (bs++(le n 1++(xs.take k).flatMap Qw))/\Oj g v w v' wr
theorem aa6 (w:ae)(g lb lo:Nat)(A:aj Addr)(n c:Nat)(xs:ag Lr)(v:ah)(bs:ag au)(hn:xs.length=n)(hn2:n<=100000)(hp:w.cell? ⟨lb,lo,none⟩=some (.slice A n c))(hlg:lb<g)(hA:JS w g A (xs.flatMap Lr.cells))(hfit:∀z∈xs,Yd z)
  (hl:bs.length<=100000000)(hst:NJ w g v bs):
  Calls Tryz.prog 105 #[.iface 91 (pt g),.pointer (some ⟨lb,lo,none⟩),I 1,.func (.func 106) #[] #[]] w (OD w g v (bs++(le n 1++xs.flatMap Qw))):=by
 have HC:=JJ (Pv w.drew g v bs n 1 (by omega) (by omega) (by omega) (by omega) hst.drew);have HST:=JJ hst;have HN:=JJ hn;have HF:=JJ hfit;have HA:=JJ hA;have HP:=JJ hp;have hgl:=hst.lt;clear hst hn hfit hA;go_enter Tryz.func105,Tryz.ntmps105;go_wp2_with fail;go_still_tail 9,(by kernel_rfl);go_wp2_with fail;refine HC.out.mono ?_;rintro e w1 ⟨rfl,v1,hs1,hk1⟩;have PT:=JJ hs1;have Pz:=JJ (Kw hk1);clear hs1 hk1 HC hp;go_wp2_with fail
 go_loopw [22] (fun i wr=>acT w g v bs n xs i wr) (fun i _=>n - (intOf i).toNat)
 case atStart=>exact⟨0,aG _,rfl,v1,by simpa using PT.out,Pz.out⟩
 case round=>
  obtain⟨k,hk,rfl,v2,hs2,hk2⟩:=hrel;have hb2:=Lc HST.out hk2;have HB2:=JJ hb2;have HS2:=JJ hs2;have OZ:=JJ hk2;have hp2:wr.cell? ⟨lb,lo,none⟩=some (.slice A n c):=(hb2.cell (p:=⟨lb,lo,none⟩) hlg).trans HP.out;clear hs2 hk2 hb2 PT Pz;by_cases hlt:k<n
  ·have hkz:k<xs.length:=by rw[HN.out];exact hlt
   obtain⟨b,off,rfl,hbg,hc0⟩:=HA.out.there (by rw[KW (s:=3) Lr.cells _ fun _ _=>rfl];omega);obtain⟨x,hx⟩:∃x,xs[k]? =some x:=⟨_,KL hkz⟩;have hcz:wr.rangeAt b (off+k*3) x.cells:=JY (JS.elem (s:=3) (f:=Lr.cells) (fun _ _=>rfl) hc0 k x hx) HB2.out hbg;have hlen:(bs++(le (n:Int) 1++(xs.take k).flatMap Qw)).length<=900000000:=by
    rw[KN,KN,J4,Wl Qw 5 Yc,bn];omega
   have HM:=JJ (aja wr g b (off+k*3) v2 _ x hcz hbg (HF.out x (LQ hx)) hlen HS2.out);have HX:=JJ hx;have i0:(0:Int)<=(k:Int):=by omega
   have i1:(k:Int)<(n:Int):=by omega
   have i2:((k:Int)==(n:Int))=false:=by simp;omega
   clear hkz hc0 hx hlen hcz;go_wp2_with fail;refine HM.out.mono ?_;rintro e w3 ⟨rfl,v3,hs3,hk3⟩;have Qi:=JJ hs3;have SE:=JJ (OZ.out.trans hk3);clear hs3 hk3 hp2;go_wp2_with fail;go_roundw
   case rel=>exact⟨k+1,by omega,by go_num,v3,by rw[Oq xs k x HX.out,eG,dI,mf,iq,<-aH (le _ _),<-aH];exact Qi.out,SE.out⟩
   case measure=>simp[intOf];omega
  ·have hkn:k=n:=by omega
   have WY:=JJ hkn;clear hkn;go_wp2_with fail
   go_end0
   exact⟨rfl,v2,by have h:=HS2.out;rwa [WY.out,aU (by rw[HN.out];exact ay _)] at h,OZ.out⟩
def aa7 (w:ae)(g:Nat)(v:ah)(bs:ag au)(n:Nat)(xs:ag Tr)(i:ah)(wr:ae):Prop:=
 ∃k:Nat,k<=n/\i=.int .i64 k/\∃v',NJ wr g v' (bs++(le n 2++(xs.take k).flatMap PO))/\Oj g v w v' wr
theorem aat (w:ae)(g lb lo:Nat)(A:aj Addr)(n c:Nat)(xs:ag Tr)(v:ah)(bs:ag au)(hn:xs.length=n)(hn2:n<=100000)(hp:w.cell? ⟨lb,lo,none⟩=some (.slice A n c))(hlg:lb<g)(hA:JS w g A (xs.flatMap Tr.cells))(hfit:∀z∈xs,Yi z)
  (hl:bs.length<=100000000)(hst:NJ w g v bs):
  Calls Tryz.prog 84 #[.iface 91 (pt g),.pointer (some ⟨lb,lo,none⟩),I 2,.func (.func 85) #[] #[]] w (OD w g v (bs++(le n 2++xs.flatMap PO))):=by
 have HC:=JJ (Pv w.drew g v bs n 2 (by omega) (by omega) (by omega) (by omega) hst.drew);have HST:=JJ hst;have HN:=JJ hn;have HF:=JJ hfit;have HA:=JJ hA;have HP:=JJ hp;have hgl:=hst.lt;clear hst hn hfit hA;go_enter Tryz.func84,Tryz.ntmps84;go_wp2_with fail;go_still_tail 9,(by kernel_rfl);go_wp2_with fail;refine HC.out.mono ?_;rintro e w1 ⟨rfl,v1,hs1,hk1⟩;have PT:=JJ hs1;have Pz:=JJ (Kw hk1);clear hs1 hk1 HC hp;go_wp2_with fail
 go_loopw [22] (fun i wr=>aa7 w g v bs n xs i wr) (fun i _=>n - (intOf i).toNat)
 case atStart=>exact⟨0,aG _,rfl,v1,by simpa using PT.out,Pz.out⟩
 case round=>
  obtain⟨k,hk,rfl,v2,hs2,hk2⟩:=hrel;have hb2:=Lc HST.out hk2;have HB2:=JJ hb2;have HS2:=JJ hs2;have OZ:=JJ hk2;have hp2:wr.cell? ⟨lb,lo,none⟩=some (.slice A n c):=(hb2.cell (p:=⟨lb,lo,none⟩) hlg).trans HP.out;clear hs2 hk2 hb2 PT Pz;by_cases hlt:k<n
  ·have hkz:k<xs.length:=by rw[HN.out];exact hlt
   obtain⟨b,off,rfl,hbg,hc0⟩:=HA.out.there (by rw[KW (s:=2) Tr.cells _ fun _ _=>rfl];omega);obtain⟨x,hx⟩:∃x,xs[k]? =some x:=⟨_,KL hkz⟩;have hcz:wr.rangeAt b (off+k*2) x.cells:=JY (JS.elem (s:=2) (f:=Tr.cells) (fun _ _=>rfl) hc0 k x hx) HB2.out hbg;have hlen:(bs++(le (n:Int) 2++(xs.take k).flatMap PO)).length<=900000000:=by
    rw[KN,KN,J4,Wl PO 10 Vq,bn];omega
   have HM:=JJ (agv wr g b (off+k*2) v2 _ x hcz hbg (HF.out x (LQ hx)) hlen HS2.out);have HX:=JJ hx;have i0:(0:Int)<=(k:Int):=by omega
   have i1:(k:Int)<(n:Int):=by omega
   have i2:((k:Int)==(n:Int))=false:=by simp;omega
   clear hkz hc0 hx hlen hcz;go_wp2_with fail;refine HM.out.mono ?_;rintro e w3 ⟨rfl,v3,hs3,hk3⟩;have Qi:=JJ hs3;have SE:=JJ (OZ.out.trans hk3);clear hs3 hk3 hp2;go_wp2_with fail;go_roundw
   case rel=>exact⟨k+1,by omega,by go_num,v3,by rw[Oq xs k x HX.out,eG,dI,mf,iq,<-aH (le _ _),<-aH];exact Qi.out,SE.out⟩
   case measure=>simp[intOf];omega
  ·have hkn:k=n:=by omega
   have WY:=JJ hkn;clear hkn;go_wp2_with fail
   go_end0
   exact⟨rfl,v2,by have h:=HS2.out;rwa [WY.out,aU (by rw[HN.out];exact ay _)] at h,OZ.out⟩
def acU (w:ae)(g:Nat)(v:ah)(bs:ag au)(n:Nat)(xs:ag Yr)(i:ah)(wr:ae):Prop:=
 ∃k:Nat,k<=n/\i=.int .i64 k/\∃v',NJ wr g v' (bs++(le n 1++(xs.take k).flatMap QD))/\Oj g v w v' wr
theorem aa8 (w:ae)(g lb lo:Nat)(A:aj Addr)(n c:Nat)(xs:ag Yr)(v:ah)(bs:ag au)(hn:xs.length=n)(hn2:n<=100000)(hp:w.cell? ⟨lb,lo,none⟩=some (.slice A n c))(hlg:lb<g)(hA:JS w g A (xs.flatMap Yr.cells))(hfit:∀z∈xs,Tq z)
  (hl:bs.length<=100000000)(hst:NJ w g v bs):
  Calls Tryz.prog 86 #[.iface 91 (pt g),.pointer (some ⟨lb,lo,none⟩),I 1,.func (.func 87) #[] #[]] w (OD w g v (bs++(le n 1++xs.flatMap QD))):=by
 have HC:=JJ (Pv w.drew g v bs n 1 (by omega) (by omega) (by omega) (by omega) hst.drew);have HST:=JJ hst;have HN:=JJ hn;have HF:=JJ hfit;have HA:=JJ hA;have HP:=JJ hp;have hgl:=hst.lt;clear hst hn hfit hA;go_enter Tryz.func86,Tryz.ntmps86;go_wp2_with fail;go_still_tail 9,(by kernel_rfl);go_wp2_with fail;refine HC.out.mono ?_;rintro e w1 ⟨rfl,v1,hs1,hk1⟩;have PT:=JJ hs1;have Pz:=JJ (Kw hk1);clear hs1 hk1 HC hp;go_wp2_with fail
 go_loopw [22] (fun i wr=>acU w g v bs n xs i wr) (fun i _=>n - (intOf i).toNat)
 case atStart=>exact⟨0,aG _,rfl,v1,by simpa using PT.out,Pz.out⟩
 case round=>
  obtain⟨k,hk,rfl,v2,hs2,hk2⟩:=hrel;have hb2:=Lc HST.out hk2;have HB2:=JJ hb2;have HS2:=JJ hs2;have OZ:=JJ hk2;have hp2:wr.cell? ⟨lb,lo,none⟩=some (.slice A n c):=(hb2.cell (p:=⟨lb,lo,none⟩) hlg).trans HP.out;clear hs2 hk2 hb2 PT Pz;by_cases hlt:k<n
  ·have hkz:k<xs.length:=by rw[HN.out];exact hlt
   obtain⟨b,off,rfl,hbg,hc0⟩:=HA.out.there (by rw[KW (s:=5) Yr.cells _ fun _ _=>rfl];omega);obtain⟨x,hx⟩:∃x,xs[k]? =some x:=⟨_,KL hkz⟩;have hcz:wr.rangeAt b (off+k*5) x.cells:=JY (JS.elem (s:=5) (f:=Yr.cells) (fun _ _=>rfl) hc0 k x hx) HB2.out hbg;have hlen:(bs++(le (n:Int) 1++(xs.take k).flatMap QD)).length<=900000000:=by
    rw[KN,KN,J4,Wl QD 7 Yu,bn];omega
   have HM:=JJ (ajb wr g b (off+k*5) v2 _ x hcz hbg (HF.out x (LQ hx)) hlen HS2.out);have HX:=JJ hx;have i0:(0:Int)<=(k:Int):=by omega
   have i1:(k:Int)<(n:Int):=by omega
   have i2:((k:Int)==(n:Int))=false:=by simp;omega
   clear hkz hc0 hx hlen hcz;go_wp2_with fail;refine HM.out.mono ?_;rintro e w3 ⟨rfl,v3,hs3,hk3⟩;have Qi:=JJ hs3;have SE:=JJ (OZ.out.trans hk3);clear hs3 hk3 hp2;go_wp2_with fail;go_roundw
   case rel=>exact⟨k+1,by omega,by go_num,v3,by rw[Oq xs k x HX.out,eG,dI,mf,iq,<-aH (le _ _),<-aH];exact Qi.out,SE.out⟩
   case measure=>simp[intOf];omega
  ·have hkn:k=n:=by omega
   have WY:=JJ hkn;clear hkn;go_wp2_with fail
   go_end0
   exact⟨rfl,v2,by have h:=HS2.out;rwa [WY.out,aU (by rw[HN.out];exact ay _)] at h,OZ.out⟩
end
end Go.Proofs.YtbaehbbonkljpaaGreatDoor
