/- The texts Vh, Qk, Kr, Kv, Vi, in this order. -/
import Derived.Test.YtbaehbbonkljpaaGreatDoorT16
import Derived.Test.YtbaehbbonkljpaaGreatDoorT22
set_option maxRecDepth 10000
set_option maxHeartbeats 8000000
namespace Go.Proofs.YtbaehbbonkljpaaGreatDoor
open Go Go.RowKit
theorem ak2:∀(l:ag au),Op.bytesLess l []=false
 | []=>rfl
 |_::_=>rfl
theorem alk:∀(l:ag au),(Op.bytesLess [] l||(([]:ag au)==l))=true
 | []=>rfl
 |_::_=>rfl
theorem akf {x:ByteArray}(h:x.size=0):x.toList= []:=by
 have h1:x=⟨#[]⟩:=by
  obtain⟨d⟩:=x;have h2:d.size=0:=h;rw[Array.eq_empty_of_size_eq_zero h2]
 rw[h1];decide+kernel
theorem ad2 (x L:ByteArray)(h:x.size=0):QM x L=true:=by
 unfold QM;rw[akf h];exact alk _
theorem ad3 (x:ByteArray)(h:1<=x.size):QM x ⟨#[]⟩=false:=by
 unfold QM;rw[akf (x:=⟨#[]⟩) rfl,ak2,lY];cases e:x.toList with
 |nil=>
  have h1:x.toList.length=x.size:=by rw[Lib.toList_data];exact dF
  rw[e] at h1;simp at h1;omega
 |cons a l=>rfl
def hdF (t:Tb):Bool:= !(tv1 t||tv2 t)
theorem afG (xs:ag au)(h:xs.length=32):∀W,(binOp .eql 24 (.agg (JO xs).toArray) (.agg (JO KA).toArray)).run Tryz.prog W=.ok (.bool (xs==KA)) W:=fun W=>by
 unfold JO;rw[run_eql_struct,kQ W 9998 24 5 32 aK gW (fun w=>Y0 w) xs KA h rfl];simp[Result.andThen]
theorem aop (t:Tb)(A:aj Addr)(n c:Nat)(w:ae)(hp:t.prev.length=32):
  Calls Tryz.prog 55 #[.agg (JK t (.slice A n c))] w (Gives (.bool (hdF t)) w):=by
 have HR0:=JJ (Row.new w (JK t (.slice A n c)) 26);have HB0:=JJ (JM w (.cells (JK t (.slice A n c)) 26));have h32:(Tryz.prog.info? 24).map (·.size)=some (JO t.prev).length:=by rw[show(JO t.prev).length=32 by simp[JO,hp]];kernel_rfl
 have HP:=JJ (Tj t (.slice A n c) HR0.out);have H32:=JJ h32;have heq:=afG t.prev hp;rw[Xw] at heq;obtain⟨pz,hpz⟩:∃b,(t.prev==KA)=b:=⟨_,rfl⟩;rw[hpz] at heq;obtain⟨ti,hti⟩:∃x,t.J5=x:=⟨_,rfl⟩;obtain⟨tv,htv⟩:∃x,t.version=x:=⟨_,rfl⟩;obtain⟨tw,htw⟩:∃x,t.JU=x:=⟨_,rfl⟩;have HK:Hid (∀W,Row W w.heap.size (JK t (.slice A n c))->W.cell? ⟨w.heap.size,0,none⟩=some (I ti)/\W.cell? ⟨w.heap.size,1,none⟩=some (I tv)/\W.cell? ⟨w.heap.size,2,none⟩=some (I tw)):=JJ (fun W h=>⟨(h.2 0).trans (by rw[<-hti];rfl),(h.2 1).trans (by rw[<-htv];rfl),(h.2 2).trans (by rw[<-htw];rfl)⟩);have HT1:Hid (tv1 t=decide (ti<0\/16<=ti\/tv<1\/64<tv)):=JJ (by unfold tv1;rw[hti,htv]);have HT2:Hid (tv2 t=decide (tw<0\/tv<=tw\/(tv=1/\pz=false))):=JJ (by unfold tv2;rw[htw,htv,hpz]);obtain⟨g,hg⟩:∃g,hdF t=g:=⟨_,rfl⟩;have HG:Hid (g= !(decide (ti<0\/16<=ti\/tv<1\/64<tv)||decide (tw<0\/tv<=tw\/(tv=1/\pz=false)))):=JJ (by rw[<-hg];unfold hdF;rw[HT1.out,HT2.out]);rw[hg];have WU:=JJ heq;clear hg hti htv htw hpz h32 hp heq HT1 HT2;have h9:(ti<0)\/(¬ti<0/\(15:Int)<ti)\/(¬ti<0/\¬(15:Int)<ti/\tv<1)\/(¬ti<0/\¬(15:Int)<ti/\¬tv<1/\(64:Int)<tv)\/(¬ti<0/\¬(15:Int)<ti/\¬tv<1/\¬(64:Int)<tv/\tw<0)\/(¬ti<0/\¬(15:Int)<ti/\¬tv<1/\¬(64:Int)<tv/\¬tw<0/\tv<=tw)\/(¬ti<0/\¬(15:Int)<ti/\¬tv<1/\¬(64:Int)<tv/\¬tw<0/\¬tv<=tw):=by omega
 rcases h9 with u0|⟨u0,u1⟩|⟨u0,u1,u2⟩|⟨u0,u1,u2,u3⟩|⟨u0,u1,u2,u3,u4⟩|⟨u0,u1,u2,u3,u4,u5⟩|⟨u0,u1,u2,u3,u4,u5⟩
 iterate 6
  ·have HF:Hid (g=false):=JJ (by
    rw[HG.out]
    first
     |rw[aZ (show ti<0\/16<=ti\/tv<1\/64<tv by omega)];rfl
     |rw[aZ (show tw<0\/tv<=tw\/(tv=1/\pz=false) by omega),Bool.or_true];rfl)
   go_enter Tryz.func55,Tryz.ntmps55;go_upto_region 1 with fail;generalize w.alloc (.cells (JK t (.slice A n c)) 26)=W0 at HR0 HB0 HP⊢;obtain⟨k0,k1,k2⟩:=HK.out W0 HR0.out;go_wp2_with fail;go_ret;exact⟨by rw[HF.out];rfl,HB0.out⟩
 have HD1:Hid (decide (ti<0\/16<=ti\/tv<1\/64<tv)=false):=JJ (bT (by omega));by_cases hv:tv=1
 ·have hv1:¬(1:Int)<tv:=by omega
  have HF:Hid (g=pz):=JJ (by
   rw[HG.out,HD1.out,lY];cases pz with
   |true=>rw[bT (fun h=>by rcases h with h|h|⟨_,h⟩<;>first|omega|cases h)];rfl
   |false=>rw[aZ (.inr (.inr ⟨hv,rfl⟩))];rfl)
  go_enter Tryz.func55,Tryz.ntmps55;go_upto_region 1 with fail;generalize w.alloc (.cells (JK t (.slice A n c)) 26)=W0 at HR0 HB0 HP⊢;obtain⟨k0,k1,k2⟩:=HK.out W0 HR0.out;have heq:=WU.out;go_wp2_with((with_reducible refine Nb 24 ?_);refine Kt rfl _ _ rfl w.heap.size 4 rfl (JO t.prev) HP.out _ aK rfl H32.out ?_);go_ret;exact⟨by rw[HF.out];rfl,HB0.out⟩
 ·have hv1:(1:Int)<tv:=by omega
  have HF:Hid (g=true):=JJ (by
   rw[HG.out,HD1.out,lY,bT (show¬(tw<0\/tv<=tw\/(tv=1/\pz=false)) by omega)];rfl)
  go_enter Tryz.func55,Tryz.ntmps55;go_upto_region 1 with fail;generalize w.alloc (.cells (JK t (.slice A n c)) 26)=W0 at HR0 HB0 HP⊢;obtain⟨k0,k1,k2⟩:=HK.out W0 HR0.out;go_wp2_with fail;go_ret;exact⟨by rw[HF.out];rfl,HB0.out⟩
theorem Wv (t:Tb)(A:aj Addr)(n c:Nat)(zs:ag L9)(w:ae)(hp:t.prev.length=32)(hm:t.Ku.length=32)(hz:t.JX=zs.map (·.e))(hn:zs.length=n)(hA:O3 w w.heap.size A zs):
  Calls Tryz.prog 33 #[.agg (JK t (.slice A n c))] w (Gives (I (O0 t)) w):=by
 have HB0:=JJ (JM w (.cells (JK t (.slice A n c)) 26));have XE:Hid (TVr w (JK t (.slice A n c)) A zs (w.alloc (.cells (JK t (.slice A n c)) 26))):=JJ ⟨Row.new w _ _,hA.keep HB0.out,HB0.out⟩;obtain⟨hd,hhd⟩:∃b,hdF t=b:=⟨_,rfl⟩;have HHD:Hid (∀W,Calls Tryz.prog 55 #[.agg (JK t (.slice A n c))] W (Gives (.bool hd) W)):=JJ fun W=>by rw[<-hhd];exact aop t A n c W hp
 have L6:=JJ (Ky t (.slice A n c) hp hm);have HZ:=JJ hz;have HNN:=JJ hn;have HNZ:Hid (t.JX.length=n):=JJ (by rw[hz,aI,hn]);obtain⟨rv,U1⟩:∃v,O0 t=v:=⟨_,rfl⟩;rw[U1];have aqJ:Hid (rv=if hd=false then 1 else if 128<n then 2 else Mc ⟨#[]⟩ t.JX):=JJ (by
  rw[<-U1,<-hhd];unfold O0 hdF;rw[HNZ.out];cases tv1 t<;>cases tv2 t<;>rfl)
 clear hz hp hm hA hn HB0 hhd U1;go_enter Tryz.func33,Tryz.ntmps33;go_wp2_with((with_reducible refine KO 26 ?_);refine KF rfl _ _ rfl w.heap.size rfl (JK t (.slice A n c)) XE.out.row _ az rfl L6.out ?_);refine(HHD.out _).mono ?_;rintro e w1 ⟨rfl,hb1⟩;have Qq:=JJ (XE.out.below hb1);clear hb1 XE;cases hd with
 |false=>
  have HF:Hid (rv=1):=JJ (by rw[aqJ.out,bD rfl]);go_wp2_with fail;go_ret;exact⟨by rw[HF.out];rfl,Qq.out.up⟩
 |true=>
  have k3:w1.cell? ⟨w.heap.size,3,none⟩=some (.slice A n c):=Qq.out.row.2 3;by_cases q7:128<n
  ·have q8:(128:Int)<(n:Int):=by omega
   have HF:Hid (rv=2):=JJ (by rw[aqJ.out,bP (by simp),bD q7]);go_wp2_with fail;go_ret;exact⟨by rw[HF.out];rfl,Qq.out.up⟩
  ·have q8:¬(128:Int)<(n:Int):=by omega
   have QN:Hid (rv=Mc ⟨#[]⟩ t.JX):=JJ (by rw[aqJ.out,bP (by simp),bP q7]);go_wp2_with fail;clear k3
   go_loopw [3] (fun i wr=>∃k:Nat,k<=n/\i=I (k:Int)/\Mc ⟨#[]⟩ t.JX=Mc (NG zs k) (t.JX.drop k)/\TVr w (JK t (.slice A n c)) A zs wr) (fun i _=>n - (intOf i).toNat)
   case atStart=>exact⟨0,aG _,rfl,rfl,Qq.out⟩
   case round=>
    obtain⟨k,hk,rfl,hen,htv⟩:=hrel;have HV:=JJ htv;have HEN:=JJ hen;have k3:wr.cell? ⟨w.heap.size,3,none⟩=some (.slice A n c):=htv.row.2 3;have hlt1:=htv.row.1;clear htv Qq hen;by_cases hlt:k<n
    ·have hkz:k<zs.length:=by rw[HNN.out];exact hlt
     obtain⟨x,hx⟩:∃x,zs[k]? =some x:=⟨_,KL hkz⟩;obtain⟨b,off,rfl,hbl,hr⟩:=O3.at HV.out.mem hx;have hi:=HV.out.mem.each x (LQ hx);have i0:(0:Int)<=(k:Int):=by omega
     have i1:(k:Int)<(n:Int):=by omega
     have c0:wr.cell? ⟨b,off+k*9,none⟩=some (.string x.e.name):=hr 0 _ rfl;have c1:wr.cell? ⟨b,off+k*9+1,none⟩=some (I x.e.z.cal.KI):=hr 1 _ rfl;have c2:wr.cell? ⟨b,off+k*9+2,none⟩=some (.slice x.s.A x.e.z.cal.JQ.length x.s.a):=hr 2 _ rfl;have c3:wr.cell? ⟨b,off+k*9+3,none⟩=some (I x.e.z.cal.Lm):=hr 3 _ rfl;have c4:wr.cell? ⟨b,off+k*9+4,none⟩=some (.slice x.s.B x.e.z.cal.rules.length x.s.b):=hr 4 _ rfl;have c5:wr.cell? ⟨b,off+k*9+5,none⟩=some (I x.e.z.start):=hr 5 _ rfl;have c6:wr.cell? ⟨b,off+k*9+6,none⟩=some (.slice x.s.C x.e.z.trans.length x.s.c):=hr 6 _ rfl;have c7:wr.cell? ⟨b,off+k*9+7,none⟩=some (I x.e.z.hor):=hr 7 _ rfl;have c8:wr.cell? ⟨b,off+k*9+8,none⟩=some (.slice x.s.D x.e.z.J6.length x.s.d):=hr 8 _ rfl;have HX:=JJ hx;have HI:=JJ hi;obtain⟨L,hL⟩:∃L,NG zs k=L:=⟨_,rfl⟩;have HZV:Hid (∀w',ai wr.heap.size wr w'->Calls Tryz.prog 56 #[.agg (JV x.e.z x.s)] w' (Gives (I (VH x.e.z)) w')):=JJ fun w' hb=>
      aej x.e.z x.s w' (((HI.out.more HV.out.up.size).keep hb).more hb.size)
     unfold JV at HZV;have hdr:t.JX.drop k=x.e::t.JX.drop (k+1):=by
      have h1:t.JX[k]? =some x.e:=by rw[HZ.out,aJ,hx];rfl
      have h2:k<t.JX.length:=(MF.1 h1).1;rw[eF h2];rw[KL h2] at h1;injection h1 with h1;rw[h1]
     rw[hL] at HEN;obtain⟨zv,hzv⟩:∃v,VH x.e.z=v:=⟨_,rfl⟩;have WU:Hid (Mc ⟨#[]⟩ t.JX=if 32<x.e.name.size\/QM x.e.name L=true then 1 else if zv=0 then Mc x.e.name (t.JX.drop (k+1)) else zv):=JJ (by rw[HEN.out,hdr,Si,hzv]);rw[hzv] at HZV;have hlb:b<wr.heap.size:=by have:=HV.out.up.size;omega
     have YL:Hid (NG zs (k+1)=x.e.name):=JJ (by show(zs[k]?.map (·.e.name)).getD ⟨#[]⟩=_;rw[hx];rfl);clear hr hi hkz hdr hzv HEN;by_cases q9:32<x.e.name.size
     ·have q10:(32:Int)<(x.e.name.size:Int):=by omega
      have aEM:¬(x.e.name.size:Int)<1:=by omega
      clear hx hL;have HR:Hid (Mc ⟨#[]⟩ t.JX=1):=JJ (by rw[WU.out,bD (.inl q9)]);go_wp2_with fail;go_ret;exact⟨by rw[QN.out,HR.out];rfl,HV.out.up⟩
     ·have q10:¬(32:Int)<(x.e.name.size:Int):=by omega
      obtain⟨s1,hs1⟩:∃b,Op.bytesLess x.e.name.toList L.toList=b:=⟨_,rfl⟩;obtain⟨s2,hs2⟩:∃b,(x.e.name.toList==L.toList)=b:=⟨_,rfl⟩;have HNB:Hid (QM x.e.name L=(s1||s2)):=JJ (by unfold QM;rw[hs1,hs2]);by_cases q13:x.e.name.size<1
      ·have q14:(x.e.name.size:Int)<1:=by omega
       have HNE:Hid (QM x.e.name L=true):=JJ (ad2 _ _ (by omega));clear hx hL hs1 hs2;have HR:Hid (Mc ⟨#[]⟩ t.JX=1):=JJ (by rw[WU.out,bD (.inr HNE.out)]);go_wp2_with fail;go_ret;exact⟨by rw[QN.out,HR.out];rfl,HV.out.up⟩
      ·have q14:¬(x.e.name.size:Int)<1:=by omega
       cases k with
       |zero=>
        have HN0:Hid (QM x.e.name L=false):=JJ (by rw[<-hL];exact ad3 _ (by omega));have HNB:Hid (QM x.e.name L=false):=HN0;clear hx hL hs1 hs2;simp only[gU,jX] at c0 c1 c2 c3 c4 c5 c6 c7 c8;have HR:Hid (Mc ⟨#[]⟩ t.JX=if zv=0 then Mc x.e.name (t.JX.drop (0+1)) else zv):=JJ (by rw[WU.out,bP (by rw[HNB.out];rintro(h|h);exact q9 h;cases h)]);go_wp2_with fail;refine(HZV.out _ (aW _ _)).mono ?_;rintro e w2 ⟨rfl,hb2⟩;have Qd:=JJ (HV.out.below hb2);clear hb2;by_cases q11:zv=0
        ·have HR2:Hid (Mc ⟨#[]⟩ t.JX=Mc x.e.name (t.JX.drop (0+1))):=JJ (by rw[HR.out,bD q11]);subst q11;go_wp2_with fail;go_roundw
         case rel=>exact⟨0+1,by omega,by go_num,by rw[YL.out];exact HR2.out,Qd.out⟩
         case measure=>simp[intOf];omega
        ·have HR2:Hid (Mc ⟨#[]⟩ t.JX=zv):=JJ (by rw[HR.out,bP q11]);have q12:(zv !=0)=true:=by simp[q11]
         go_wp2_with fail;go_ret;exact⟨by rw[QN.out,HR2.out];rfl,Qd.out.up⟩
       |succ j=>
        obtain⟨y,hy⟩:∃y,zs[j]? =some y:=⟨_,KL (by rw[HNN.out];omega)⟩;obtain⟨b',off',e',aAh,hr'⟩:=O3.at HV.out.mem hy;injection e' with e';injection e' with e1 e2;subst e1 e2;have hyL:y.e.name=L:=by rw[<-hL];show _=(zs[j]?.map (·.e.name)).getD ⟨#[]⟩;rw[hy];rfl
        have d0:wr.cell? ⟨b,off+j*9,none⟩=some (.string L):=by rw[<-hyL];exact hr' 0 _ rfl
        have j1:((j+1:Nat):Int) - 1=(j:Int):=by omega
        have j2:(j:Int)<(n:Int):=by omega
        have j3:(0:Int)<(j:Int)+1:=by omega
        clear hx hL hy hr' aAh hyL;cases s1 with
        |true=>
         have HR:Hid (Mc ⟨#[]⟩ t.JX=1):=JJ (by rw[WU.out,bD (.inr (by rw[HNB.out,Bool.true_or]))]);go_wp2_with fail;go_ret;exact⟨by rw[QN.out,HR.out];rfl,HV.out.up⟩
        |false=>
        cases s2 with
        |true=>
         have HR:Hid (Mc ⟨#[]⟩ t.JX=1):=JJ (by rw[WU.out,bD (.inr (by rw[HNB.out];rfl))]);go_wp2_with fail;go_ret;exact⟨by rw[QN.out,HR.out];rfl,HV.out.up⟩
        |false=>
         have HR:Hid (Mc ⟨#[]⟩ t.JX=if zv=0 then Mc x.e.name (t.JX.drop (j+1+1)) else zv):=JJ (by rw[WU.out,bP (by rw[HNB.out];rintro(h|h);exact q9 h;cases h)]);go_wp2_with fail;refine(HZV.out _ (aW _ _)).mono ?_;rintro e w2 ⟨rfl,hb2⟩;have Qd:=JJ (HV.out.below hb2);clear hb2;by_cases q11:zv=0
         ·have HR2:Hid (Mc ⟨#[]⟩ t.JX=Mc x.e.name (t.JX.drop (j+1+1))):=JJ (by rw[HR.out,bD q11]);subst q11;go_wp2_with fail;go_roundw
          case rel=>exact⟨j+1+1,by omega,by go_num,by rw[YL.out];exact HR2.out,Qd.out⟩
          case measure=>simp[intOf];omega
         ·have HR2:Hid (Mc ⟨#[]⟩ t.JX=zv):=JJ (by rw[HR.out,bP q11]);have q12:(zv !=0)=true:=by simp[q11]
          go_wp2_with fail;go_ret;exact⟨by rw[QN.out,HR2.out];rfl,Qd.out.up⟩
    ·have hkn:k=n:=by omega
     have HR:Hid (Mc ⟨#[]⟩ t.JX=0):=JJ (by rw[HEN.out,dW (by rw[HNZ.out];omega)];rfl);have i1:¬(k:Int)<(n:Int):=by omega
     clear hkn;go_wp2_with fail;go_ret;exact⟨by rw[QN.out,HR.out];rfl,HV.out.up⟩
theorem Vu.app0 {w w3:ae}{v v':ah}(hg:w.grownBy w3 v.ownBlock)(hat:v'.ownBlock=v.ownBlock\/v'.ownBlock=some w.heap.size):Vu v w v' w3:=
 ⟨hg.os,hg.tape,hg.output,hg.size,fun k hk hv=>hg.block k hk hv,hat.imp id fun e=>⟨_,e,ay _⟩⟩
theorem Vu.Oz {w w':ae}{v:ah}(h:Vu (.slice none 0 0) w v w'):ai w.heap.size w w':=h.VL (fun g hg=>by cases hg) (ay _)
theorem CB.fresh (w:ae)(cs:ax ah)(t:TypeId):CB w.heap.size (.slice none 0 0) w cs [] (some ⟨w.heap.size+1,0,none⟩) 0 0 ((w.alloc (.cells cs t)).alloc (.cells #[] 5)):=by
 have hb:ai w.heap.size w ((w.alloc (.cells cs t)).alloc (.cells #[] 5)):=JL (JM w _) (JM _ _);have ho:=NI (w.alloc (.cells cs t)) 5 1;refine⟨(Row.new w cs t).keep (JM _ _),Rh.lower (lo:=w.heap.size+1) (by simpa[Rh] using ho) (by omega),rfl,⟨hb.os,hb.tape,hb.output,hb.size,fun k hk _=>hb.block k hk,.inr ⟨w.heap.size+1,rfl,by omega⟩⟩,fun e=>?_⟩;have h:w.heap.size=w.heap.size+1:=iO e;omega
theorem take_snoc {α:Type}(l:ag α)(k:Nat)(x:α)(hx:l[k]? =some x):l.take (k+1)=l.take k++ [x]:=by
 rw[ji,hx];rfl
theorem CB.grown {lo n c n' c':Nat}{v0:ah}{A A':aj Addr}{w W W':ae}{o:Obj}{cs:ax ah}{bs bs':ag au}(h:CB lo v0 w cs bs A n c W)(hO:Rh lo W' A' n' c' bs')(hl:bs'.length=n')(hg:(W.alloc o).grownBy W' (Value.slice A n c).ownBlock)(hat:(Value.slice A' n' c').ownBlock=(Value.slice A n c).ownBlock\/(Value.slice A' n' c').ownBlock=some (W.heap.size+1)):CB lo v0 w cs bs' A' n' c' W':=
 h.next hO hl (Vu.app hg (hat.imp id fun e=>e.trans (by simp)))
theorem Vw (d:ag au)(w:ae)(hd:d.length=32):
  Calls Tryz.prog 51 #[.agg (JO d).toArray] w (BsQ w.heap.size (.slice none 0 0) w d):=by
 obtain⟨i0,hi,hz0,hz1,hz2⟩:=dN Qb;have HI:=JJ hi;have HZ0:=JJ hz0;have HZ1:=JJ hz1;have HZ2:=JJ hz2;clear hi hz0 hz1 hz2;have HF:=JJ (CB.fresh w (JO d).toArray 24);have HD:=JJ hd;clear hd;go_enter Tryz.func51,Tryz.ntmps51;go_wp2_with fail
 go_loopw [3,4] (fun b i wr=>adi w.heap.size (.slice none 0 0) w (JO d).toArray (fun k=>d.take k) 32 b i wr) (fun _ i _=>32 - (intOf i).toNat)
 case atStart=>exact⟨0,0,0,_,aG _,rfl,by go_num,HF.out⟩
 case round=>
  obtain⟨k,n,c,A,hk,rfl,rfl,hb⟩:=hrel;have HB:Hid (CB w.heap.size (.slice none 0 0) w (JO d).toArray (d.take k) A n c wr):=JJ hb;have hn:n=k:=by rw[<-hb.len];show(d.take k).length=k;rw[bn,HD.out];omega
  have hsz:w.heap.size<=wr.heap.size:=hb.keep.size;clear hb;subst hn;by_cases hlt:(n:Int)<32
  ·obtain⟨x,hx⟩:∃x,d[n]? =some x:=⟨_,KL (by rw[HD.out];omega)⟩;have v0:wr.cell? ⟨w.heap.size,n,none⟩=some (.int .u8 (x.toNat:Int)):=by rw[HB.out.row.2 n,eU];unfold JO;rw[aJ,hx];rfl
   have HX:=JJ hx;clear hx;obtain⟨pre,hpre⟩:∃l,d.take n=l:=⟨_,rfl⟩;have aaQ:=JJ hpre;rw[hpre] at HB;clear hpre;have HOA:=JJ (fO HB.out.own (.cells #[Value.int .u8 (x.toNat:Int)] 5));go_wp2_with(at_builtin;refine bK _ rfl _ _ 55 rfl w.heap.size 5 i0 (.int .u8 0) 1 1 bC HI.out HZ0.out HZ1.out HZ2.out rfl (by decide) _ n ((pre).map Extern.Stop.cell) rfl HOA.out _ 1 1 [Value.int .u8 (x.toNat:Int)] rfl rfl (jk _ _ _) (WG _) (by unfold maxLen;omega) (by omega) (by simp;omega) ?_);intro v' w3 hown hg _ hat;obtain⟨A',c',rfl⟩:=LU hown;have H2:=JJ (HB.out.grown (bs':=d.take (n+1)) (by unfold Rh;rw[take_snoc d n x HX.out,aaQ.out,bY];exact hown) (by rw[bn,HD.out];omega) hg hat);clear hown hg hat;go_wp2_with fail;go_roundw
   case rel=>exact⟨n+1,n+1,c',A',by omega,rfl,by go_num,H2.out⟩
   case measure=>simp[intOf];omega
  ·have HN:Hid (n=32):=JJ (by omega);go_wp2_with fail;go_ret;have hb:=HB.out;rw[HN.out,aU (iT HD.out)] at hb;have hn:=HN.out;subst hn;exact⟨A,32,c,HD.out,rfl,hb.own,hb.keep⟩
theorem ag6 {α β:Type}(f:α->ag β)(l:ag α)(s k:Nat)(h:∀x∈l,(f x).length<=s):((l.take k).flatMap f).length<=l.length*s:=by
 induction l generalizing k with
 |nil=>simp
 |cons x l ih=>
  cases k with
  |zero=>simp
  |succ k=>
   rw[jr,dI,KN,bG,kJ];have h1:=h x (gI ..);have h2:=ih k (fun y hy=>h y (iE _ hy));omega
def UX (e:Ze):ag au:=le e.name.size 1++(e.name.data.toList++ac2 e.z)
def Rq (t:Tb):ag au:= [byteOf t.J5,byteOf t.version,byteOf t.JU]++(t.prev++(le t.JX.length 1++t.JX.flatMap UX))
theorem aoY (e:Ze)(h:ZnM e.z)(hn:e.name.size<=2):(UX e).length<=103:=by
 have h1:=amk e.z h;have h2:e.name.data.toList.length=e.name.size:=by rw[dF];rfl
 simp only[UX,KN,J4];omega
theorem CB.lit {w W:ae}{cs:ax ah}(hr:Row W w.heap.size cs)(hb:ai w.heap.size w W)(bs:ag au)(n:Nat)(hl:bs.length=n)(hn:n<=1000)(vs:ax ah)(hv:vs.toList=bs.map Extern.Stop.cell):CB w.heap.size (.slice none 0 0) w cs bs (some ⟨W.heap.size,0,none⟩) n n (W.alloc (.cells vs 5)):=by
 have hlt:=hr.1;have ho:(W.alloc (.cells vs 5)).ownsRow W.heap.size 5 1 (.slice (some ⟨W.heap.size,0,none⟩) n n) n vs.toList:=World.ownsRow_lit W vs n (ay _) (by unfold maxLen;omega) (by rw[<-dF,hv,aI,hl,fA]);have hb2:ai w.heap.size w (W.alloc (.cells vs 5)):=JL hb (JM W _);refine⟨hr.keep (JM W _),Rh.lower (lo:=W.heap.size) (by rw[hv] at ho;exact ho) hb.size,hl,⟨hb2.os,hb2.tape,hb2.output,hb2.size,fun k hk _=>hb2.block k hk,.inr ⟨W.heap.size,rfl,hb.size⟩⟩,fun e=>?_⟩;have h:w.heap.size=W.heap.size:=iO e;omega
def ahS (w:ae)(t:Tb)(e:Ending)(w':ae):Prop:=∃A n c,(Rq t).length=n/\e=.returned (.tuple #[.slice A n c,.int .i64 0])/\Rh w.heap.size w' A n c (Rq t)/\ai w.heap.size w w'
section
theorem YR.z14 {z:Zn}(h:YR z):Z14 z:=by
 have hc:=h.cal;have hg:=Vy z.cal.rules 1 hc.per;have hs:=h.st;have hh:=h.ho;have hl:=h.trl;refine⟨⟨⟨by have:=hc.ep;omega,by have:=hc.ep;omega⟩,by have:=hc.ml;omega,fun x hx=>⟨by have:=hc.mo x hx;omega,by have:=hc.mo x hx;omega⟩,⟨hc.lp.1,by have h1:=hc.lp;have h2:=hc.ml;omega⟩,by have:=hc.rl;omega,fun r hr=>?_⟩,⟨by omega,by omega⟩,by omega,fun x hx=>?_,⟨by omega,by omega⟩,by have:=h.yr.len;omega,fun y hm=>?_⟩
 ·obtain⟨h1,h2,h3⟩:=hg r hr;exact⟨⟨by omega,by omega⟩,⟨by omega,by omega⟩⟩
 ·obtain⟨h1,h2,h3⟩:=h.trs x hx;exact⟨⟨by omega,by omega⟩,⟨by omega,by omega⟩⟩
 ·have hS:=h.yr.mem y hm;have h1:=hS.mo;have h2:=hS.wk;have h3:=hS.wd;have h4:=hS.mi;have h5:=hS.of;have h6:=hc.ml;exact⟨⟨by omega,by omega⟩,⟨by omega,by omega⟩,⟨by omega,by omega⟩,⟨by omega,by omega⟩,⟨by omega,by omega⟩⟩
theorem amh (e:Ze)(h:YR e.z)(hn:e.name.size<=32):(UX e).length<=5400:=by
 have g1:=MJ (le · 1) e.z.cal.JQ 1 e.z.cal.JQ.length (fun _=>J4 _ _);have g2:=MJ lrB e.z.cal.rules 5 e.z.cal.rules.length YW;have g3:=MJ trE e.z.trans 10 e.z.trans.length acL;have g4:=MJ yrE e.z.J6 7 e.z.J6.length acY;rw[jB] at g1 g2 g3 g4;have h1:=h.cal.ml;have h2:=h.cal.rl;have h3:=h.trl;have h4:=h.yr.len;have h5:e.name.data.toList.length=e.name.size:=by rw[dF];rfl
 simp only[UX,ac2,UH,KN,J4];omega
attribute [local go_sem] NT NU OH LD
theorem Uz (x:Kv)(w:ae)(hx:Ld w w.heap.size x)(hv:O0 x.t=0):
  Calls Tryz.prog 30 #[.agg (JK x.t (.slice x.A x.zs.length x.c))] w (ahS w x.t):=by
 obtain⟨i0,hi,hz0,hz1,hz2⟩:=dN Qb;have HI:=JJ hi;have HZ0:=JJ hz0;have HZ1:=JJ hz1;have HZ2:=JJ hz2;clear hi hz0 hz1 hz2;have HVL:Hid (∀W,ai w.heap.size w W->Calls Tryz.prog 33 #[.agg (JK x.t (.slice x.A x.zs.length x.c))] W (Gives (.int .i64 0) W)):=JJ fun W hb=>by
  have h0:=hx.grow hb;have h1:=Wv x.t x.A x.zs.length x.c x.zs W h0.prev h0.Ku h0.names rfl h0.JX
  rwa [hv] at h1
 have h:TbY x.t:=aan hv hx.prev hx.Ku;clear hv;obtain⟨t,A,c,zs⟩:=x;obtain⟨hz,hp,hm,hA⟩:=hx;simp only at hz hp hm hA h HVL⊢;obtain⟨n,hn⟩:∃n,zs.length=n:=⟨_,rfl⟩;rw[hn] at HVL⊢;have HB0:=JJ (JM w (.cells (JK t (.slice A n c)) 26));have HR0:=JJ (Row.new w (JK t (.slice A n c)) 26);have L6:=JJ (Ky t (.slice A n c) hp hm);have hn3:n<=128:=by have:=h.num;rw[hz,aI,hn] at this;exact this
 have HF:=JJ h;have HZ:=JJ hz;have HNN:=JJ hn;have HPL:=JJ hp;have HA:=JJ hA;have h32:(Tryz.prog.info? 24).map (·.size)=some (JO t.prev).length:=by rw[show(JO t.prev).length=32 by simp[JO,hp]];kernel_rfl
 have H32:=JJ h32;clear h hz hp hm hA hn h32;go_enter Tryz.func30,Tryz.ntmps30;go_wp2_with((with_reducible refine KO 26 ?_);refine KF rfl _ _ rfl w.heap.size rfl (JK t (.slice A n c)) HR0.out _ az rfl L6.out ?_);refine(HVL.out _ HB0.out).mono ?_;rintro e w1 ⟨rfl,hb1⟩;have HR1:=JJ (HR0.out.keep hb1);have HB1:=JJ (JL HB0.out hb1);have Rj:Hid (CB w.heap.size (.slice none 0 0) w (JK t (.slice A n c)) [byteOf t.J5,byteOf t.version,byteOf t.JU] (some ⟨w1.heap.size,0,none⟩) 3 3 (w1.alloc (.cells #[Value.int .u8 (t.J5%256),Value.int .u8 (t.version%256),Value.int .u8 (t.JU%256)] 5))):=JJ (CB.lit HR1.out HB1.out _ 3 rfl (by omega) _ (by simp only[fF,iR,LH]));have WZ:=JJ (Tj t (.slice A n c) Rj.out.row);have k1:=HR1.out.2;have hlt1:=HR1.out.1;clear hb1 HR0 HB0 HVL;go_wp2_with(with_reducible refine Nb 24 ?_;refine Kt rfl _ _ rfl w.heap.size 4 rfl (JO t.prev) WZ.out _ aK rfl H32.out ?_);generalize w1.alloc (.cells #[Value.int .u8 (t.J5%256),Value.int .u8 (t.version%256),Value.int .u8 (t.JU%256)] 5)=W1 at Rj WZ⊢;refine(Vw t.prev W1 HPL.out).mono ?_;rintro e w2 ⟨A2,n2,c2,l2,rfl,o2,k2⟩;have hn2:n2=32:=by rw[<-l2,HPL.out]
 subst hn2;have HC2:=JJ (Rj.out.grow k2.Oz);obtain⟨g,cap,hgv,hgl⟩:=LW o2 (by omega);injection hgv with hA2 _ hC2;subst hA2 hC2;have HNW:Hid (∀j u,(t.prev.map Extern.Stop.cell)[j]? =some u->w2.cell? ((⟨g,0,none⟩:Addr).add j)=some u):=JJ (fun j u hu=>World.ownsRow.cells o2 (g:=g) rfl j u hu);have HNL:Hid ((t.prev.map Extern.Stop.cell).length=32*1):=JJ (by rw[aI,HPL.out]);have afd:Hid (∀u∈t.prev.map Extern.Stop.cell,u.oneCell'=true):=JJ (fun u hu=>by obtain⟨x,_,rfl⟩:=fJ.1 hu;rfl);have hsz2:w.heap.size<=w2.heap.size:=HC2.out.keep.size;obtain⟨hd,hhd⟩:∃l,[byteOf t.J5,byteOf t.version,byteOf t.JU]=l:=⟨_,rfl⟩;have HHD:=JJ hhd;rw[hhd] at HC2;have SI:=JJ HC2.out.own;clear o2 l2 k2 hgl hhd k1 hlt1;go_wp2_with(at_builtin;refine bK _ rfl _ _ 55 rfl w.heap.size 5 i0 (.int .u8 0) 1 1 bC HI.out HZ0.out HZ1.out HZ2.out rfl (by decide) _ 3 (hd.map Extern.Stop.cell) rfl SI.out ⟨g,0,none⟩ 32 c2 (t.prev.map Extern.Stop.cell) rfl HNL.out HNW.out afd.out (by unfold maxLen;omega) (by omega) (by omega) ?_);intro v' w3 hown hg _ hat;obtain⟨A3,c3,rfl⟩:=LU hown;have Wh:Hid (CB w.heap.size (.slice none 0 0) w (JK t (.slice A n c)) (hd++t.prev) A3 35 c3 w3):=JJ (HC2.out.next (by unfold Rh;rw[bY];exact hown) (by rw[KN,HC2.out.len,HPL.out]) (Vu.app0 hg hat));clear hown hg hat;have k1:=Wh.out.row.2;have hlt1:=Wh.out.row.1;go_wp2_with fail;refine(L8 w.heap.size _ _ 1 _ _ n _ Wh.out.len (by omega) (by omega) ⟨by omega,by omega⟩ Wh.out.keep.size Wh.out.own).mono ?_;rintro e w4 ⟨A4,n4,c4,l4,rfl,o4,k4⟩;have WT:=JJ (Wh.out.next o4 l4 k4);have HZL:Hid (∀k,((t.JX.take k).flatMap UX).length<=691200):=JJ (fun k=>by
  have:=ag6 UX t.JX 5400 k (fun e he=>amh e (HF.out.good e he) (HF.out.short e he));have h2:=HF.out.num;omega)
 clear l4 o4 k4 k1 hlt1;have k1:=WT.out.row.2;have hlt1:=WT.out.row.1;go_wp2_with fail
 go_loopw [5,6] (fun b i wr=>adi w.heap.size (.slice none 0 0) w (JK t (.slice A n c)) (fun k=>hd++t.prev++le n 1++(t.JX.take k).flatMap UX) n b i wr) (fun _ i _=>n - (intOf i).toNat)
 case atStart=>exact⟨0,n4,c4,A4,aG _,rfl,by go_num,by simpa using WT.out⟩
 case round=>
  clear k1 hlt1;obtain⟨k,n5,c5,A5,hk,rfl,rfl,hb⟩:=hrel;have HB:Hid (CB w.heap.size (.slice none 0 0) w (JK t (.slice A n c)) (hd++t.prev++le n 1++(t.JX.take k).flatMap UX) A5 n5 c5 wr):=JJ hb;have hn5:n5<=691300:=by
   have h1:=HB.out.len;have h2:=HZL.out k;rw[KN,KN,J4,Wh.out.len] at h1;omega
  clear hb;obtain⟨pre,hpre⟩:∃l,hd++t.prev++le n 1++(t.JX.take k).flatMap UX=l:=⟨_,rfl⟩;have aaQ:=JJ hpre;rw[hpre] at HB;clear hpre;have k1:=HB.out.row.2;have hlt1:=HB.out.row.1;have hsz:=HB.out.keep.size;by_cases hlt:(k:Int)<(n:Int)
  ·have hkz:k<zs.length:=by rw[HNN.out];omega
   obtain⟨x,hx⟩:∃x,zs[k]? =some x:=⟨_,KL hkz⟩;obtain⟨b,off,rfl,Rl,hcl⟩:=HA.out.row.there (by rw[MB];omega);have hxm:x.e∈t.JX:=by rw[HZ.out];exact fM (LQ hx)
   have hzx:t.JX[k]? =some x.e:=by rw[HZ.out,aJ,hx];rfl
   have hns:x.e.name.size<=32:=HF.out.short _ hxm;obtain⟨nm,hnm⟩:∃s,x.e.name=s:=⟨_,rfl⟩;rw[hnm] at hns;have Ov:Hid (∀i u,x.cells.toList[i]? =some u->w.cell? ⟨b,off+k*9+i,none⟩=some u):=JJ (JS.elem (s:=9) (f:=fun x:L9=>x.cells.toList) (fun _ _=>rfl) hcl k x hx);have HNS:=JJ hns;have hz1:Z14 x.e.z:=(HF.out.good _ hxm).z14;have azI:=JJ hz1;have HZN:=JJ (HA.out.each x (LQ hx));have HZX:=JJ hzx;have HNM:=JJ hnm;have z0:wr.cell? ⟨b,off+k*9,none⟩=some (.string nm):=(HB.out.keep.Oz.cell (p:=⟨b,off+k*9,none⟩) Rl).trans (by rw[<-hnm];exact Ov.out 0 _ rfl);have z1:wr.cell? ⟨b,off+k*9+1,none⟩=some (I x.e.z.cal.KI):=(HB.out.keep.Oz.cell (p:=⟨b,off+k*9+1,none⟩) Rl).trans (Ov.out 1 _ rfl);have z2:wr.cell? ⟨b,off+k*9+2,none⟩=some (.slice x.s.A x.e.z.cal.JQ.length x.s.a):=(HB.out.keep.Oz.cell (p:=⟨b,off+k*9+2,none⟩) Rl).trans (Ov.out 2 _ rfl);have z3:wr.cell? ⟨b,off+k*9+3,none⟩=some (I x.e.z.cal.Lm):=(HB.out.keep.Oz.cell (p:=⟨b,off+k*9+3,none⟩) Rl).trans (Ov.out 3 _ rfl);have z4:wr.cell? ⟨b,off+k*9+4,none⟩=some (.slice x.s.B x.e.z.cal.rules.length x.s.b):=(HB.out.keep.Oz.cell (p:=⟨b,off+k*9+4,none⟩) Rl).trans (Ov.out 4 _ rfl);have z5:wr.cell? ⟨b,off+k*9+5,none⟩=some (I x.e.z.start):=(HB.out.keep.Oz.cell (p:=⟨b,off+k*9+5,none⟩) Rl).trans (Ov.out 5 _ rfl);have z6:wr.cell? ⟨b,off+k*9+6,none⟩=some (.slice x.s.C x.e.z.trans.length x.s.c):=(HB.out.keep.Oz.cell (p:=⟨b,off+k*9+6,none⟩) Rl).trans (Ov.out 6 _ rfl);have z7:wr.cell? ⟨b,off+k*9+7,none⟩=some (I x.e.z.hor):=(HB.out.keep.Oz.cell (p:=⟨b,off+k*9+7,none⟩) Rl).trans (Ov.out 7 _ rfl);have z8:wr.cell? ⟨b,off+k*9+8,none⟩=some (.slice x.s.D x.e.z.J6.length x.s.d):=(HB.out.keep.Oz.cell (p:=⟨b,off+k*9+8,none⟩) Rl).trans (Ov.out 8 _ rfl);have f1:fits ((nm.size:Nat):Int):=⟨by omega,by omega⟩;clear hx hcl hxm hkz hzx hns hz1;go_wp2_with fail;refine(L8 w.heap.size _ _ 1 _ _ (nm.size:Nat) _ HB.out.len (by omega) (by omega) f1 HB.out.keep.size HB.out.own).mono ?_;rintro e w6 ⟨A6,n6,d6,l6,rfl,o6,k6⟩;have Ug:=JJ (HB.out.next o6 l6 k6);have hn6:n6<=691310:=by
    have h1:=HB.out.len;rw[KN,J4] at l6;omega
   have awV:=Ug.out.keep.size;obtain⟨pre2,akR⟩:∃l,pre++le (nm.size:Nat) 1=l:=⟨_,rfl⟩;have HP2:=JJ akR;rw[akR] at Ug;have Xy:=JJ Ug.out.own;clear l6 o6 k6 k1 hlt1 akR z0 z1 z2 z3 z4 z5 z6 z7 z8;have k1:=Ug.out.row.2;have hlt1:=Ug.out.row.1;have z0:w6.cell? ⟨b,off+k*9,none⟩=some (.string nm):=(Ug.out.keep.Oz.cell (p:=⟨b,off+k*9,none⟩) Rl).trans (by rw[<-hnm];exact Ov.out 0 _ rfl);have z1:w6.cell? ⟨b,off+k*9+1,none⟩=some (I x.e.z.cal.KI):=(Ug.out.keep.Oz.cell (p:=⟨b,off+k*9+1,none⟩) Rl).trans (Ov.out 1 _ rfl);have z2:w6.cell? ⟨b,off+k*9+2,none⟩=some (.slice x.s.A x.e.z.cal.JQ.length x.s.a):=(Ug.out.keep.Oz.cell (p:=⟨b,off+k*9+2,none⟩) Rl).trans (Ov.out 2 _ rfl);have z3:w6.cell? ⟨b,off+k*9+3,none⟩=some (I x.e.z.cal.Lm):=(Ug.out.keep.Oz.cell (p:=⟨b,off+k*9+3,none⟩) Rl).trans (Ov.out 3 _ rfl);have z4:w6.cell? ⟨b,off+k*9+4,none⟩=some (.slice x.s.B x.e.z.cal.rules.length x.s.b):=(Ug.out.keep.Oz.cell (p:=⟨b,off+k*9+4,none⟩) Rl).trans (Ov.out 4 _ rfl);have z5:w6.cell? ⟨b,off+k*9+5,none⟩=some (I x.e.z.start):=(Ug.out.keep.Oz.cell (p:=⟨b,off+k*9+5,none⟩) Rl).trans (Ov.out 5 _ rfl);have z6:w6.cell? ⟨b,off+k*9+6,none⟩=some (.slice x.s.C x.e.z.trans.length x.s.c):=(Ug.out.keep.Oz.cell (p:=⟨b,off+k*9+6,none⟩) Rl).trans (Ov.out 6 _ rfl);have z7:w6.cell? ⟨b,off+k*9+7,none⟩=some (I x.e.z.hor):=(Ug.out.keep.Oz.cell (p:=⟨b,off+k*9+7,none⟩) Rl).trans (Ov.out 7 _ rfl);have z8:w6.cell? ⟨b,off+k*9+8,none⟩=some (.slice x.s.D x.e.z.J6.length x.s.d):=(Ug.out.keep.Oz.cell (p:=⟨b,off+k*9+8,none⟩) Rl).trans (Ov.out 8 _ rfl);go_wp2_with(at_builtin;refine aau rfl _ _ rfl w.heap.size _ n6 (pre2.map Extern.Stop.cell) rfl Xy.out nm rfl (by have:=HNS.out;omega) (by omega) ?_);intro v' w7 hown hg hat;obtain⟨A7,d7,rfl⟩:=LU hown;have HC7:Hid (CB w.heap.size (.slice none 0 0) w (JK t (.slice (some ⟨b,off,none⟩) n c)) (pre2++nm.data.toList) A7 (n6+nm.size) d7 w7):=JJ (Ug.out.next (by unfold Rh;rw[bY];exact hown) (by rw[KN,Ug.out.len,dF];rfl) (Vu.app0 hg hat));clear hown hg hat k1 hlt1 z0 z1 z2 z3 z4 z5 z6 z7 z8;have k1:=HC7.out.row.2;have hlt1:=HC7.out.row.1;have z0:w7.cell? ⟨b,off+k*9,none⟩=some (.string nm):=(HC7.out.keep.Oz.cell (p:=⟨b,off+k*9,none⟩) Rl).trans (by rw[<-hnm];exact Ov.out 0 _ rfl);have z1:w7.cell? ⟨b,off+k*9+1,none⟩=some (I x.e.z.cal.KI):=(HC7.out.keep.Oz.cell (p:=⟨b,off+k*9+1,none⟩) Rl).trans (Ov.out 1 _ rfl);have z2:w7.cell? ⟨b,off+k*9+2,none⟩=some (.slice x.s.A x.e.z.cal.JQ.length x.s.a):=(HC7.out.keep.Oz.cell (p:=⟨b,off+k*9+2,none⟩) Rl).trans (Ov.out 2 _ rfl);have z3:w7.cell? ⟨b,off+k*9+3,none⟩=some (I x.e.z.cal.Lm):=(HC7.out.keep.Oz.cell (p:=⟨b,off+k*9+3,none⟩) Rl).trans (Ov.out 3 _ rfl);have z4:w7.cell? ⟨b,off+k*9+4,none⟩=some (.slice x.s.B x.e.z.cal.rules.length x.s.b):=(HC7.out.keep.Oz.cell (p:=⟨b,off+k*9+4,none⟩) Rl).trans (Ov.out 4 _ rfl);have z5:w7.cell? ⟨b,off+k*9+5,none⟩=some (I x.e.z.start):=(HC7.out.keep.Oz.cell (p:=⟨b,off+k*9+5,none⟩) Rl).trans (Ov.out 5 _ rfl);have z6:w7.cell? ⟨b,off+k*9+6,none⟩=some (.slice x.s.C x.e.z.trans.length x.s.c):=(HC7.out.keep.Oz.cell (p:=⟨b,off+k*9+6,none⟩) Rl).trans (Ov.out 6 _ rfl);have z7:w7.cell? ⟨b,off+k*9+7,none⟩=some (I x.e.z.hor):=(HC7.out.keep.Oz.cell (p:=⟨b,off+k*9+7,none⟩) Rl).trans (Ov.out 7 _ rfl);have z8:w7.cell? ⟨b,off+k*9+8,none⟩=some (.slice x.s.D x.e.z.J6.length x.s.d):=(HC7.out.keep.Oz.cell (p:=⟨b,off+k*9+8,none⟩) Rl).trans (Ov.out 8 _ rfl);go_wp2_with fail;refine(amq w.heap.size (n6+nm.size) d7 A7 _ x.e.z x.s w7 HC7.out.len (by have:=HNS.out;omega) azI.out (HZN.out.keep HC7.out.keep.Oz) HC7.out.keep.size HC7.out.own).mono ?_;rintro e w8 ⟨A8,n8,d8,l8,rfl,o8,k8⟩;have HC8:=JJ (HC7.out.next o8 l8 k8);clear l8 o8 k8 k1 hlt1 z0 z1 z2 z3 z4 z5 z6 z7 z8;go_wp2_with fail;go_roundw
   case rel=>exact⟨k+1,n8,d8,A8,by omega,rfl,by go_num,by
    have hc:=HC8.out;rw[<-HP2.out,<-aaQ.out] at hc;show CB _ _ _ _ (_++(t.JX.take (k+1)).flatMap UX) _ _ _ _;rw[TP _ _ _ _ HZX.out,show UX x.e=le (nm.size:Nat) 1++(nm.data.toList++ac2 x.e.z) by unfold UX;rw[HNM.out]];simpa[List.append_assoc] using hc⟩
   case measure=>simp[intOf];omega
  ·have HK:Hid (k=n):=JJ (by omega);go_wp2_with fail;go_ret2;have hb:=HB.out;have e1:pre=Rq t:=by
    rw[<-aaQ.out,HK.out,aU (by rw[HZ.out,aI,HNN.out];exact ay _),<-HHD.out];simp[Rq,HZ.out,HNN.out,List.append_assoc]
   rw[e1] at hb;exact⟨A5,n5,c5,hb.len,rfl,hb.own,hb.keep.Oz⟩
attribute [local go_sem] NT NU OH LD
theorem aee (x:Kv)(w:ae)(hx:Ld w w.heap.size x)(hv:O0 x.t≠0):
  Calls Tryz.prog 30 #[.agg (JK x.t (.slice x.A x.zs.length x.c))] w (fun e w'=>e=.returned (.tuple #[.slice none 0 0,I (O0 x.t)])/\ai w.heap.size w w'):=by
 have HVL:Hid (∀W,ai w.heap.size w W->Calls Tryz.prog 33 #[.agg (JK x.t (.slice x.A x.zs.length x.c))] W (Gives (I (O0 x.t)) W)):=JJ fun W hb=>Wv x.t x.A x.zs.length x.c x.zs W hx.prev hx.Ku hx.names rfl (hx.grow hb).JX;have L6:=JJ (Ky x.t (.slice x.A x.zs.length x.c) hx.prev hx.Ku);obtain⟨t,A,c,zs⟩:=x;obtain⟨n,hn⟩:∃n,zs.length=n:=⟨_,rfl⟩;simp only at HVL hv L6⊢;rw[hn] at HVL L6⊢;obtain⟨rv,U1⟩:∃v,O0 t=v:=⟨_,rfl⟩;rw[U1] at HVL hv⊢;have HB0:=JJ (JM w (.cells (JK t (.slice A n c)) 26));have HR0:=JJ (Row.new w (JK t (.slice A n c)) 26);have q12:(rv !=0)=true:=by simp[hv]
 clear hx hn U1;go_enter Tryz.func30,Tryz.ntmps30;go_wp2_with((with_reducible refine KO 26 ?_);refine KF rfl _ _ rfl w.heap.size rfl (JK t (.slice A n c)) HR0.out _ az rfl L6.out ?_);refine(HVL.out _ HB0.out).mono ?_;rintro e w1 ⟨rfl,hb1⟩;have HB1:=JJ (JL HB0.out hb1);clear hb1;go_wp2_with fail;go_ret2;exact⟨rfl,HB1.out⟩
end
end Go.Proofs.YtbaehbbonkljpaaGreatDoor
