/- The texts Vh, Vi, Vy, in this order. -/
import Derived.Test.YtbaehbbonkljpaaGreatR00
import Derived.Test.YtbaehbbonkljpaaGreatR18
import Derived.Test.YtbaehbbonkljpaaGreatR24
import Derived.Test.YtbaehbbonkljpaaGreatR25
import Derived.Test.YtbaehbbonkljpaaGreatR27
import Derived.Test.YtbaehbbonkljpaaGreatR33
set_option maxRecDepth 10000
set_option maxHeartbeats 8000000
namespace Go.Proofs.YtbaehbbonkljpaaGreat
open Go Go.RowKit
theorem Tt:∀(l:List UInt8),Op.bytesLess l []=false
 | []=>rfl
 |_::_=>rfl
theorem TM:∀(l:List UInt8),(Op.bytesLess [] l||(([]:List UInt8)==l))=true
 | []=>rfl
 |_::_=>rfl
theorem Rw {x:ByteArray} (h:x.size=0):x.toList= []:=by
 have h1:x=⟨#[]⟩:=by
  obtain ⟨d⟩:=x;have h2:d.size=0:=h;rw [Array.eq_empty_of_size_eq_zero h2]
 rw [h1];decide+kernel
theorem IC (x L:ByteArray) (h:x.size=0):lM x L=true:=by
 unfold lM;rw [Rw h];exact TM _
theorem IE (x:ByteArray) (h:1≤x.size):lM x ⟨#[]⟩=false:=by
 unfold lM;rw [Rw (x:=⟨#[]⟩) rfl,Tt,Bool.false_or];cases e:x.toList with
 |nil=>
  have h1:x.toList.length=x.size:=by rw [Lib.toList_data];exact Array.length_toList
  rw [e] at h1;simp at h1;omega
 |cons a l=>rfl
def hdF (t:Tb):Bool:= !(VE t||VF t)
theorem KO (xs:List UInt8) (h:xs.length=32):∀W,(binOp .eql 24 (.agg (ay xs).toArray) (.agg (ay bU).toArray)).run Tryz.prog W= .ok (.bool (xs==bU)) W:=fun W=>by
 unfold ay;rw [run_eql_struct,run_equalIn_bytes W 9998 24 5 32 Tryz.underlying24 Tryz.underlying5 (fun w=>FO w) xs bU h rfl];simp [Result.andThen]
theorem XQ (t:Tb) (A:Option Addr) (n c:Nat) (w:World) (hp:t.prev.length=32):
  Calls Tryz.prog 43 #[.agg (ah t (.slice A n c))] w (Gives (.bool (hdF t)) w):=by
 have HR0:=ae (Row.new w (ah t (.slice A n c)) 39);have HB0:=ae (ag w (.cells (ah t (.slice A n c)) 39));have h32:(Tryz.prog.info? 24).map (·.size)=some (ay t.prev).length:=by rw [show (ay t.prev).length=32 by simp [ay,hp]];kernel_rfl
 have HP:=ae (qP t (.slice A n c) HR0.out);have VM:=ae h32;have heq:=KO t.prev hp;rw [wY] at heq;obtain ⟨pz,hpz⟩:∃b,(t.prev==bU)=b:=⟨_,rfl⟩;rw [hpz] at heq;obtain ⟨ti,hti⟩:∃x,t.bV=x:=⟨_,rfl⟩;obtain ⟨tv,Fz⟩:∃x,t.version=x:=⟨_,rfl⟩;obtain ⟨tw,htw⟩:∃x,t.aO=x:=⟨_,rfl⟩;have HK:Hid (∀W,Row W w.heap.size (ah t (.slice A n c))→W.cell? ⟨w.heap.size,0,none⟩=some (I ti)∧W.cell? ⟨w.heap.size,1,none⟩=some (I tv)∧W.cell? ⟨w.heap.size,2,none⟩=some (I tw)):=ae (fun W h=>⟨(h.2 0).trans (by rw [←hti];rfl),(h.2 1).trans (by rw [←Fz];rfl),(h.2 2).trans (by rw [←htw];rfl)⟩);have HT1:Hid (VE t=decide (ti<0∨16≤ti∨tv<1∨64<tv)):=ae (by unfold VE;rw [hti,Fz]);have HT2:Hid (VF t=decide (tw<0∨tv≤tw∨(tv=1∧pz=false))):=ae (by unfold VF;rw [htw,Fz,hpz]);obtain ⟨g,hg⟩:∃g,hdF t=g:=⟨_,rfl⟩;have HG:Hid (g= !(decide (ti<0∨16≤ti∨tv<1∨64<tv)||decide (tw<0∨tv≤tw∨(tv=1∧pz=false)))):=ae (by rw [←hg];unfold hdF;rw [HT1.out,HT2.out]);rw [hg];have uB:=ae heq;clear hg hti Fz htw hpz h32 hp heq HT1 HT2;have h9:(ti<0)∨(¬ti<0∧(15:Int)<ti)∨(¬ti<0∧¬(15:Int)<ti∧tv<1)∨(¬ti<0∧¬(15:Int)<ti∧¬tv<1∧(64:Int)<tv)∨(¬ti<0∧¬(15:Int)<ti∧¬tv<1∧¬(64:Int)<tv∧tw<0)∨(¬ti<0∧¬(15:Int)<ti∧¬tv<1∧¬(64:Int)<tv∧¬tw<0∧tv≤tw)∨(¬ti<0∧¬(15:Int)<ti∧¬tv<1∧¬(64:Int)<tv∧¬tw<0∧¬tv≤tw):=by omega
 rcases h9 with u0|⟨u0,u1⟩|⟨u0,u1,u2⟩|⟨u0,u1,u2,u3⟩|⟨u0,u1,u2,u3,u4⟩|⟨u0,u1,u2,u3,u4,u5⟩|⟨u0,u1,u2,u3,u4,u5⟩
 iterate 6
  ·have HF:Hid (g=false):=ae (by
    rw [HG.out]
    first
     |rw [decide_eq_true (show ti<0∨16≤ti∨tv<1∨64<tv by omega)];rfl
     |rw [decide_eq_true (show tw<0∨tv≤tw∨(tv=1∧pz=false) by omega),Bool.or_true];rfl)
   go_enter Tryz.func43,Tryz.ntmps43;go_upto_region 1 with fail;generalize w.alloc (.cells (ah t (.slice A n c)) 39)=W0 at HR0 HB0 HP ⊢;obtain ⟨k0,k1,k2⟩:=HK.out W0 HR0.out;go_wp2_with fail;go_ret;exact ⟨by rw [HF.out];rfl,HB0.out⟩
 have HD1:Hid (decide (ti<0∨16≤ti∨tv<1∨64<tv)=false):=ae (decide_eq_false (by omega));by_cases hv:tv=1
 ·have hv1:¬(1:Int)<tv:=by omega
  have HF:Hid (g=pz):=ae (by
   rw [HG.out,HD1.out,Bool.false_or];cases pz with
   |true=>rw [decide_eq_false (fun h=>by rcases h with h|h|⟨_,h⟩<;>first|omega|cases h)];rfl
   |false=>rw [decide_eq_true (.inr (.inr ⟨hv,rfl⟩))];rfl)
  go_enter Tryz.func43,Tryz.ntmps43;go_upto_region 1 with fail;generalize w.alloc (.cells (ah t (.slice A n c)) 39)=W0 at HR0 HB0 HP ⊢;obtain ⟨k0,k1,k2⟩:=HK.out W0 HR0.out;have heq:=uB.out;go_wp2_with ((with_reducible refine fU 24 ?_);refine dw rfl _ _ rfl w.heap.size 4 rfl (ay t.prev) HP.out _ Tryz.underlying24 rfl VM.out ?_);go_ret;exact ⟨by rw [HF.out];rfl,HB0.out⟩
 ·have hv1:(1:Int)<tv:=by omega
  have HF:Hid (g=true):=ae (by
   rw [HG.out,HD1.out,Bool.false_or,decide_eq_false (show¬(tw<0∨tv≤tw∨(tv=1∧pz=false)) by omega)];rfl)
  go_enter Tryz.func43,Tryz.ntmps43;go_upto_region 1 with fail;generalize w.alloc (.cells (ah t (.slice A n c)) 39)=W0 at HR0 HB0 HP ⊢;obtain ⟨k0,k1,k2⟩:=HK.out W0 HR0.out;go_wp2_with fail;go_ret;exact ⟨by rw [HF.out];rfl,HB0.out⟩
theorem Bq (t:Tb) (A:Option Addr) (n c:Nat) (zs:List dB) (w:World) (hp:t.prev.length=32) (hm:t.dQ.length=32) (hz:t.aG=zs.map (·.e)) (hn:zs.length=n) (hA:kH w w.heap.size A zs):
  Calls Tryz.prog 21 #[.agg (ah t (.slice A n c))] w (Gives (I (pM t)) w):=by
 have HB0:=ae (ag w (.cells (ah t (.slice A n c)) 39));have xm:Hid (TVr w (ah t (.slice A n c)) A zs (w.alloc (.cells (ah t (.slice A n c)) 39))):=ae ⟨Row.new w _ _,hA.keep HB0.out,HB0.out⟩;obtain ⟨hd,hhd⟩:∃b,hdF t=b:=⟨_,rfl⟩;have HHD:Hid (∀W,Calls Tryz.prog 43 #[.agg (ah t (.slice A n c))] W (Gives (.bool hd) W)):=ae fun W=>by rw [←hhd];exact XQ t A n c W hp
 have fG:=ae (bG t (.slice A n c) hp hm);have HZ:=ae hz;have Vp:=ae hn;have HNZ:Hid (t.aG.length=n):=ae (by rw [hz,List.length_map,hn]);obtain ⟨rv,yY⟩:∃v,pM t=v:=⟨_,rfl⟩;rw [yY];have Z8:Hid (rv=if hd=false then 1 else if 128<n then 2 else dY ⟨#[]⟩ t.aG):=ae (by
  rw [←yY,←hhd];unfold pM hdF;rw [HNZ.out];cases VE t<;>cases VF t<;>rfl)
 clear hz hp hm hA hn HB0 hhd yY;go_enter Tryz.func21,Tryz.ntmps21;go_wp2_with ((with_reducible refine gz 39 ?_);go_must (refine aX rfl _ _ rfl w.heap.size rfl (ah t (.slice A n c)) xm.out.row _ Tryz.underlying39 rfl fG.out ?_));refine (HHD.out _).mono ?_;rintro e w1 ⟨rfl,hb1⟩;have kS:=ae (xm.out.below hb1);clear hb1 xm;cases hd with
 |false=>
  have HF:Hid (rv=1):=ae (by rw [Z8.out,if_pos rfl]);go_wp2_with fail;go_ret;exact ⟨by rw [HF.out];rfl,kS.out.up⟩
 |true=>
  have k3:w1.cell? ⟨w.heap.size,3,none⟩=some (.slice A n c):=kS.out.row.2 3;by_cases q7:128<n
  ·have q8:(128:Int)<(n:Int):=by omega
   have HF:Hid (rv=2):=ae (by rw [Z8.out,if_neg (by simp),if_pos q7]);go_wp2_with fail;go_ret;exact ⟨by rw [HF.out];rfl,kS.out.up⟩
  ·have q8:¬(128:Int)<(n:Int):=by omega
   have lN:Hid (rv=dY ⟨#[]⟩ t.aG):=ae (by rw [Z8.out,if_neg (by simp),if_neg q7]);go_wp2_with fail;clear k3
   go_loopw [3] (fun i wr=>∃k:Nat,k≤n∧i=I (k:Int)∧dY ⟨#[]⟩ t.aG=dY (jD zs k) (t.aG.drop k)∧TVr w (ah t (.slice A n c)) A zs wr) (fun i _=>n - (intOf i).toNat)
   case atStart=>exact ⟨0,Nat.zero_le _,rfl,rfl,kS.out⟩
   case round=>
    obtain ⟨k,hk,rfl,hen,Fz⟩:=hrel;have HV:=ae Fz;have VU:=ae hen;have k3:wr.cell? ⟨w.heap.size,3,none⟩=some (.slice A n c):=Fz.row.2 3;have hlt1:=Fz.row.1;clear Fz kS hen;by_cases hlt:k<n
    ·have hkz:k<zs.length:=by rw [Vp.out];exact hlt
     obtain ⟨x,hx⟩:∃x,zs[k]? =some x:=⟨_,bZ hkz⟩;obtain ⟨b,off,rfl,hbl,hr⟩:=kH.at HV.out.mem hx;have hi:=HV.out.mem.each x (gU hx);have i0:(0:Int)≤(k:Int):=by omega
     have i1:(k:Int)<(n:Int):=by omega
     have c0:wr.cell? ⟨b,off+k*9,none⟩=some (.string x.e.name):=hr 0 _ rfl;have c1:wr.cell? ⟨b,off+k*9+1,none⟩=some (I x.e.z.cal.aJ):=hr 1 _ rfl;have c2:wr.cell? ⟨b,off+k*9+2,none⟩=some (.slice x.s.A x.e.z.cal.aj.length x.s.a):=hr 2 _ rfl;have c3:wr.cell? ⟨b,off+k*9+3,none⟩=some (I x.e.z.cal.aY):=hr 3 _ rfl;have c4:wr.cell? ⟨b,off+k*9+4,none⟩=some (.slice x.s.B x.e.z.cal.rules.length x.s.b):=hr 4 _ rfl;have c5:wr.cell? ⟨b,off+k*9+5,none⟩=some (I x.e.z.start):=hr 5 _ rfl;have c6:wr.cell? ⟨b,off+k*9+6,none⟩=some (.slice x.s.C x.e.z.trans.length x.s.c):=hr 6 _ rfl;have c7:wr.cell? ⟨b,off+k*9+7,none⟩=some (I x.e.z.hor):=hr 7 _ rfl;have c8:wr.cell? ⟨b,off+k*9+8,none⟩=some (.slice x.s.D x.e.z.ax.length x.s.d):=hr 8 _ rfl;have HX:=ae hx;have HI:=ae hi;obtain ⟨L,hL⟩:∃L,jD zs k=L:=⟨_,rfl⟩;have Y6:Hid (∀w',Below wr.heap.size wr w'→Calls Tryz.prog 44 #[.agg (au x.e.z x.s)] w' (Gives (I (uA x.e.z)) w')):=ae fun w' hb=>
      IY x.e.z x.s w' (((HI.out.more HV.out.up.size).keep hb).more hb.size)
     unfold au at Y6;have hdr:t.aG.drop k=x.e::t.aG.drop (k+1):=by
      have h1:t.aG[k]? =some x.e:=by rw [HZ.out,List.getElem?_map,hx];rfl
      have h2:k<t.aG.length:=(iT.1 h1).1;rw [List.drop_eq_getElem_cons h2];rw [bZ h2] at h1;injection h1 with h1;rw [h1]
     rw [hL] at VU;obtain ⟨zv,hzv⟩:∃v,uA x.e.z=v:=⟨_,rfl⟩;have uB:Hid (dY ⟨#[]⟩ t.aG=if 32<x.e.name.size∨lM x.e.name L=true then 1 else if zv=0 then dY x.e.name (t.aG.drop (k+1)) else zv):=ae (by rw [VU.out,hdr,nX,hzv]);rw [hzv] at Y6;have hlb:b<wr.heap.size:=by have:=HV.out.up.size;omega
     have EI:Hid (jD zs (k+1)=x.e.name):=ae (by show (zs[k]?.map (·.e.name)).getD ⟨#[]⟩=_;rw [hx];rfl);clear hr hi hkz hdr hzv VU;by_cases q9:32<x.e.name.size
     ·have q10:(32:Int)<(x.e.name.size:Int):=by omega
      have q10':¬(x.e.name.size:Int)<1:=by omega
      clear hx hL;have HR:Hid (dY ⟨#[]⟩ t.aG=1):=ae (by rw [uB.out,if_pos (.inl q9)]);go_wp2_with fail;go_ret;exact ⟨by rw [lN.out,HR.out];rfl,HV.out.up⟩
     ·have q10:¬(32:Int)<(x.e.name.size:Int):=by omega
      obtain ⟨s1,hs1⟩:∃b,Op.bytesLess x.e.name.toList L.toList=b:=⟨_,rfl⟩;obtain ⟨s2,hs2⟩:∃b,(x.e.name.toList==L.toList)=b:=⟨_,rfl⟩;have OG:Hid (lM x.e.name L=(s1||s2)):=ae (by unfold lM;rw [hs1,hs2]);by_cases q13:x.e.name.size<1
      ·have q14:(x.e.name.size:Int)<1:=by omega
       have zn:Hid (lM x.e.name L=true):=ae (IC _ _ (by omega));clear hx hL hs1 hs2;have HR:Hid (dY ⟨#[]⟩ t.aG=1):=ae (by rw [uB.out,if_pos (.inr zn.out)]);go_wp2_with fail;go_ret;exact ⟨by rw [lN.out,HR.out];rfl,HV.out.up⟩
      ·have q14:¬(x.e.name.size:Int)<1:=by omega
       cases k with
       |zero=>
        have HN0:Hid (lM x.e.name L=false):=ae (by rw [←hL];exact IE _ (by omega));have OG:Hid (lM x.e.name L=false):=HN0;clear hx hL hs1 hs2;simp only [Nat.zero_mul,Nat.add_zero] at c0 c1 c2 c3 c4 c5 c6 c7 c8;have HR:Hid (dY ⟨#[]⟩ t.aG=if zv=0 then dY x.e.name (t.aG.drop (0+1)) else zv):=ae (by rw [uB.out,if_neg (by rw [OG.out];rintro (h|h);exact q9 h;cases h)]);go_wp2_with fail;refine (Y6.out _ (Below.refl _ _)).mono ?_;rintro e w2 ⟨rfl,hb2⟩;have jk:=ae (HV.out.below hb2);clear hb2;by_cases q11:zv=0
        ·have HR2:Hid (dY ⟨#[]⟩ t.aG=dY x.e.name (t.aG.drop (0+1))):=ae (by rw [HR.out,if_pos q11]);subst q11;go_wp2_with fail;go_roundw
         case rel=>exact ⟨0+1,by omega,by go_num,by rw [EI.out];exact HR2.out,jk.out⟩
         case measure=>simp [intOf];omega
        ·have HR2:Hid (dY ⟨#[]⟩ t.aG=zv):=ae (by rw [HR.out,if_neg q11]);have q12:(zv !=0)=true:=by simp [q11]
         go_wp2_with fail;go_ret;exact ⟨by rw [lN.out,HR2.out];rfl,jk.out.up⟩
       |succ j=>
        obtain ⟨y,hy⟩:∃y,zs[j]? =some y:=⟨_,bZ (by rw [Vp.out];omega)⟩;obtain ⟨b',off',e',hbl',hr'⟩:=kH.at HV.out.mem hy;injection e' with e';injection e' with e1 e2;subst e1 e2;have hyL:y.e.name=L:=by rw [←hL];show _=(zs[j]?.map (·.e.name)).getD ⟨#[]⟩;rw [hy];rfl
        have d0:wr.cell? ⟨b,off+j*9,none⟩=some (.string L):=by rw [←hyL];exact hr' 0 _ rfl
        have j1:((j+1:Nat):Int) - 1=(j:Int):=by omega
        have j2:(j:Int)<(n:Int):=by omega
        have j3:(0:Int)<(j:Int)+1:=by omega
        clear hx hL hy hr' hbl' hyL;cases s1 with
        |true=>
         have HR:Hid (dY ⟨#[]⟩ t.aG=1):=ae (by rw [uB.out,if_pos (.inr (by rw [OG.out,Bool.true_or]))]);go_wp2_with fail;go_ret;exact ⟨by rw [lN.out,HR.out];rfl,HV.out.up⟩
        |false=>
        cases s2 with
        |true=>
         have HR:Hid (dY ⟨#[]⟩ t.aG=1):=ae (by rw [uB.out,if_pos (.inr (by rw [OG.out];rfl))]);go_wp2_with fail;go_ret;exact ⟨by rw [lN.out,HR.out];rfl,HV.out.up⟩
        |false=>
         have HR:Hid (dY ⟨#[]⟩ t.aG=if zv=0 then dY x.e.name (t.aG.drop (j+1+1)) else zv):=ae (by rw [uB.out,if_neg (by rw [OG.out];rintro (h|h);exact q9 h;cases h)]);go_wp2_with fail;refine (Y6.out _ (Below.refl _ _)).mono ?_;rintro e w2 ⟨rfl,hb2⟩;have jk:=ae (HV.out.below hb2);clear hb2;by_cases q11:zv=0
         ·have HR2:Hid (dY ⟨#[]⟩ t.aG=dY x.e.name (t.aG.drop (j+1+1))):=ae (by rw [HR.out,if_pos q11]);subst q11;go_wp2_with fail;go_roundw
          case rel=>exact ⟨j+1+1,by omega,by go_num,by rw [EI.out];exact HR2.out,jk.out⟩
          case measure=>simp [intOf];omega
         ·have HR2:Hid (dY ⟨#[]⟩ t.aG=zv):=ae (by rw [HR.out,if_neg q11]);have q12:(zv !=0)=true:=by simp [q11]
          go_wp2_with fail;go_ret;exact ⟨by rw [lN.out,HR2.out];rfl,jk.out.up⟩
    ·have hkn:k=n:=by omega
     have HR:Hid (dY ⟨#[]⟩ t.aG=0):=ae (by rw [VU.out,List.drop_of_length_le (by rw [HNZ.out];omega)];rfl);have i1:¬(k:Int)<(n:Int):=by omega
     clear hkn;go_wp2_with fail;go_ret;exact ⟨by rw [lN.out,HR.out];rfl,HV.out.up⟩
theorem yR.z14 {z:Zn} (h:yR z):Z14 z:=by
 have hc:=h.cal;have hg:=qj z.cal.rules 1 hc.per;have hs:=h.st;have hh:=h.ho;have hl:=h.Oq;refine ⟨⟨⟨by have:=hc.ep;omega,by have:=hc.ep;omega⟩,by have:=hc.ml;omega,fun x hx=>⟨by have:=hc.mo x hx;omega,by have:=hc.mo x hx;omega⟩,⟨hc.lp.1,by have h1:=hc.lp;have h2:=hc.ml;omega⟩,by have:=hc.rl;omega,fun r hr=>?_⟩,⟨by omega,by omega⟩,by omega,fun x hx=>?_,⟨by omega,by omega⟩,by have:=h.yr.len;omega,fun y hm=>?_⟩
 ·obtain ⟨h1,h2,h3⟩:=hg r hr;exact ⟨⟨by omega,by omega⟩,⟨by omega,by omega⟩⟩
 ·obtain ⟨h1,h2,h3⟩:=h.trs x hx;exact ⟨⟨by omega,by omega⟩,⟨by omega,by omega⟩⟩
 ·have hS:=h.yr.mem y hm;have h1:=hS.mo;have h2:=hS.wk;have h3:=hS.wd;have h4:=hS.mi;have h5:=hS.of;have h6:=hc.ml;exact ⟨⟨by omega,by omega⟩,⟨by omega,by omega⟩,⟨by omega,by omega⟩,⟨by omega,by omega⟩,⟨by omega,by omega⟩⟩
theorem U5 (e:Ze) (h:yR e.z) (hn:e.name.size≤32):(rQ e).length≤5400:=by
 have g1:=eX (le · 1) e.z.cal.aj 1 e.z.cal.aj.length (fun _=>aC _ _);have g2:=eX TA e.z.cal.rules 5 e.z.cal.rules.length zD;have g3:=eX Uz e.z.trans 10 e.z.trans.length FX;have g4:=eX VG e.z.ax 7 e.z.ax.length Gn;rw [List.take_length] at g1 g2 g3 g4;have h1:=h.cal.ml;have h2:=h.cal.rl;have h3:=h.Oq;have h4:=h.yr.len;have h5:e.name.data.toList.length=e.name.size:=by rw [Array.length_toList];rfl
 simp only [rQ,Gt,rq,bH,aC];omega
def Yy (w:World) (t:Tb) (e:Ending) (w':World):Prop:=(pM t=0∧OB w t e w')∨(pM t≠0∧e= .returned (.tuple #[.slice none 0 0,I (pM t)])∧Below w.heap.size w w')
attribute [local go_sem] iY iZ ja bC
theorem qN (x:fH) (w:World) (hx:jB w w.heap.size x) (hv:pM x.t=0):
  Calls Tryz.prog 7 #[.agg (ah x.t (.slice x.A x.zs.length x.c))] w (OB w x.t):=by
 obtain ⟨i0,hi,hz0,hz1,hz2⟩:=info_parts lh;have HI:=ae hi;have HZ0:=ae hz0;have HZ1:=ae hz1;have HZ2:=ae hz2;clear hi hz0 hz1 hz2;have JZ:Hid (∀W,Below w.heap.size w W→Calls Tryz.prog 21 #[.agg (ah x.t (.slice x.A x.zs.length x.c))] W (Gives (.int .i64 0) W)):=ae fun W hb=>by
  have h0:=hx.grow hb;have h1:=Bq x.t x.A x.zs.length x.c x.zs W h0.prev h0.dQ h0.names rfl h0.aG
  rwa [hv] at h1
 have h:TbY x.t:=BI hv hx.prev hx.dQ;clear hv;obtain ⟨t,A,c,zs⟩:=x;obtain ⟨hz,hp,hm,hA⟩:=hx;simp only at hz hp hm hA h JZ ⊢;obtain ⟨n,hn⟩:∃n,zs.length=n:=⟨_,rfl⟩;rw [hn] at JZ ⊢;have HB0:=ae (ag w (.cells (ah t (.slice A n c)) 39));have HR0:=ae (Row.new w (ah t (.slice A n c)) 39);have fG:=ae (bG t (.slice A n c) hp hm);have hn3:n≤128:=by have:=h.num;rw [hz,List.length_map,hn] at this;exact this
 have HF:=ae h;have HZ:=ae hz;have Vp:=ae hn;have JV:=ae hp;have HA:=ae hA;have h32:(Tryz.prog.info? 24).map (·.size)=some (ay t.prev).length:=by rw [show (ay t.prev).length=32 by simp [ay,hp]];kernel_rfl
 have VM:=ae h32;clear h hz hp hm hA hn h32;go_enter Tryz.func7,Tryz.ntmps7;go_wp2_with ((with_reducible refine gz 39 ?_);go_must (refine aX rfl _ _ rfl w.heap.size rfl (ah t (.slice A n c)) HR0.out _ Tryz.underlying39 rfl fG.out ?_));refine (JZ.out _ HB0.out).mono ?_;rintro e w1 ⟨rfl,hb1⟩;have HR1:=ae (HR0.out.keep hb1);have HB1:=ae (ai HB0.out hb1);have mZ:Hid (CB w.heap.size (.slice none 0 0) w (ah t (.slice A n c)) [byteOf t.bV,byteOf t.version,byteOf t.aO] (some ⟨w1.heap.size,0,none⟩) 3 3 (w1.alloc (.cells #[Value.int .u8 (t.bV%256),Value.int .u8 (t.version%256),Value.int .u8 (t.aO%256)] 5))):=ae (CB.lit HR1.out HB1.out _ 3 rfl (by omega) _ (by simp only [List.map_cons,List.map_nil,fQ]));have nS:=ae (qP t (.slice A n c) mZ.out.row);have k1:=HR1.out.2;have hlt1:=HR1.out.1;clear hb1 HR0 HB0 JZ;go_wp2_with (with_reducible refine fU 24 ?_;refine dw rfl _ _ rfl w.heap.size 4 rfl (ay t.prev) nS.out _ Tryz.underlying24 rfl VM.out ?_);generalize w1.alloc (.cells #[Value.int .u8 (t.bV%256),Value.int .u8 (t.version%256),Value.int .u8 (t.aO%256)] 5)=W1 at mZ nS ⊢;refine (xA t.prev W1 JV.out).mono ?_;rintro e w2 ⟨A2,n2,c2,l2,rfl,o2,k2⟩;have hn2:n2=32:=by rw [←l2,JV.out]
 subst hn2;have HC2:=ae (mZ.out.grow k2.je);obtain ⟨g,cap,hgv,hgl⟩:=fM o2 (by omega);injection hgv with hA2 _ hC2;subst hA2 hC2;have QR:Hid (∀j u,(t.prev.map Extern.Stop.cell)[j]? =some u→w2.cell? ((⟨g,0,none⟩:Addr).add j)=some u):=ae (fun j u hu=>World.ownsRow.cells o2 (g:=g) rfl j u hu);have uD:Hid ((t.prev.map Extern.Stop.cell).length=32*1):=ae (by rw [List.length_map,JV.out]);have rW:Hid (∀u∈t.prev.map Extern.Stop.cell,u.oneCell'=true):=ae (fun u hu=>by obtain ⟨x,_,rfl⟩:=List.mem_map.1 hu;rfl);have hsz2:w.heap.size≤w2.heap.size:=HC2.out.keep.size;obtain ⟨hd,hhd⟩:∃l,[byteOf t.bV,byteOf t.version,byteOf t.aO]=l:=⟨_,rfl⟩;have HHD:=ae hhd;rw [hhd] at HC2;have rF:=ae HC2.out.own;clear o2 l2 k2 hgl hhd k1 hlt1;go_wp2_with (at_builtin;go_must (refine wpList_append_own_at _ rfl _ _ 22 rfl w.heap.size 5 i0 (.int .u8 0) 1 1 Tryz.underlying22 HI.out HZ0.out HZ1.out HZ2.out rfl (by decide) _ 3 (hd.map Extern.Stop.cell) rfl rF.out ⟨g,0,none⟩ 32 c2 (t.prev.map Extern.Stop.cell) rfl uD.out QR.out rW.out (by unfold maxLen;omega) (by omega) (by omega) ?_));intro v' w3 hown hg _ hat;obtain ⟨A3,c3,rfl⟩:=fC hown;have yO:Hid (CB w.heap.size (.slice none 0 0) w (ah t (.slice A n c)) (hd++t.prev) A3 35 c3 w3):=ae (HC2.out.next (by unfold mY;rw [List.map_append];exact hown) (by rw [bH,HC2.out.len,JV.out]) (uh.app0 hg hat));clear hown hg hat;have k1:=yO.out.row.2;have hlt1:=yO.out.row.1;go_wp2_with fail;refine (dX w.heap.size _ _ 1 _ _ n _ yO.out.len (by omega) (by omega) ⟨by omega,by omega⟩ yO.out.keep.size yO.out.own).mono ?_;rintro e w4 ⟨A4,n4,c4,l4,rfl,o4,k4⟩;have zl:=ae (yO.out.next o4 l4 k4);have Gx:Hid (∀k,((t.aG.take k).flatMap rQ).length≤691200):=ae (fun k=>by
  have:=NI rQ t.aG 5400 k (fun e he=>U5 e (HF.out.good e he) (HF.out.short e he));have h2:=HF.out.num;omega)
 clear l4 o4 k4 k1 hlt1;have k1:=zl.out.row.2;have hlt1:=zl.out.row.1;go_wp2_with fail
 go_loopw [5,6] (fun b i wr=>GN w.heap.size (.slice none 0 0) w (ah t (.slice A n c)) (fun k=>hd++t.prev++le n 1++(t.aG.take k).flatMap rQ) n b i wr) (fun _ i _=>n - (intOf i).toNat)
 case atStart=>exact ⟨0,n4,c4,A4,Nat.zero_le _,rfl,by go_num,by simpa using zl.out⟩
 case round=>
  clear k1 hlt1;obtain ⟨k,n5,c5,A5,hk,rfl,rfl,hb⟩:=hrel;have HB:Hid (CB w.heap.size (.slice none 0 0) w (ah t (.slice A n c)) (hd++t.prev++le n 1++(t.aG.take k).flatMap rQ) A5 n5 c5 wr):=ae hb;have Zl:n5≤691300:=by
   have h1:=HB.out.len;have h2:=Gx.out k;rw [bH,bH,aC,yO.out.len] at h1;omega
  clear hb;obtain ⟨pre,hpre⟩:∃l,hd++t.prev++le n 1++(t.aG.take k).flatMap rQ=l:=⟨_,rfl⟩;have CJ:=ae hpre;rw [hpre] at HB;clear hpre;have k1:=HB.out.row.2;have hlt1:=HB.out.row.1;have hsz:=HB.out.keep.size;by_cases hlt:(k:Int)<(n:Int)
  ·have hkz:k<zs.length:=by rw [Vp.out];omega
   obtain ⟨x,hx⟩:∃x,zs[k]? =some x:=⟨_,bZ hkz⟩;obtain ⟨b,off,rfl,mW,hcl⟩:=HA.out.row.there (by rw [fF];omega);have hxm:x.e∈t.aG:=by rw [HZ.out];exact List.mem_map_of_mem (gU hx)
   have hzx:t.aG[k]? =some x.e:=by rw [HZ.out,List.getElem?_map,hx];rfl
   have hns:x.e.name.size≤32:=HF.out.short _ hxm;obtain ⟨nm,hnm⟩:∃s,x.e.name=s:=⟨_,rfl⟩;rw [hnm] at hns;have jb:Hid (∀i u,x.cells.toList[i]? =some u→w.cell? ⟨b,off+k*9+i,none⟩=some u):=ae (az.elem (s:=9) (f:=fun x:dB=>x.cells.toList) (fun _ _=>rfl) hcl k x hx);have HNS:=ae hns;have hz1:Z14 x.e.z:=(HF.out.good _ hxm).z14;have HZ14:=ae hz1;have HZN:=ae (HA.out.each x (gU hx));have Ku:=ae hzx;have zq:=ae hnm;have z0:wr.cell? ⟨b,off+k*9,none⟩=some (.string nm):=(HB.out.keep.je.cell (p:=⟨b,off+k*9,none⟩) mW).trans (by rw [←hnm];exact jb.out 0 _ rfl);have z1:wr.cell? ⟨b,off+k*9+1,none⟩=some (I x.e.z.cal.aJ):=(HB.out.keep.je.cell (p:=⟨b,off+k*9+1,none⟩) mW).trans (jb.out 1 _ rfl);have z2:wr.cell? ⟨b,off+k*9+2,none⟩=some (.slice x.s.A x.e.z.cal.aj.length x.s.a):=(HB.out.keep.je.cell (p:=⟨b,off+k*9+2,none⟩) mW).trans (jb.out 2 _ rfl);have z3:wr.cell? ⟨b,off+k*9+3,none⟩=some (I x.e.z.cal.aY):=(HB.out.keep.je.cell (p:=⟨b,off+k*9+3,none⟩) mW).trans (jb.out 3 _ rfl);have z4:wr.cell? ⟨b,off+k*9+4,none⟩=some (.slice x.s.B x.e.z.cal.rules.length x.s.b):=(HB.out.keep.je.cell (p:=⟨b,off+k*9+4,none⟩) mW).trans (jb.out 4 _ rfl);have z5:wr.cell? ⟨b,off+k*9+5,none⟩=some (I x.e.z.start):=(HB.out.keep.je.cell (p:=⟨b,off+k*9+5,none⟩) mW).trans (jb.out 5 _ rfl);have z6:wr.cell? ⟨b,off+k*9+6,none⟩=some (.slice x.s.C x.e.z.trans.length x.s.c):=(HB.out.keep.je.cell (p:=⟨b,off+k*9+6,none⟩) mW).trans (jb.out 6 _ rfl);have z7:wr.cell? ⟨b,off+k*9+7,none⟩=some (I x.e.z.hor):=(HB.out.keep.je.cell (p:=⟨b,off+k*9+7,none⟩) mW).trans (jb.out 7 _ rfl);have z8:wr.cell? ⟨b,off+k*9+8,none⟩=some (.slice x.s.D x.e.z.ax.length x.s.d):=(HB.out.keep.je.cell (p:=⟨b,off+k*9+8,none⟩) mW).trans (jb.out 8 _ rfl);have f1:fits ((nm.size:Nat):Int):=⟨by omega,by omega⟩;clear hx hcl hxm hkz hzx hns hz1;go_wp2_with fail;refine (dX w.heap.size _ _ 1 _ _ (nm.size:Nat) _ HB.out.len (by omega) (by omega) f1 HB.out.keep.size HB.out.own).mono ?_;rintro e w6 ⟨A6,n6,d6,l6,rfl,o6,k6⟩;have vS:=ae (HB.out.next o6 l6 k6);have QF:n6≤691310:=by
    have h1:=HB.out.len;rw [bH,aC] at l6;omega
   have hsz6:=vS.out.keep.size;obtain ⟨pre2,SY⟩:∃l,pre++le (nm.size:Nat) 1=l:=⟨_,rfl⟩;have HP2:=ae SY;rw [SY] at vS;have qZ:=ae vS.out.own;clear l6 o6 k6 k1 hlt1 SY z0 z1 z2 z3 z4 z5 z6 z7 z8;have k1:=vS.out.row.2;have hlt1:=vS.out.row.1;have z0:w6.cell? ⟨b,off+k*9,none⟩=some (.string nm):=(vS.out.keep.je.cell (p:=⟨b,off+k*9,none⟩) mW).trans (by rw [←hnm];exact jb.out 0 _ rfl);have z1:w6.cell? ⟨b,off+k*9+1,none⟩=some (I x.e.z.cal.aJ):=(vS.out.keep.je.cell (p:=⟨b,off+k*9+1,none⟩) mW).trans (jb.out 1 _ rfl);have z2:w6.cell? ⟨b,off+k*9+2,none⟩=some (.slice x.s.A x.e.z.cal.aj.length x.s.a):=(vS.out.keep.je.cell (p:=⟨b,off+k*9+2,none⟩) mW).trans (jb.out 2 _ rfl);have z3:w6.cell? ⟨b,off+k*9+3,none⟩=some (I x.e.z.cal.aY):=(vS.out.keep.je.cell (p:=⟨b,off+k*9+3,none⟩) mW).trans (jb.out 3 _ rfl);have z4:w6.cell? ⟨b,off+k*9+4,none⟩=some (.slice x.s.B x.e.z.cal.rules.length x.s.b):=(vS.out.keep.je.cell (p:=⟨b,off+k*9+4,none⟩) mW).trans (jb.out 4 _ rfl);have z5:w6.cell? ⟨b,off+k*9+5,none⟩=some (I x.e.z.start):=(vS.out.keep.je.cell (p:=⟨b,off+k*9+5,none⟩) mW).trans (jb.out 5 _ rfl);have z6:w6.cell? ⟨b,off+k*9+6,none⟩=some (.slice x.s.C x.e.z.trans.length x.s.c):=(vS.out.keep.je.cell (p:=⟨b,off+k*9+6,none⟩) mW).trans (jb.out 6 _ rfl);have z7:w6.cell? ⟨b,off+k*9+7,none⟩=some (I x.e.z.hor):=(vS.out.keep.je.cell (p:=⟨b,off+k*9+7,none⟩) mW).trans (jb.out 7 _ rfl);have z8:w6.cell? ⟨b,off+k*9+8,none⟩=some (.slice x.s.D x.e.z.ax.length x.s.d):=(vS.out.keep.je.cell (p:=⟨b,off+k*9+8,none⟩) mW).trans (jb.out 8 _ rfl);go_wp2_with (at_builtin;go_must (refine BP rfl _ _ rfl w.heap.size _ n6 (pre2.map Extern.Stop.cell) rfl qZ.out nm rfl (by have:=HNS.out;omega) (by omega) ?_));intro v' w7 hown hg hat;obtain ⟨A7,d7,rfl⟩:=fC hown;have EE:Hid (CB w.heap.size (.slice none 0 0) w (ah t (.slice (some ⟨b,off,none⟩) n c)) (pre2++nm.data.toList) A7 (n6+nm.size) d7 w7):=ae (vS.out.next (by unfold mY;rw [List.map_append];exact hown) (by rw [bH,vS.out.len,Array.length_toList];rfl) (uh.app0 hg hat));clear hown hg hat k1 hlt1 z0 z1 z2 z3 z4 z5 z6 z7 z8;have k1:=EE.out.row.2;have hlt1:=EE.out.row.1;have z0:w7.cell? ⟨b,off+k*9,none⟩=some (.string nm):=(EE.out.keep.je.cell (p:=⟨b,off+k*9,none⟩) mW).trans (by rw [←hnm];exact jb.out 0 _ rfl);have z1:w7.cell? ⟨b,off+k*9+1,none⟩=some (I x.e.z.cal.aJ):=(EE.out.keep.je.cell (p:=⟨b,off+k*9+1,none⟩) mW).trans (jb.out 1 _ rfl);have z2:w7.cell? ⟨b,off+k*9+2,none⟩=some (.slice x.s.A x.e.z.cal.aj.length x.s.a):=(EE.out.keep.je.cell (p:=⟨b,off+k*9+2,none⟩) mW).trans (jb.out 2 _ rfl);have z3:w7.cell? ⟨b,off+k*9+3,none⟩=some (I x.e.z.cal.aY):=(EE.out.keep.je.cell (p:=⟨b,off+k*9+3,none⟩) mW).trans (jb.out 3 _ rfl);have z4:w7.cell? ⟨b,off+k*9+4,none⟩=some (.slice x.s.B x.e.z.cal.rules.length x.s.b):=(EE.out.keep.je.cell (p:=⟨b,off+k*9+4,none⟩) mW).trans (jb.out 4 _ rfl);have z5:w7.cell? ⟨b,off+k*9+5,none⟩=some (I x.e.z.start):=(EE.out.keep.je.cell (p:=⟨b,off+k*9+5,none⟩) mW).trans (jb.out 5 _ rfl);have z6:w7.cell? ⟨b,off+k*9+6,none⟩=some (.slice x.s.C x.e.z.trans.length x.s.c):=(EE.out.keep.je.cell (p:=⟨b,off+k*9+6,none⟩) mW).trans (jb.out 6 _ rfl);have z7:w7.cell? ⟨b,off+k*9+7,none⟩=some (I x.e.z.hor):=(EE.out.keep.je.cell (p:=⟨b,off+k*9+7,none⟩) mW).trans (jb.out 7 _ rfl);have z8:w7.cell? ⟨b,off+k*9+8,none⟩=some (.slice x.s.D x.e.z.ax.length x.s.d):=(EE.out.keep.je.cell (p:=⟨b,off+k*9+8,none⟩) mW).trans (jb.out 8 _ rfl);go_wp2_with fail;refine (Vb w.heap.size (n6+nm.size) d7 A7 _ x.e.z x.s w7 EE.out.len (by have:=HNS.out;omega) HZ14.out (HZN.out.keep EE.out.keep.je) EE.out.keep.size EE.out.own).mono ?_;rintro e w8 ⟨A8,n8,d8,l8,rfl,o8,k8⟩;have HC8:=ae (EE.out.next o8 l8 k8);clear l8 o8 k8 k1 hlt1 z0 z1 z2 z3 z4 z5 z6 z7 z8;go_wp2_with fail;go_roundw
   case rel=>exact ⟨k+1,n8,d8,A8,by omega,rfl,by go_num,by
    have hc:=HC8.out;rw [←HP2.out,←CJ.out] at hc;show CB _ _ _ _ (_++(t.aG.take (k+1)).flatMap rQ) _ _ _ _;rw [qc _ _ _ _ Ku.out,show rQ x.e=le (nm.size:Nat) 1++(nm.data.toList++Gt x.e.z) by unfold rQ;rw [zq.out]];simpa [List.append_assoc] using hc⟩
   case measure=>simp [intOf];omega
  ·have HK:Hid (k=n):=ae (by omega);go_wp2_with fail;go_ret2;have hb:=HB.out;have e1:pre=pJ t:=by
    rw [←CJ.out,HK.out,List.take_of_length_le (by rw [HZ.out,List.length_map,Vp.out];exact Nat.le_refl _),←HHD.out];simp [pJ,HZ.out,Vp.out,List.append_assoc]
   rw [e1] at hb;exact ⟨A5,n5,c5,hb.len,rfl,hb.own,hb.keep.je⟩
attribute [local go_sem] iY iZ ja bC
theorem IV (x:fH) (w:World) (hx:jB w w.heap.size x) (hv:pM x.t≠0):
  Calls Tryz.prog 7 #[.agg (ah x.t (.slice x.A x.zs.length x.c))] w (fun e w'=>e= .returned (.tuple #[.slice none 0 0,I (pM x.t)])∧Below w.heap.size w w'):=by
 have JZ:Hid (∀W,Below w.heap.size w W→Calls Tryz.prog 21 #[.agg (ah x.t (.slice x.A x.zs.length x.c))] W (Gives (I (pM x.t)) W)):=ae fun W hb=>Bq x.t x.A x.zs.length x.c x.zs W hx.prev hx.dQ hx.names rfl (hx.grow hb).aG;have fG:=ae (bG x.t (.slice x.A x.zs.length x.c) hx.prev hx.dQ);obtain ⟨t,A,c,zs⟩:=x;obtain ⟨n,hn⟩:∃n,zs.length=n:=⟨_,rfl⟩;simp only at JZ hv fG ⊢;rw [hn] at JZ fG ⊢;obtain ⟨rv,yY⟩:∃v,pM t=v:=⟨_,rfl⟩;rw [yY] at JZ hv ⊢;have HB0:=ae (ag w (.cells (ah t (.slice A n c)) 39));have HR0:=ae (Row.new w (ah t (.slice A n c)) 39);have q12:(rv !=0)=true:=by simp [hv]
 clear hx hn yY;go_enter Tryz.func7,Tryz.ntmps7;go_wp2_with ((with_reducible refine gz 39 ?_);go_must (refine aX rfl _ _ rfl w.heap.size rfl (ah t (.slice A n c)) HR0.out _ Tryz.underlying39 rfl fG.out ?_));refine (JZ.out _ HB0.out).mono ?_;rintro e w1 ⟨rfl,hb1⟩;have HB1:=ae (ai HB0.out hb1);clear hb1;go_wp2_with fail;go_ret2;exact ⟨rfl,HB1.out⟩
theorem LY (x:fH) (w:World) (hx:jB w w.heap.size x):
  Calls Tryz.prog 7 #[.agg (ah x.t (.slice x.A x.zs.length x.c))] w (Yy w x.t):=by
 by_cases hv:pM x.t=0
 ·exact (qN x w hx hv).mono fun e w' h=> .inl ⟨hv,h⟩
 ·exact (IV x w hx hv).mono fun e w' h=> .inr ⟨hv,h⟩
end Go.Proofs.YtbaehbbonkljpaaGreat
namespace Go.Proofs.YtbaehbbonkljpaaGreat
open Go Go.RowKit
theorem Gy.good {t:Tb} (h:Gy t) (hp:t.prev.length=32) (hm:t.dQ.length=32):TbG t where
 bV:=⟨h.bV.1,by have:=h.bV.2;omega⟩
 version:=h.version
 aO:=h.aO
 prev:=hp
 dQ:=hm
 first:=h.first
 num:=by have:=h.num;omega
 good:=fun e he=>⟨(h.aG e he).made,(h.aG e he).ok⟩
 short:=fun e he=>by
  obtain ⟨k,hk⟩:=List.getElem?_of_mem he;rw [h.names k e hk,Cb];omega
theorem Gy.up {t:Tb} (h:Gy t) {zs:List dB} (hz:t.aG=zs.map (·.e)):Nu zs:=by
 intro k x hx;have hk:=(iT.1 hx).1;have hn:=h.num;rw [hz,List.length_map] at hn;have h1:∀j y,zs[j]? =some y→y.e.name=aS j:=fun j y hy=>h.names j y.e (by rw [hz,List.getElem?_map,hy];rfl);have hl:jD zs k=Bl k:=by
  cases k with
  |zero=>rfl
  |succ k=>
   show (zs[k]?.map (·.e.name)).getD ⟨#[]⟩=aS k;rw [bZ (by omega)];exact h1 k _ (bZ (by omega))
 rw [h1 k x hx,hl];exact U9 k (by omega)
theorem D8:∀(es:List Ze) (last:ByteArray),(∀e∈es,uA e.z=0∧e.name.size≤32)→(∀k e,es[k]? =some e→lM e.name (if k=0 then last else (es[k - 1]?.map (·.name)).getD ⟨#[]⟩)=false)→dY last es=0
 | [],_,_,_=>rfl
 |x::es,last,h,hn=>by
  obtain ⟨h2,h3⟩:=h x List.mem_cons_self;have h4:lM x.name last=false:=hn 0 x rfl;rw [nX,if_neg (by rw [h4];rintro (h|h);omega;cases h),if_pos h2];refine D8 es x.name (fun e he=>h e (List.mem_cons_of_mem _ he)) fun k e hk=>?_;have h5:=hn (k+1) e hk;rw [if_neg (by omega),Nat.add_sub_cancel] at h5;cases k with
  |zero=>exact h5
  |succ j=>exact h5
theorem NR {t:Tb} (h:TbG t) {zs:List dB} (hz:t.aG=zs.map (·.e)) (hu:Nu zs):pM t=0:=by
 have h1:VE t=false:=by
  have:=h.bV;have:=h.version;exact decide_eq_false (by omega)
 have h2:VF t=false:=by
  have:=h.aO;refine decide_eq_false fun hh=>?_;rcases hh with hh|hh|⟨hh,hp⟩
  ·omega
  ·omega
  ·rw [h.first hh] at hp;have:(bU==bU)=true:=by rfl
   rw [this] at hp;cases hp
 unfold pM;rw [h1,h2,if_neg (by decide),if_neg (by decide),if_neg (by have:=h.num;omega)];refine D8 _ _ (fun e he=>⟨(h.good e he).2,h.short e he⟩) fun k e hk=>?_;rw [hz,List.getElem?_map] at hk;cases hx:zs[k]? with
 |none=>rw [hx] at hk;cases hk
 |some y=>
  rw [hx] at hk;injection hk with hk;obtain ⟨u1,u2⟩:=hu k y hx;have e1:(if k=0 then (⟨#[]⟩:ByteArray) else (t.aG[k - 1]?.map (·.name)).getD ⟨#[]⟩)=jD zs k:=by
   cases k with
   |zero=>rfl
   |succ j=>
    rw [if_neg (by omega),Nat.add_sub_cancel,hz,List.getElem?_map];show _=(zs[j]?.map (·.e.name)).getD ⟨#[]⟩;cases zs[j]? <;>rfl
  rw [e1];unfold lM;rw [←hk,u1,u2];rfl
theorem Gy.tv {t:Tb} (h:Gy t) (hp:t.prev.length=32) (hm:t.dQ.length=32) {zs:List dB} (hz:t.aG=zs.map (·.e)):pM t=0:=NR (h.good hp hm) hz (h.up hz)
theorem wH (x:fH) (w:World) (hx:jB w w.heap.size x) (h:Gy x.t):Calls Tryz.prog 7 #[.agg (ah x.t (.slice x.A x.zs.length x.c))] w (OB w x.t):=
 qN x w hx (h.tv hx.prev hx.dQ hx.names)
end Go.Proofs.YtbaehbbonkljpaaGreat
