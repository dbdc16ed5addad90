/- The texts Vh, Qk, Kr, Kv, Vi, in this order. -/
import Derived.Test.YtbaehbbonkljpaaGreatDoorS00
import Derived.Test.YtbaehbbonkljpaaGreatDoorS02
import Derived.Test.YtbaehbbonkljpaaGreatDoorS03
import Derived.Test.YtbaehbbonkljpaaGreatDoorS16
import Derived.Test.YtbaehbbonkljpaaGreatDoorS17
import Derived.Test.YtbaehbbonkljpaaGreatDoorS19
import Derived.Test.YtbaehbbonkljpaaGreatDoorS24
set_option maxRecDepth 10000
set_option maxHeartbeats 8000000
namespace Go.Proofs.YtbaehbbonkljpaaGreatDoor
open Go Go.RowKit
theorem Uk:∀(l:List UInt8),Op.bytesLess l []=false
 | []=>rfl
 |_::_=>rfl
theorem UB:∀(l:List UInt8),(Op.bytesLess [] l||(([]:List UInt8)==l))=true
 | []=>rfl
 |_::_=>rfl
theorem SX {x:ByteArray} (h:x.size=0):x.toList= []:=by
 have h1:x=⟨#[]⟩:=by
  obtain ⟨d⟩:=x;have h2:d.size=0:=h;rw [Array.eq_empty_of_size_eq_zero h2]
 rw [h1];decide+kernel
theorem Ji (x L:ByteArray) (h:x.size=0):mM x L=true:=by
 unfold mM;rw [SX h];exact UB _
theorem Jj (x:ByteArray) (h:1<=x.size):mM x ⟨#[]⟩=false:=by
 unfold mM;rw [SX (x:=⟨#[]⟩) rfl,Uk,Bool.false_or];cases e:x.toList with
 |nil=>
  have h1:x.toList.length=x.size:=by rw [Lib.toList_data];exact Array.length_toList
  rw [e] at h1;simp at h1;omega
 |cons a l=>rfl
def hdF (t:Tb):Bool:= !(Wq t||Ws t)
theorem Me (xs:List UInt8) (h:xs.length=32):∀W,(binOp .eql 24 (.agg (ax xs).toArray) (.agg (ax fU).toArray)).run Tryz.prog W= .ok (.bool (xs==fU)) W:=fun W=>by
 unfold ax;rw [run_eql_struct,run_equalIn_bytes W 9998 24 5 32 Tryz.underlying24 Tryz.underlying5 (fun w=>GN w) xs fU h rfl];simp [Result.andThen]
theorem Yw (t:Tb) (A:Option Addr) (n c:Nat) (w:World) (hp:t.prev.length=32):
  Calls Tryz.prog 55 #[.agg (ai t (.slice A n c))] w (Gives (.bool (hdF t)) w):=by
 have HR0:=ae (Row.new w (ai t (.slice A n c)) 26);have HB0:=ae (ag w (.cells (ai t (.slice A n c)) 26));have h32:(Tryz.prog.info? 24).map (·.size)=some (ax t.prev).length:=by rw [show (ax t.prev).length=32 by simp [ax,hp]];kernel_rfl
 have HP:=ae (uU t (.slice A n c) HR0.out);have WG:=ae h32;have heq:=Me t.prev hp;rw [xW] at heq;obtain ⟨pz,hpz⟩:∃b,(t.prev==fU)=b:=⟨_,rfl⟩;rw [hpz] at heq;obtain ⟨ti,hti⟩:∃x,t.bG=x:=⟨_,rfl⟩;obtain ⟨tv,DJ⟩:∃x,t.version=x:=⟨_,rfl⟩;obtain ⟨tw,htw⟩:∃x,t.aO=x:=⟨_,rfl⟩;have HK:Hid (∀W,Row W w.heap.size (ai t (.slice A n c))->W.cell? ⟨w.heap.size,0,none⟩=some (I ti)/\W.cell? ⟨w.heap.size,1,none⟩=some (I tv)/\W.cell? ⟨w.heap.size,2,none⟩=some (I tw)):=ae (fun W h=>⟨(h.2 0).trans (by rw [<-hti];rfl),(h.2 1).trans (by rw [<-DJ];rfl),(h.2 2).trans (by rw [<-htw];rfl)⟩);have HT1:Hid (Wq t=decide (ti<0\/16<=ti\/tv<1\/64<tv)):=ae (by unfold Wq;rw [hti,DJ]);have HT2:Hid (Ws t=decide (tw<0\/tv<=tw\/(tv=1/\pz=false))):=ae (by unfold Ws;rw [htw,DJ,hpz]);obtain ⟨g,hg⟩:∃g,hdF t=g:=⟨_,rfl⟩;have HG:Hid (g= !(decide (ti<0\/16<=ti\/tv<1\/64<tv)||decide (tw<0\/tv<=tw\/(tv=1/\pz=false)))):=ae (by rw [<-hg];unfold hdF;rw [HT1.out,HT2.out]);rw [hg];have vF:=ae heq;clear hg hti DJ htw hpz h32 hp heq HT1 HT2;have h9:(ti<0)\/(¬ti<0/\(15:Int)<ti)\/(¬ti<0/\¬(15:Int)<ti/\tv<1)\/(¬ti<0/\¬(15:Int)<ti/\¬tv<1/\(64:Int)<tv)\/(¬ti<0/\¬(15:Int)<ti/\¬tv<1/\¬(64:Int)<tv/\tw<0)\/(¬ti<0/\¬(15:Int)<ti/\¬tv<1/\¬(64:Int)<tv/\¬tw<0/\tv<=tw)\/(¬ti<0/\¬(15:Int)<ti/\¬tv<1/\¬(64:Int)<tv/\¬tw<0/\¬tv<=tw):=by omega
 rcases h9 with u0|⟨u0,u1⟩|⟨u0,u1,u2⟩|⟨u0,u1,u2,u3⟩|⟨u0,u1,u2,u3,u4⟩|⟨u0,u1,u2,u3,u4,u5⟩|⟨u0,u1,u2,u3,u4,u5⟩
 iterate 6
  ·have HF:Hid (g=false):=ae (by
    rw [HG.out]
    first
     |rw [decide_eq_true (show ti<0\/16<=ti\/tv<1\/64<tv by omega)];rfl
     |rw [decide_eq_true (show tw<0\/tv<=tw\/(tv=1/\pz=false) by omega),Bool.or_true];rfl)
   go_enter Tryz.func55,Tryz.ntmps55;go_upto_region 1 with fail;generalize w.alloc (.cells (ai t (.slice A n c)) 26)=W0 at HR0 HB0 HP ⊢;obtain ⟨k0,k1,k2⟩:=HK.out W0 HR0.out;go_wp2_with fail;go_ret;exact ⟨by rw [HF.out];rfl,HB0.out⟩
 have HD1:Hid (decide (ti<0\/16<=ti\/tv<1\/64<tv)=false):=ae (decide_eq_false (by omega));by_cases hv:tv=1
 ·have hv1:¬(1:Int)<tv:=by omega
  have HF:Hid (g=pz):=ae (by
   rw [HG.out,HD1.out,Bool.false_or];cases pz with
   |true=>rw [decide_eq_false (fun h=>by rcases h with h|h|⟨_,h⟩<;>first|omega|cases h)];rfl
   |false=>rw [decide_eq_true (.inr (.inr ⟨hv,rfl⟩))];rfl)
  go_enter Tryz.func55,Tryz.ntmps55;go_upto_region 1 with fail;generalize w.alloc (.cells (ai t (.slice A n c)) 26)=W0 at HR0 HB0 HP ⊢;obtain ⟨k0,k1,k2⟩:=HK.out W0 HR0.out;have heq:=vF.out;go_wp2_with ((with_reducible refine dY 24 ?_);refine dn rfl _ _ rfl w.heap.size 4 rfl (ax t.prev) HP.out _ Tryz.underlying24 rfl WG.out ?_);go_ret;exact ⟨by rw [HF.out];rfl,HB0.out⟩
 ·have hv1:(1:Int)<tv:=by omega
  have HF:Hid (g=true):=ae (by
   rw [HG.out,HD1.out,Bool.false_or,decide_eq_false (show¬(tw<0\/tv<=tw\/(tv=1/\pz=false)) by omega)];rfl)
  go_enter Tryz.func55,Tryz.ntmps55;go_upto_region 1 with fail;generalize w.alloc (.cells (ai t (.slice A n c)) 26)=W0 at HR0 HB0 HP ⊢;obtain ⟨k0,k1,k2⟩:=HK.out W0 HR0.out;go_wp2_with fail;go_ret;exact ⟨by rw [HF.out];rfl,HB0.out⟩
theorem wQ (t:Tb) (A:Option Addr) (n c:Nat) (zs:List dw) (w:World) (hp:t.prev.length=32) (hm:t.bP.length=32) (hz:t.aF=zs.map (·.e)) (hn:zs.length=n) (hA:kz w w.heap.size A zs):
  Calls Tryz.prog 33 #[.agg (ai t (.slice A n c))] w (Gives (I (mg t)) w):=by
 have HB0:=ae (ag w (.cells (ai t (.slice A n c)) 26));have yt:Hid (TVr w (ai t (.slice A n c)) A zs (w.alloc (.cells (ai t (.slice A n c)) 26))):=ae ⟨Row.new w _ _,hA.keep HB0.out,HB0.out⟩;obtain ⟨hd,hhd⟩:∃b,hdF t=b:=⟨_,rfl⟩;have HHD:Hid (∀W,Calls Tryz.prog 55 #[.agg (ai t (.slice A n c))] W (Gives (.bool hd) W)):=ae fun W=>by rw [<-hhd];exact Yw t A n c W hp
 have dU:=ae (bD t (.slice A n c) hp hm);have HZ:=ae hz;have KT:=ae hn;have HNZ:Hid (t.aF.length=n):=ae (by rw [hz,List.length_map,hn]);obtain ⟨rv,zi⟩:∃v,mg t=v:=⟨_,rfl⟩;rw [zi];have HFB0:Hid (rv=if hd=false then 1 else if 128<n then 2 else eu ⟨#[]⟩ t.aF):=ae (by
  rw [<-zi,<-hhd];unfold mg hdF;rw [HNZ.out];cases Wq t<;>cases Ws t<;>rfl)
 clear hz hp hm hA hn HB0 hhd zi;go_enter Tryz.func33,Tryz.ntmps33;go_wp2_with ((with_reducible refine eF 26 ?_);go_must (refine aJ rfl _ _ rfl w.heap.size rfl (ai t (.slice A n c)) yt.out.row _ Tryz.underlying26 rfl dU.out ?_));refine (HHD.out _).mono ?_;rintro e w1 ⟨rfl,hb1⟩;have oP:=ae (yt.out.below hb1);clear hb1 yt;cases hd with
 |false=>
  have HF:Hid (rv=1):=ae (by rw [HFB0.out,if_pos rfl]);go_wp2_with fail;go_ret;exact ⟨by rw [HF.out];rfl,oP.out.up⟩
 |true=>
  have k3:w1.cell? ⟨w.heap.size,3,none⟩=some (.slice A n c):=oP.out.row.2 3;by_cases q7:128<n
  ·have q8:(128:Int)<(n:Int):=by omega
   have HF:Hid (rv=2):=ae (by rw [HFB0.out,if_neg (by simp),if_pos q7]);go_wp2_with fail;go_ret;exact ⟨by rw [HF.out];rfl,oP.out.up⟩
  ·have q8:¬(128:Int)<(n:Int):=by omega
   have mQ:Hid (rv=eu ⟨#[]⟩ t.aF):=ae (by rw [HFB0.out,if_neg (by simp),if_neg q7]);go_wp2_with fail;clear k3
   go_loopw [3] (fun i wr=>∃k:Nat,k<=n/\i=I (k:Int)/\eu ⟨#[]⟩ t.aF=eu (jG zs k) (t.aF.drop k)/\TVr w (ai t (.slice A n c)) A zs wr) (fun i _=>n - (intOf i).toNat)
   case atStart=>exact ⟨0,Nat.zero_le _,rfl,rfl,oP.out⟩
   case round=>
    obtain ⟨k,hk,rfl,hen,DJ⟩:=hrel;have HV:=ae DJ;have WV:=ae hen;have k3:wr.cell? ⟨w.heap.size,3,none⟩=some (.slice A n c):=DJ.row.2 3;have hlt1:=DJ.row.1;clear DJ oP hen;by_cases hlt:k<n
    ·have hkz:k<zs.length:=by rw [KT.out];exact hlt
     obtain ⟨x,hx⟩:∃x,zs[k]? =some x:=⟨_,bK hkz⟩;obtain ⟨b,off,rfl,hbl,hr⟩:=kz.at HV.out.mem hx;have hi:=HV.out.mem.each x (gZ hx);have i0:(0:Int)<=(k:Int):=by omega
     have i1:(k:Int)<(n:Int):=by omega
     have c0:wr.cell? ⟨b,off+k*9,none⟩=some (.string x.e.name):=hr 0 _ rfl;have c1:wr.cell? ⟨b,off+k*9+1,none⟩=some (I x.e.z.cal.bn):=hr 1 _ rfl;have c2:wr.cell? ⟨b,off+k*9+2,none⟩=some (.slice x.s.A x.e.z.cal.au.length x.s.a):=hr 2 _ rfl;have c3:wr.cell? ⟨b,off+k*9+3,none⟩=some (I x.e.z.cal.dA):=hr 3 _ rfl;have c4:wr.cell? ⟨b,off+k*9+4,none⟩=some (.slice x.s.B x.e.z.cal.rules.length x.s.b):=hr 4 _ rfl;have c5:wr.cell? ⟨b,off+k*9+5,none⟩=some (I x.e.z.start):=hr 5 _ rfl;have c6:wr.cell? ⟨b,off+k*9+6,none⟩=some (.slice x.s.C x.e.z.trans.length x.s.c):=hr 6 _ rfl;have c7:wr.cell? ⟨b,off+k*9+7,none⟩=some (I x.e.z.hor):=hr 7 _ rfl;have c8:wr.cell? ⟨b,off+k*9+8,none⟩=some (.slice x.s.D x.e.z.aH.length x.s.d):=hr 8 _ rfl;have HX:=ae hx;have HI:=ae hi;obtain ⟨L,hL⟩:∃L,jG zs k=L:=⟨_,rfl⟩;have ZQ:Hid (∀w',Below wr.heap.size wr w'->Calls Tryz.prog 56 #[.agg (ay x.e.z x.s)] w' (Gives (I (vg x.e.z)) w')):=ae fun w' hb=>
      Jy x.e.z x.s w' (((HI.out.more HV.out.up.size).keep hb).more hb.size)
     unfold ay at ZQ;have hdr:t.aF.drop k=x.e::t.aF.drop (k+1):=by
      have h1:t.aF[k]? =some x.e:=by rw [HZ.out,List.getElem?_map,hx];rfl
      have h2:k<t.aF.length:=(gQ.1 h1).1;rw [List.drop_eq_getElem_cons h2];rw [bK h2] at h1;injection h1 with h1;rw [h1]
     rw [hL] at WV;obtain ⟨zv,hzv⟩:∃v,vg x.e.z=v:=⟨_,rfl⟩;have vF:Hid (eu ⟨#[]⟩ t.aF=if 32<x.e.name.size\/mM x.e.name L=true then 1 else if zv=0 then eu x.e.name (t.aF.drop (k+1)) else zv):=ae (by rw [WV.out,hdr,oZ,hzv]);rw [hzv] at ZQ;have hlb:b<wr.heap.size:=by have:=HV.out.up.size;omega
     have AL:Hid (jG zs (k+1)=x.e.name):=ae (by show (zs[k]?.map (·.e.name)).getD ⟨#[]⟩=_;rw [hx];rfl);clear hr hi hkz hdr hzv WV;by_cases q9:32<x.e.name.size
     ·have q10:(32:Int)<(x.e.name.size:Int):=by omega
      have q10':¬(x.e.name.size:Int)<1:=by omega
      clear hx hL;have HR:Hid (eu ⟨#[]⟩ t.aF=1):=ae (by rw [vF.out,if_pos (.inl q9)]);go_wp2_with fail;go_ret;exact ⟨by rw [mQ.out,HR.out];rfl,HV.out.up⟩
     ·have q10:¬(32:Int)<(x.e.name.size:Int):=by omega
      obtain ⟨s1,hs1⟩:∃b,Op.bytesLess x.e.name.toList L.toList=b:=⟨_,rfl⟩;obtain ⟨s2,hs2⟩:∃b,(x.e.name.toList==L.toList)=b:=⟨_,rfl⟩;have Kz:Hid (mM x.e.name L=(s1||s2)):=ae (by unfold mM;rw [hs1,hs2]);by_cases q13:x.e.name.size<1
      ·have q14:(x.e.name.size:Int)<1:=by omega
       have Hy:Hid (mM x.e.name L=true):=ae (Ji _ _ (by omega));clear hx hL hs1 hs2;have HR:Hid (eu ⟨#[]⟩ t.aF=1):=ae (by rw [vF.out,if_pos (.inr Hy.out)]);go_wp2_with fail;go_ret;exact ⟨by rw [mQ.out,HR.out];rfl,HV.out.up⟩
      ·have q14:¬(x.e.name.size:Int)<1:=by omega
       cases k with
       |zero=>
        have HN0:Hid (mM x.e.name L=false):=ae (by rw [<-hL];exact Jj _ (by omega));have Kz:Hid (mM x.e.name L=false):=HN0;clear hx hL hs1 hs2;simp only [Nat.zero_mul,Nat.add_zero] at c0 c1 c2 c3 c4 c5 c6 c7 c8;have HR:Hid (eu ⟨#[]⟩ t.aF=if zv=0 then eu x.e.name (t.aF.drop (0+1)) else zv):=ae (by rw [vF.out,if_neg (by rw [Kz.out];rintro (h|h);exact q9 h;cases h)]);go_wp2_with fail;refine (ZQ.out _ (Below.refl _ _)).mono ?_;rintro e w2 ⟨rfl,hb2⟩;have nD:=ae (HV.out.below hb2);clear hb2;by_cases q11:zv=0
        ·have HR2:Hid (eu ⟨#[]⟩ t.aF=eu x.e.name (t.aF.drop (0+1))):=ae (by rw [HR.out,if_pos q11]);subst q11;go_wp2_with fail;go_roundw
         case rel=>exact ⟨0+1,by omega,by go_num,by rw [AL.out];exact HR2.out,nD.out⟩
         case measure=>simp [intOf];omega
        ·have HR2:Hid (eu ⟨#[]⟩ t.aF=zv):=ae (by rw [HR.out,if_neg q11]);have q12:(zv !=0)=true:=by simp [q11]
         go_wp2_with fail;go_ret;exact ⟨by rw [mQ.out,HR2.out];rfl,nD.out.up⟩
       |succ j=>
        obtain ⟨y,hy⟩:∃y,zs[j]? =some y:=⟨_,bK (by rw [KT.out];omega)⟩;obtain ⟨b',off',e',hbl',hr'⟩:=kz.at HV.out.mem hy;injection e' with e';injection e' with e1 e2;subst e1 e2;have hyL:y.e.name=L:=by rw [<-hL];show _=(zs[j]?.map (·.e.name)).getD ⟨#[]⟩;rw [hy];rfl
        have d0:wr.cell? ⟨b,off+j*9,none⟩=some (.string L):=by rw [<-hyL];exact hr' 0 _ rfl
        have j1:((j+1:Nat):Int) - 1=(j:Int):=by omega
        have j2:(j:Int)<(n:Int):=by omega
        have j3:(0:Int)<(j:Int)+1:=by omega
        clear hx hL hy hr' hbl' hyL;cases s1 with
        |true=>
         have HR:Hid (eu ⟨#[]⟩ t.aF=1):=ae (by rw [vF.out,if_pos (.inr (by rw [Kz.out,Bool.true_or]))]);go_wp2_with fail;go_ret;exact ⟨by rw [mQ.out,HR.out];rfl,HV.out.up⟩
        |false=>
        cases s2 with
        |true=>
         have HR:Hid (eu ⟨#[]⟩ t.aF=1):=ae (by rw [vF.out,if_pos (.inr (by rw [Kz.out];rfl))]);go_wp2_with fail;go_ret;exact ⟨by rw [mQ.out,HR.out];rfl,HV.out.up⟩
        |false=>
         have HR:Hid (eu ⟨#[]⟩ t.aF=if zv=0 then eu x.e.name (t.aF.drop (j+1+1)) else zv):=ae (by rw [vF.out,if_neg (by rw [Kz.out];rintro (h|h);exact q9 h;cases h)]);go_wp2_with fail;refine (ZQ.out _ (Below.refl _ _)).mono ?_;rintro e w2 ⟨rfl,hb2⟩;have nD:=ae (HV.out.below hb2);clear hb2;by_cases q11:zv=0
         ·have HR2:Hid (eu ⟨#[]⟩ t.aF=eu x.e.name (t.aF.drop (j+1+1))):=ae (by rw [HR.out,if_pos q11]);subst q11;go_wp2_with fail;go_roundw
          case rel=>exact ⟨j+1+1,by omega,by go_num,by rw [AL.out];exact HR2.out,nD.out⟩
          case measure=>simp [intOf];omega
         ·have HR2:Hid (eu ⟨#[]⟩ t.aF=zv):=ae (by rw [HR.out,if_neg q11]);have q12:(zv !=0)=true:=by simp [q11]
          go_wp2_with fail;go_ret;exact ⟨by rw [mQ.out,HR2.out];rfl,nD.out.up⟩
    ·have hkn:k=n:=by omega
     have HR:Hid (eu ⟨#[]⟩ t.aF=0):=ae (by rw [WV.out,List.drop_of_length_le (by rw [HNZ.out];omega)];rfl);have i1:¬(k:Int)<(n:Int):=by omega
     clear hkn;go_wp2_with fail;go_ret;exact ⟨by rw [mQ.out,HR.out];rfl,HV.out.up⟩
theorem uO.app0 {w w3:World} {v v':Value} (hg:w.grownBy w3 v.ownBlock) (hat:v'.ownBlock=v.ownBlock\/v'.ownBlock=some w.heap.size):uO v w v' w3:=
 ⟨hg.os,hg.tape,hg.output,hg.size,fun k hk hv=>hg.block k hk hv,hat.imp id fun e=>⟨_,e,Nat.le_refl _⟩⟩
theorem uO.jf {w w':World} {v:Value} (h:uO (.slice none 0 0) w v w'):Below w.heap.size w w':=h.xA (fun g hg=>by cases hg) (Nat.le_refl _)
theorem CB.fresh (w:World) (cs:Array Value) (t:TypeId):CB w.heap.size (.slice none 0 0) w cs [] (some ⟨w.heap.size+1,0,none⟩) 0 0 ((w.alloc (.cells cs t)).alloc (.cells #[] 5)):=by
 have hb:Below w.heap.size w ((w.alloc (.cells cs t)).alloc (.cells #[] 5)):=ah (ag w _) (ag _ _);have ho:=iZ (w.alloc (.cells cs t)) 5 1;refine ⟨(Row.new w cs t).keep (ag _ _),ou.lower (lo:=w.heap.size+1) (by simpa [ou] using ho) (by omega),rfl,⟨hb.os,hb.tape,hb.output,hb.size,fun k hk _=>hb.block k hk, .inr ⟨w.heap.size+1,rfl,by omega⟩⟩,fun e=>?_⟩;have h:w.heap.size=w.heap.size+1:=Option.some.inj e;omega
theorem take_snoc {α:Type} (l:List α) (k:Nat) (x:α) (hx:l[k]? =some x):l.take (k+1)=l.take k++ [x]:=by
 rw [List.take_add_one,hx];rfl
theorem CB.grown {lo n c n' c':Nat} {v0:Value} {A A':Option Addr} {w W W':World} {o:Obj} {cs:Array Value} {bs bs':List UInt8} (h:CB lo v0 w cs bs A n c W) (hO:ou lo W' A' n' c' bs') (hl:bs'.length=n') (hg:(W.alloc o).grownBy W' (Value.slice A n c).ownBlock) (hat:(Value.slice A' n' c').ownBlock=(Value.slice A n c).ownBlock\/(Value.slice A' n' c').ownBlock=some (W.heap.size+1)):CB lo v0 w cs bs' A' n' c' W':=
 h.next hO hl (uO.app hg (hat.imp id fun e=>e.trans (by simp)))
theorem yC (d:List UInt8) (w:World) (hd:d.length=32):
  Calls Tryz.prog 51 #[.agg (ax d).toArray] w (Zc w.heap.size (.slice none 0 0) w d):=by
 obtain ⟨i0,hi,hz0,hz1,hz2⟩:=info_parts lN;have HI:=ae hi;have HZ0:=ae hz0;have HZ1:=ae hz1;have HZ2:=ae hz2;clear hi hz0 hz1 hz2;have HF:=ae (CB.fresh w (ax d).toArray 24);have HD:=ae hd;clear hd;go_enter Tryz.func51,Tryz.ntmps51;go_wp2_with fail
 go_loopw [3,4] (fun b i wr=>Ij w.heap.size (.slice none 0 0) w (ax d).toArray (fun k=>d.take k) 32 b i wr) (fun _ i _=>32 - (intOf i).toNat)
 case atStart=>exact ⟨0,0,0,_,Nat.zero_le _,rfl,by go_num,HF.out⟩
 case round=>
  obtain ⟨k,n,c,A,hk,rfl,rfl,hb⟩:=hrel;have HB:Hid (CB w.heap.size (.slice none 0 0) w (ax d).toArray (d.take k) A n c wr):=ae hb;have hn:n=k:=by rw [<-hb.len];show (d.take k).length=k;rw [List.length_take,HD.out];omega
  have hsz:w.heap.size<=wr.heap.size:=hb.keep.size;clear hb;subst hn;by_cases hlt:(n:Int)<32
  ·obtain ⟨x,hx⟩:∃x,d[n]? =some x:=⟨_,bK (by rw [HD.out];omega)⟩;have v0:wr.cell? ⟨w.heap.size,n,none⟩=some (.int .u8 (x.toNat:Int)):=by rw [HB.out.row.2 n,List.getElem?_toArray];unfold ax;rw [List.getElem?_map,hx];rfl
   have HX:=ae hx;clear hx;obtain ⟨pre,hpre⟩:∃l,d.take n=l:=⟨_,rfl⟩;have DR:=ae hpre;rw [hpre] at HB;clear hpre;have N9:=ae (World.ownsRow.alloc HB.out.own (.cells #[Value.int .u8 (x.toNat:Int)] 5));go_wp2_with (at_builtin;go_must (refine wpList_append_own_at _ rfl _ _ 55 rfl w.heap.size 5 i0 (.int .u8 0) 1 1 Tryz.underlying55 HI.out HZ0.out HZ1.out HZ2.out rfl (by decide) _ n ((pre).map Extern.Stop.cell) rfl N9.out _ 1 1 [Value.int .u8 (x.toNat:Int)] rfl rfl (cell_one_new _ _ _) (wV _) (by unfold maxLen;omega) (by omega) (by simp;omega) ?_));intro v' w3 hown hg _ hat;obtain ⟨A',c',rfl⟩:=fD hown;have H2:=ae (HB.out.grown (bs':=d.take (n+1)) (by unfold ou;rw [take_snoc d n x HX.out,DR.out,List.map_append];exact hown) (by rw [List.length_take,HD.out];omega) hg hat);clear hown hg hat;go_wp2_with fail;go_roundw
   case rel=>exact ⟨n+1,n+1,c',A',by omega,rfl,by go_num,H2.out⟩
   case measure=>simp [intOf];omega
  ·have HN:Hid (n=32):=ae (by omega);go_wp2_with fail;go_ret;have hb:=HB.out;rw [HN.out,List.take_of_length_le (Nat.le_of_eq HD.out)] at hb;have hn:=HN.out;subst hn;exact ⟨A,32,c,HD.out,rfl,hb.own,hb.keep⟩
theorem Oz {α β:Type} (f:α->List β) (l:List α) (s k:Nat) (h:∀x∈l,(f x).length<=s):((l.take k).flatMap f).length<=l.length*s:=by
 induction l generalizing k with
 |nil=>simp
 |cons x l ih=>
  cases k with
  |zero=>simp
  |succ k=>
   rw [List.take_succ_cons,List.flatMap_cons,bF,List.length_cons,Nat.succ_mul];have h1:=h x (List.mem_cons_self ..);have h2:=ih k (fun y hy=>h y (List.mem_cons_of_mem _ hy));omega
def tK (e:Ze):List UInt8:=le e.name.size 1++(e.name.data.toList++Hu e.z)
def qQ (t:Tb):List UInt8:= [byteOf t.bG,byteOf t.version,byteOf t.aO]++(t.prev++(le t.aF.length 1++t.aF.flatMap tK))
theorem Y0 (e:Ze) (h:Oj e.z) (hn:e.name.size<=2):(tK e).length<=103:=by
 have h1:=VI e.z h;have h2:e.name.data.toList.length=e.name.size:=by rw [Array.length_toList];rfl
 simp only [tK,bF,aC];omega
theorem CB.lit {w W:World} {cs:Array Value} (hr:Row W w.heap.size cs) (hb:Below w.heap.size w W) (bs:List UInt8) (n:Nat) (hl:bs.length=n) (hn:n<=1000) (vs:Array Value) (hv:vs.toList=bs.map Extern.Stop.cell):CB w.heap.size (.slice none 0 0) w cs bs (some ⟨W.heap.size,0,none⟩) n n (W.alloc (.cells vs 5)):=by
 have hlt:=hr.1;have ho:(W.alloc (.cells vs 5)).ownsRow W.heap.size 5 1 (.slice (some ⟨W.heap.size,0,none⟩) n n) n vs.toList:=World.ownsRow_lit W vs n (Nat.le_refl _) (by unfold maxLen;omega) (by rw [<-Array.length_toList,hv,List.length_map,hl,Nat.mul_one]);have hb2:Below w.heap.size w (W.alloc (.cells vs 5)):=ah hb (ag W _);refine ⟨hr.keep (ag W _),ou.lower (lo:=W.heap.size) (by rw [hv] at ho;exact ho) hb.size,hl,⟨hb2.os,hb2.tape,hb2.output,hb2.size,fun k hk _=>hb2.block k hk, .inr ⟨W.heap.size,rfl,hb.size⟩⟩,fun e=>?_⟩;have h:w.heap.size=W.heap.size:=Option.some.inj e;omega
def PH (w:World) (t:Tb) (e:Ending) (w':World):Prop:=∃A n c,(qQ t).length=n/\e= .returned (.tuple #[.slice A n c, .int .i64 0])/\ou w.heap.size w' A n c (qQ t)/\Below w.heap.size w w'
theorem Ag.z14 {z:Zn} (h:Ag z):Z14 z:=by
 have hc:=h.cal;have hg:=uS z.cal.rules 1 hc.per;have hs:=h.st;have hh:=h.ho;have hl:=h.QS;refine ⟨⟨⟨by have:=hc.ep;omega,by have:=hc.ep;omega⟩,by have:=hc.ml;omega,fun x hx=>⟨by have:=hc.mo x hx;omega,by have:=hc.mo x hx;omega⟩,⟨hc.lp.1,by have h1:=hc.lp;have h2:=hc.ml;omega⟩,by have:=hc.rl;omega,fun r hr=>?_⟩,⟨by omega,by omega⟩,by omega,fun x hx=>?_,⟨by omega,by omega⟩,by have:=h.yr.len;omega,fun y hm=>?_⟩
 ·obtain ⟨h1,h2,h3⟩:=hg r hr;exact ⟨⟨by omega,by omega⟩,⟨by omega,by omega⟩⟩
 ·obtain ⟨h1,h2,h3⟩:=h.trs x hx;exact ⟨⟨by omega,by omega⟩,⟨by omega,by omega⟩⟩
 ·have hS:=h.yr.mem y hm;have h1:=hS.mo;have h2:=hS.wk;have h3:=hS.wd;have h4:=hS.mi;have h5:=hS.of;have h6:=hc.ml;exact ⟨⟨by omega,by omega⟩,⟨by omega,by omega⟩,⟨by omega,by omega⟩,⟨by omega,by omega⟩,⟨by omega,by omega⟩⟩
theorem VF (e:Ze) (h:Ag e.z) (hn:e.name.size<=32):(tK e).length<=5400:=by
 have g1:=fC (le · 1) e.z.cal.au 1 e.z.cal.au.length (fun _=>aC _ _);have g2:=fC Uo e.z.cal.rules 5 e.z.cal.rules.length Aj;have g3:=fC U7 e.z.trans 10 e.z.trans.length GY;have g4:=fC Wu e.z.aH 7 e.z.aH.length Ho;rw [List.take_length] at g1 g2 g3 g4;have h1:=h.cal.ml;have h2:=h.cal.rl;have h3:=h.QS;have h4:=h.yr.len;have h5:e.name.data.toList.length=e.name.size:=by rw [Array.length_toList];rfl
 simp only [tK,Hu,sH,bF,aC];omega
def By14G (w:World) (t:Tb) (e:Ending) (w':World):Prop:=(mg t=0/\PH w t e w')\/(mg t≠0/\e= .returned (.tuple #[.slice none 0 0,I (mg t)])/\Below w.heap.size w w')
attribute [local go_sem] ja jb jc bC
theorem rV (x:dF) (w:World) (hx:fV w w.heap.size x) (hv:mg x.t=0):
  Calls Tryz.prog 30 #[.agg (ai x.t (.slice x.A x.zs.length x.c))] w (PH w x.t):=by
 obtain ⟨i0,hi,hz0,hz1,hz2⟩:=info_parts lN;have HI:=ae hi;have HZ0:=ae hz0;have HZ1:=ae hz1;have HZ2:=ae hz2;clear hi hz0 hz1 hz2;have KX:Hid (∀W,Below w.heap.size w W->Calls Tryz.prog 33 #[.agg (ai x.t (.slice x.A x.zs.length x.c))] W (Gives (.int .i64 0) W)):=ae fun W hb=>by
  have h0:=hx.grow hb;have h1:=wQ x.t x.A x.zs.length x.c x.zs W h0.prev h0.bP h0.names rfl h0.aF
  rwa [hv] at h1
 have h:TbY x.t:=JZ hv hx.prev hx.bP;clear hv;obtain ⟨t,A,c,zs⟩:=x;obtain ⟨hz,hp,hm,hA⟩:=hx;simp only at hz hp hm hA h KX ⊢;obtain ⟨n,hn⟩:∃n,zs.length=n:=⟨_,rfl⟩;rw [hn] at KX ⊢;have HB0:=ae (ag w (.cells (ai t (.slice A n c)) 26));have HR0:=ae (Row.new w (ai t (.slice A n c)) 26);have dU:=ae (bD t (.slice A n c) hp hm);have hn3:n<=128:=by have:=h.num;rw [hz,List.length_map,hn] at this;exact this
 have HF:=ae h;have HZ:=ae hz;have KT:=ae hn;have Ez:=ae hp;have HA:=ae hA;have h32:(Tryz.prog.info? 24).map (·.size)=some (ax t.prev).length:=by rw [show (ax t.prev).length=32 by simp [ax,hp]];kernel_rfl
 have WG:=ae h32;clear h hz hp hm hA hn h32;go_enter Tryz.func30,Tryz.ntmps30;go_wp2_with ((with_reducible refine eF 26 ?_);go_must (refine aJ rfl _ _ rfl w.heap.size rfl (ai t (.slice A n c)) HR0.out _ Tryz.underlying26 rfl dU.out ?_));refine (KX.out _ HB0.out).mono ?_;rintro e w1 ⟨rfl,hb1⟩;have HR1:=ae (HR0.out.keep hb1);have HB1:=ae (ah HB0.out hb1);have mG:Hid (CB w.heap.size (.slice none 0 0) w (ai t (.slice A n c)) [byteOf t.bG,byteOf t.version,byteOf t.aO] (some ⟨w1.heap.size,0,none⟩) 3 3 (w1.alloc (.cells #[Value.int .u8 (t.bG%256),Value.int .u8 (t.version%256),Value.int .u8 (t.aO%256)] 5))):=ae (CB.lit HR1.out HB1.out _ 3 rfl (by omega) _ (by simp only [List.map_cons,List.map_nil,fF]));have sS:=ae (uU t (.slice A n c) mG.out.row);have k1:=HR1.out.2;have hlt1:=HR1.out.1;clear hb1 HR0 HB0 KX;go_wp2_with (with_reducible refine dY 24 ?_;refine dn rfl _ _ rfl w.heap.size 4 rfl (ax t.prev) sS.out _ Tryz.underlying24 rfl WG.out ?_);generalize w1.alloc (.cells #[Value.int .u8 (t.bG%256),Value.int .u8 (t.version%256),Value.int .u8 (t.aO%256)] 5)=W1 at mG sS ⊢;refine (yC t.prev W1 Ez.out).mono ?_;rintro e w2 ⟨A2,n2,c2,l2,rfl,o2,k2⟩;have hn2:n2=32:=by rw [<-l2,Ez.out]
 subst hn2;have HC2:=ae (mG.out.grow k2.jf);obtain ⟨g,cap,hgv,hgl⟩:=gG o2 (by omega);injection hgv with hA2 _ hC2;subst hA2 hC2;have Sj:Hid (∀j u,(t.prev.map Extern.Stop.cell)[j]? =some u->w2.cell? ((⟨g,0,none⟩:Addr).add j)=some u):=ae (fun j u hu=>World.ownsRow.cells o2 (g:=g) rfl j u hu);have yg:Hid ((t.prev.map Extern.Stop.cell).length=32*1):=ae (by rw [List.length_map,Ez.out]);have AU:Hid (∀u∈t.prev.map Extern.Stop.cell,u.oneCell'=true):=ae (fun u hu=>by obtain ⟨x,_,rfl⟩:=List.mem_map.1 hu;rfl);have hsz2:w.heap.size<=w2.heap.size:=HC2.out.keep.size;obtain ⟨hd,hhd⟩:∃l,[byteOf t.bG,byteOf t.version,byteOf t.aO]=l:=⟨_,rfl⟩;have HHD:=ae hhd;rw [hhd] at HC2;have rD:=ae HC2.out.own;clear o2 l2 k2 hgl hhd k1 hlt1;go_wp2_with (at_builtin;go_must (refine wpList_append_own_at _ rfl _ _ 55 rfl w.heap.size 5 i0 (.int .u8 0) 1 1 Tryz.underlying55 HI.out HZ0.out HZ1.out HZ2.out rfl (by decide) _ 3 (hd.map Extern.Stop.cell) rfl rD.out ⟨g,0,none⟩ 32 c2 (t.prev.map Extern.Stop.cell) rfl yg.out Sj.out AU.out (by unfold maxLen;omega) (by omega) (by omega) ?_));intro v' w3 hown hg _ hat;obtain ⟨A3,c3,rfl⟩:=fD hown;have xX:Hid (CB w.heap.size (.slice none 0 0) w (ai t (.slice A n c)) (hd++t.prev) A3 35 c3 w3):=ae (HC2.out.next (by unfold ou;rw [List.map_append];exact hown) (by rw [bF,HC2.out.len,Ez.out]) (uO.app0 hg hat));clear hown hg hat;have k1:=xX.out.row.2;have hlt1:=xX.out.row.1;go_wp2_with fail;refine (dZ w.heap.size _ _ 1 _ _ n _ xX.out.len (by omega) (by omega) ⟨by omega,by omega⟩ xX.out.keep.size xX.out.own).mono ?_;rintro e w4 ⟨A4,n4,c4,l4,rfl,o4,k4⟩;have xZ:=ae (xX.out.next o4 l4 k4);have EF:Hid (∀k,((t.aF.take k).flatMap tK).length<=691200):=ae (fun k=>by
  have:=Oz tK t.aF 5400 k (fun e he=>VF e (HF.out.good e he) (HF.out.short e he));have h2:=HF.out.num;omega)
 clear l4 o4 k4 k1 hlt1;have k1:=xZ.out.row.2;have hlt1:=xZ.out.row.1;go_wp2_with fail
 go_loopw [5,6] (fun b i wr=>Ij w.heap.size (.slice none 0 0) w (ai t (.slice A n c)) (fun k=>hd++t.prev++le n 1++(t.aF.take k).flatMap tK) n b i wr) (fun _ i _=>n - (intOf i).toNat)
 case atStart=>exact ⟨0,n4,c4,A4,Nat.zero_le _,rfl,by go_num,by simpa using xZ.out⟩
 case round=>
  clear k1 hlt1;obtain ⟨k,n5,c5,A5,hk,rfl,rfl,hb⟩:=hrel;have HB:Hid (CB w.heap.size (.slice none 0 0) w (ai t (.slice A n c)) (hd++t.prev++le n 1++(t.aF.take k).flatMap tK) A5 n5 c5 wr):=ae hb;have hn5:n5<=691300:=by
   have h1:=HB.out.len;have h2:=EF.out k;rw [bF,bF,aC,xX.out.len] at h1;omega
  clear hb;obtain ⟨pre,hpre⟩:∃l,hd++t.prev++le n 1++(t.aF.take k).flatMap tK=l:=⟨_,rfl⟩;have DR:=ae hpre;rw [hpre] at HB;clear hpre;have k1:=HB.out.row.2;have hlt1:=HB.out.row.1;have hsz:=HB.out.keep.size;by_cases hlt:(k:Int)<(n:Int)
  ·have hkz:k<zs.length:=by rw [KT.out];omega
   obtain ⟨x,hx⟩:∃x,zs[k]? =some x:=⟨_,bK hkz⟩;obtain ⟨b,off,rfl,nZ,hcl⟩:=HA.out.row.there (by rw [dX];omega);have hxm:x.e∈t.aF:=by rw [HZ.out];exact List.mem_map_of_mem (gZ hx)
   have hzx:t.aF[k]? =some x.e:=by rw [HZ.out,List.getElem?_map,hx];rfl
   have hns:x.e.name.size<=32:=HF.out.short _ hxm;obtain ⟨nm,hnm⟩:∃s,x.e.name=s:=⟨_,rfl⟩;rw [hnm] at hns;have iM:Hid (∀i u,x.cells.toList[i]? =some u->w.cell? ⟨b,off+k*9+i,none⟩=some u):=ae (aA.elem (s:=9) (f:=fun x:dw=>x.cells.toList) (fun _ _=>rfl) hcl k x hx);have HNS:=ae hns;have hz1:Z14 x.e.z:=(HF.out.good _ hxm).z14;have HZ14:=ae hz1;have HZN:=ae (HA.out.each x (gZ hx));have Ls:=ae hzx;have FO:=ae hnm;have z0:wr.cell? ⟨b,off+k*9,none⟩=some (.string nm):=(HB.out.keep.jf.cell (p:=⟨b,off+k*9,none⟩) nZ).trans (by rw [<-hnm];exact iM.out 0 _ rfl);have z1:wr.cell? ⟨b,off+k*9+1,none⟩=some (I x.e.z.cal.bn):=(HB.out.keep.jf.cell (p:=⟨b,off+k*9+1,none⟩) nZ).trans (iM.out 1 _ rfl);have z2:wr.cell? ⟨b,off+k*9+2,none⟩=some (.slice x.s.A x.e.z.cal.au.length x.s.a):=(HB.out.keep.jf.cell (p:=⟨b,off+k*9+2,none⟩) nZ).trans (iM.out 2 _ rfl);have z3:wr.cell? ⟨b,off+k*9+3,none⟩=some (I x.e.z.cal.dA):=(HB.out.keep.jf.cell (p:=⟨b,off+k*9+3,none⟩) nZ).trans (iM.out 3 _ rfl);have z4:wr.cell? ⟨b,off+k*9+4,none⟩=some (.slice x.s.B x.e.z.cal.rules.length x.s.b):=(HB.out.keep.jf.cell (p:=⟨b,off+k*9+4,none⟩) nZ).trans (iM.out 4 _ rfl);have z5:wr.cell? ⟨b,off+k*9+5,none⟩=some (I x.e.z.start):=(HB.out.keep.jf.cell (p:=⟨b,off+k*9+5,none⟩) nZ).trans (iM.out 5 _ rfl);have z6:wr.cell? ⟨b,off+k*9+6,none⟩=some (.slice x.s.C x.e.z.trans.length x.s.c):=(HB.out.keep.jf.cell (p:=⟨b,off+k*9+6,none⟩) nZ).trans (iM.out 6 _ rfl);have z7:wr.cell? ⟨b,off+k*9+7,none⟩=some (I x.e.z.hor):=(HB.out.keep.jf.cell (p:=⟨b,off+k*9+7,none⟩) nZ).trans (iM.out 7 _ rfl);have z8:wr.cell? ⟨b,off+k*9+8,none⟩=some (.slice x.s.D x.e.z.aH.length x.s.d):=(HB.out.keep.jf.cell (p:=⟨b,off+k*9+8,none⟩) nZ).trans (iM.out 8 _ rfl);have f1:fits ((nm.size:Nat):Int):=⟨by omega,by omega⟩;clear hx hcl hxm hkz hzx hns hz1;go_wp2_with fail;refine (dZ w.heap.size _ _ 1 _ _ (nm.size:Nat) _ HB.out.len (by omega) (by omega) f1 HB.out.keep.size HB.out.own).mono ?_;rintro e w6 ⟨A6,n6,d6,l6,rfl,o6,k6⟩;have xe:=ae (HB.out.next o6 l6 k6);have hn6:n6<=691310:=by
    have h1:=HB.out.len;rw [bF,aC] at l6;omega
   have hsz6:=xe.out.keep.size;obtain ⟨pre2,Uc⟩:∃l,pre++le (nm.size:Nat) 1=l:=⟨_,rfl⟩;have HP2:=ae Uc;rw [Uc] at xe;have zU:=ae xe.out.own;clear l6 o6 k6 k1 hlt1 Uc z0 z1 z2 z3 z4 z5 z6 z7 z8;have k1:=xe.out.row.2;have hlt1:=xe.out.row.1;have z0:w6.cell? ⟨b,off+k*9,none⟩=some (.string nm):=(xe.out.keep.jf.cell (p:=⟨b,off+k*9,none⟩) nZ).trans (by rw [<-hnm];exact iM.out 0 _ rfl);have z1:w6.cell? ⟨b,off+k*9+1,none⟩=some (I x.e.z.cal.bn):=(xe.out.keep.jf.cell (p:=⟨b,off+k*9+1,none⟩) nZ).trans (iM.out 1 _ rfl);have z2:w6.cell? ⟨b,off+k*9+2,none⟩=some (.slice x.s.A x.e.z.cal.au.length x.s.a):=(xe.out.keep.jf.cell (p:=⟨b,off+k*9+2,none⟩) nZ).trans (iM.out 2 _ rfl);have z3:w6.cell? ⟨b,off+k*9+3,none⟩=some (I x.e.z.cal.dA):=(xe.out.keep.jf.cell (p:=⟨b,off+k*9+3,none⟩) nZ).trans (iM.out 3 _ rfl);have z4:w6.cell? ⟨b,off+k*9+4,none⟩=some (.slice x.s.B x.e.z.cal.rules.length x.s.b):=(xe.out.keep.jf.cell (p:=⟨b,off+k*9+4,none⟩) nZ).trans (iM.out 4 _ rfl);have z5:w6.cell? ⟨b,off+k*9+5,none⟩=some (I x.e.z.start):=(xe.out.keep.jf.cell (p:=⟨b,off+k*9+5,none⟩) nZ).trans (iM.out 5 _ rfl);have z6:w6.cell? ⟨b,off+k*9+6,none⟩=some (.slice x.s.C x.e.z.trans.length x.s.c):=(xe.out.keep.jf.cell (p:=⟨b,off+k*9+6,none⟩) nZ).trans (iM.out 6 _ rfl);have z7:w6.cell? ⟨b,off+k*9+7,none⟩=some (I x.e.z.hor):=(xe.out.keep.jf.cell (p:=⟨b,off+k*9+7,none⟩) nZ).trans (iM.out 7 _ rfl);have z8:w6.cell? ⟨b,off+k*9+8,none⟩=some (.slice x.s.D x.e.z.aH.length x.s.d):=(xe.out.keep.jf.cell (p:=⟨b,off+k*9+8,none⟩) nZ).trans (iM.out 8 _ rfl);go_wp2_with (at_builtin;go_must (refine Dj rfl _ _ rfl w.heap.size _ n6 (pre2.map Extern.Stop.cell) rfl zU.out nm rfl (by have:=HNS.out;omega) (by omega) ?_));intro v' w7 hown hg hat;obtain ⟨A7,d7,rfl⟩:=fD hown;have Kv:Hid (CB w.heap.size (.slice none 0 0) w (ai t (.slice (some ⟨b,off,none⟩) n c)) (pre2++nm.data.toList) A7 (n6+nm.size) d7 w7):=ae (xe.out.next (by unfold ou;rw [List.map_append];exact hown) (by rw [bF,xe.out.len,Array.length_toList];rfl) (uO.app0 hg hat));clear hown hg hat k1 hlt1 z0 z1 z2 z3 z4 z5 z6 z7 z8;have k1:=Kv.out.row.2;have hlt1:=Kv.out.row.1;have z0:w7.cell? ⟨b,off+k*9,none⟩=some (.string nm):=(Kv.out.keep.jf.cell (p:=⟨b,off+k*9,none⟩) nZ).trans (by rw [<-hnm];exact iM.out 0 _ rfl);have z1:w7.cell? ⟨b,off+k*9+1,none⟩=some (I x.e.z.cal.bn):=(Kv.out.keep.jf.cell (p:=⟨b,off+k*9+1,none⟩) nZ).trans (iM.out 1 _ rfl);have z2:w7.cell? ⟨b,off+k*9+2,none⟩=some (.slice x.s.A x.e.z.cal.au.length x.s.a):=(Kv.out.keep.jf.cell (p:=⟨b,off+k*9+2,none⟩) nZ).trans (iM.out 2 _ rfl);have z3:w7.cell? ⟨b,off+k*9+3,none⟩=some (I x.e.z.cal.dA):=(Kv.out.keep.jf.cell (p:=⟨b,off+k*9+3,none⟩) nZ).trans (iM.out 3 _ rfl);have z4:w7.cell? ⟨b,off+k*9+4,none⟩=some (.slice x.s.B x.e.z.cal.rules.length x.s.b):=(Kv.out.keep.jf.cell (p:=⟨b,off+k*9+4,none⟩) nZ).trans (iM.out 4 _ rfl);have z5:w7.cell? ⟨b,off+k*9+5,none⟩=some (I x.e.z.start):=(Kv.out.keep.jf.cell (p:=⟨b,off+k*9+5,none⟩) nZ).trans (iM.out 5 _ rfl);have z6:w7.cell? ⟨b,off+k*9+6,none⟩=some (.slice x.s.C x.e.z.trans.length x.s.c):=(Kv.out.keep.jf.cell (p:=⟨b,off+k*9+6,none⟩) nZ).trans (iM.out 6 _ rfl);have z7:w7.cell? ⟨b,off+k*9+7,none⟩=some (I x.e.z.hor):=(Kv.out.keep.jf.cell (p:=⟨b,off+k*9+7,none⟩) nZ).trans (iM.out 7 _ rfl);have z8:w7.cell? ⟨b,off+k*9+8,none⟩=some (.slice x.s.D x.e.z.aH.length x.s.d):=(Kv.out.keep.jf.cell (p:=⟨b,off+k*9+8,none⟩) nZ).trans (iM.out 8 _ rfl);go_wp2_with fail;refine (VM w.heap.size (n6+nm.size) d7 A7 _ x.e.z x.s w7 Kv.out.len (by have:=HNS.out;omega) HZ14.out (HZN.out.keep Kv.out.keep.jf) Kv.out.keep.size Kv.out.own).mono ?_;rintro e w8 ⟨A8,n8,d8,l8,rfl,o8,k8⟩;have HC8:=ae (Kv.out.next o8 l8 k8);clear l8 o8 k8 k1 hlt1 z0 z1 z2 z3 z4 z5 z6 z7 z8;go_wp2_with fail;go_roundw
   case rel=>exact ⟨k+1,n8,d8,A8,by omega,rfl,by go_num,by
    have hc:=HC8.out;rw [<-HP2.out,<-DR.out] at hc;show CB _ _ _ _ (_++(t.aF.take (k+1)).flatMap tK) _ _ _ _;rw [qY _ _ _ _ Ls.out,show tK x.e=le (nm.size:Nat) 1++(nm.data.toList++Hu x.e.z) by unfold tK;rw [FO.out]];simpa [List.append_assoc] using hc⟩
   case measure=>simp [intOf];omega
  ·have HK:Hid (k=n):=ae (by omega);go_wp2_with fail;go_ret2;have hb:=HB.out;have e1:pre=qQ t:=by
    rw [<-DR.out,HK.out,List.take_of_length_le (by rw [HZ.out,List.length_map,KT.out];exact Nat.le_refl _),<-HHD.out];simp [qQ,HZ.out,KT.out,List.append_assoc]
   rw [e1] at hb;exact ⟨A5,n5,c5,hb.len,rfl,hb.own,hb.keep.jf⟩
attribute [local go_sem] ja jb jc bC
theorem zq (x:dF) (w:World) (hx:fV w w.heap.size x) (hv:mg x.t≠0):
  Calls Tryz.prog 30 #[.agg (ai x.t (.slice x.A x.zs.length x.c))] w (fun e w'=>e= .returned (.tuple #[.slice none 0 0,I (mg x.t)])/\Below w.heap.size w w'):=by
 have KX:Hid (∀W,Below w.heap.size w W->Calls Tryz.prog 33 #[.agg (ai x.t (.slice x.A x.zs.length x.c))] W (Gives (I (mg x.t)) W)):=ae fun W hb=>wQ x.t x.A x.zs.length x.c x.zs W hx.prev hx.bP hx.names rfl (hx.grow hb).aF;have dU:=ae (bD x.t (.slice x.A x.zs.length x.c) hx.prev hx.bP);obtain ⟨t,A,c,zs⟩:=x;obtain ⟨n,hn⟩:∃n,zs.length=n:=⟨_,rfl⟩;simp only at KX hv dU ⊢;rw [hn] at KX dU ⊢;obtain ⟨rv,zi⟩:∃v,mg t=v:=⟨_,rfl⟩;rw [zi] at KX hv ⊢;have HB0:=ae (ag w (.cells (ai t (.slice A n c)) 26));have HR0:=ae (Row.new w (ai t (.slice A n c)) 26);have q12:(rv !=0)=true:=by simp [hv]
 clear hx hn zi;go_enter Tryz.func30,Tryz.ntmps30;go_wp2_with ((with_reducible refine eF 26 ?_);go_must (refine aJ rfl _ _ rfl w.heap.size rfl (ai t (.slice A n c)) HR0.out _ Tryz.underlying26 rfl dU.out ?_));refine (KX.out _ HB0.out).mono ?_;rintro e w1 ⟨rfl,hb1⟩;have HB1:=ae (ah HB0.out hb1);clear hb1;go_wp2_with fail;go_ret2;exact ⟨rfl,HB1.out⟩
theorem Nr (x:dF) (w:World) (hx:fV w w.heap.size x):
  Calls Tryz.prog 30 #[.agg (ai x.t (.slice x.A x.zs.length x.c))] w (By14G w x.t):=by
 by_cases hv:mg x.t=0
 ·exact (rV x w hx hv).mono fun e w' h=> .inl ⟨hv,h⟩
 ·exact (zq x w hx hv).mono fun e w' h=> .inr ⟨hv,h⟩
end Go.Proofs.YtbaehbbonkljpaaGreatDoor
