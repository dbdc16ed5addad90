/- The texts Jm, Jn, Jo, in this order. -/
import Derived.Test.YtbaehbbonkljpaaGreatR00
import Derived.Test.YtbaehbbonkljpaaGreatR12
import Derived.Test.YtbaehbbonkljpaaGreatR17
import Derived.Test.YtbaehbbonkljpaaGreatR18
import Derived.Test.YtbaehbbonkljpaaGreatR23
set_option maxRecDepth 10000
set_option maxHeartbeats 8000000
namespace Go.Proofs.YtbaehbbonkljpaaGreat
open Go Go.RowKit
theorem DD (z:Zn) (s:Zs) (w:World) (h:jy w w.heap.size s z):Calls Tryz.prog 36 #[.agg (au z s)] w (Gives (I (uA z)) w):=by
 have HO:Hid (∀w',Below w.heap.size w w'→Calls Tryz.prog 56 #[.agg (au z s)] w' fun e w2=>(∃v,e= .returned (.tuple #[v, .bool (Bc z)]))∧Below w'.heap.size w' w2):=ae fun w' hb=>zopenG z s w' (h.grow hb);have HR0:=ae (Row.new w (au z s) 54);have HB0:=ae (ag w (.cells (au z s) 54));obtain ⟨m,hmm⟩:∃m,z.trans.length=m:=⟨_,rfl⟩;have e0:au z s= #[I z.cal.aJ, .slice s.A z.cal.aj.length s.a,I z.cal.aY, .slice s.B z.cal.rules.length s.b,I z.start, .slice s.C m s.c,I z.hor, .slice s.D z.ax.length s.d]:=by unfold au;rw [hmm]
 rw [e0] at HO HR0 HB0 ⊢;obtain ⟨ok,hok⟩:∃b,Bc z=b:=⟨_,rfl⟩;rw [hok] at HO;have HF:Hid (uA z=if 512<m then 2 else if ok=true then 0 else 1):=ae (by unfold uA;rw [hmm,hok]);rw [HF.out];clear h e0 hmm hok HF;by_cases hT:512<m
 ·rw [if_pos hT];have hT1:(512:Int)<(m:Int):=by omega
  go_enter Tryz.func36,Tryz.ntmps36;go_wp2_with fail;go_ret;exact ⟨rfl,HB0.out⟩
 ·rw [if_neg hT];have hT1:¬(512:Int)<(m:Int):=by omega
  cases ok with
  |true=>
   rw [if_pos rfl];go_enter Tryz.func36,Tryz.ntmps36;go_wp2_with fail;refine (HO.out _ HB0.out).mono ?_;rintro e w1 ⟨⟨b,rfl⟩,hb1⟩;have HB1:=ae (ai HB0.out hb1);clear hb1;go_wp2_with fail;go_ret;exact ⟨rfl,HB1.out⟩
  |false=>
   rw [if_neg (by decide)];go_enter Tryz.func36,Tryz.ntmps36;go_wp2_with fail;refine (HO.out _ HB0.out).mono ?_;rintro e w1 ⟨⟨b,rfl⟩,hb1⟩;have HB1:=ae (ai HB0.out hb1);clear hb1;go_wp2_with fail;go_ret;exact ⟨rfl,HB1.out⟩
attribute [local go_sem] iY iZ ja bC
def lM (x last:ByteArray):Bool:=Op.bytesLess x.toList last.toList||(x.toList==last.toList)
def dY:ByteArray→List Ze→Int
 |_,[]=>0
 |last,e::es=>if 32<e.name.size∨lM e.name last=true then 1 else if uA e.z=0 then dY e.name es else uA e.z
theorem nX (last:ByteArray) (e:Ze) (es:List Ze):dY last (e::es)=if 32<e.name.size∨lM e.name last=true then 1 else if uA e.z=0 then dY e.name es else uA e.z:=rfl
def VE (t:Tb):Bool:=decide (t.bV<0∨16≤t.bV∨t.version<1∨64<t.version)
def VF (t:Tb):Bool:=decide (t.aO<0∨t.version≤t.aO∨(t.version=1∧(t.prev==bU)=false))
def pM (t:Tb):Int:=if VE t=true then 1 else if VF t=true then 1 else if 128<t.aG.length then 2 else dY ⟨#[]⟩ t.aG
theorem Lp (xs:List UInt8) (h:xs.length=32):∀W,(binOp .neq 24 (.agg (ay xs).toArray) (.agg (ay bU).toArray)).run Tryz.prog W= .ok (.bool (!(xs==bU))) W:=fun W=>by
 unfold ay;rw [run_neq_struct,run_equalIn_bytes W 9998 24 5 32 Tryz.underlying24 Tryz.underlying5 (fun w=>FO w) xs bU h rfl];simp [Result.andThen]
theorem tu (t:Tb) (A:Option Addr) (n c:Nat) (zs:List dB) (w:World) (hpl:t.prev.length=32) (hz:t.aG=zs.map (·.e)) (hn:zs.length=n) (hA:kH w w.heap.size A zs):
  Calls Tryz.prog 17 #[.agg (ah t (.slice A n c))] w (Gives (I (pM t)) w):=by
 have HR0:=ae (Row.new w (ah t (.slice A n c)) 39);have HB0:=ae (ag w (.cells (ah t (.slice A n c)) 39));have HZ:=ae hz;have xm:Hid (TG w (ah t (.slice A n c)) A zs (w.alloc (.cells (ah t (.slice A n c)) 39))):=ae ⟨HR0.out,hA.keep HB0.out,HB0.out⟩;have Vp:=ae hn;have HNZ:Hid (t.aG.length=n):=ae (by rw [hz,List.length_map,hn]);have h32:(Tryz.prog.info? 24).map (·.size)=some (ay t.prev).length:=by rw [show (ay t.prev).length=32 by simp [ay,hpl]];kernel_rfl
 have HP:=ae (qP t (.slice A n c) xm.out.row);have VM:=ae h32;have hneq:=Lp t.prev hpl;rw [wY] at hneq;obtain ⟨pz,hpz⟩:∃b,(t.prev==bU)=b:=⟨_,rfl⟩;rw [hpz] at hneq;have HNEQ:=ae hneq;have HPZ:=ae hpz;obtain ⟨b1,hb1⟩:∃b,VE t=b:=⟨_,rfl⟩;obtain ⟨b2,hb2⟩:∃b,VF t=b:=⟨_,rfl⟩;have HB1:=ae hb1;have HB2:=ae hb2;obtain ⟨ti,hti⟩:∃x,t.bV=x:=⟨_,rfl⟩;obtain ⟨tv,Fz⟩:∃x,t.version=x:=⟨_,rfl⟩;obtain ⟨tw,htw⟩:∃x,t.aO=x:=⟨_,rfl⟩;have HT1:Hid (VE t=decide (ti<0∨16≤ti∨tv<1∨64<tv)):=ae (by unfold VE;rw [hti,Fz]);have HT2:Hid (VF t=decide (tw<0∨tv≤tw∨(tv=1∧pz=false))):=ae (by unfold VF;rw [htw,Fz,hpz]);have HK:Hid (∀W,Row W w.heap.size (ah t (.slice A n c))→W.cell? ⟨w.heap.size,0,none⟩=some (I ti)∧W.cell? ⟨w.heap.size,1,none⟩=some (I tv)∧W.cell? ⟨w.heap.size,2,none⟩=some (I tw)∧W.cell? ⟨w.heap.size,3,none⟩=some (.slice A n c)):=ae (fun W hW=>⟨(hW.2 0).trans (by rw [iY,hti]),(hW.2 1).trans (by rw [iZ,Fz]),(hW.2 2).trans (by rw [ja,htw]),(hW.2 3).trans (bC _ _)⟩);clear hz hA hn HR0 HB0 h32 hneq hpz hb1 hb2 hti Fz htw hpl;have lN:Hid (pM t=if b1=true then 1 else if b2=true then 1 else if 128<n then 2 else dY ⟨#[]⟩ t.aG):=ae (by unfold pM;rw [HB1.out,HB2.out,HNZ.out]);obtain ⟨rv,yY⟩:∃v,pM t=v:=⟨_,rfl⟩;rw [yY];rw [yY] at lN;clear yY;go_enter Tryz.func17,Tryz.ntmps17;go_upto_region 1 with fail;generalize w.alloc (.cells (ah t (.slice A n c)) 39)=W0 at xm HP ⊢;try simp only [Act.put]
 (try simp only [List.setIfInBounds_toArray,List.set_cons_zero,List.set_cons_succ])
 go_cut [7] from 8 to 25 (fun p wx=>p= .bool b1∧wx=W0)
 case first=>
  obtain ⟨k0,k1,k2,k3⟩:=HK.out W0 xm.out.row;clear k2 k3;by_cases m0:ti<0
  ·have HT:Hid (b1=true):=ae (by
    rw [←HB1.out,HT1.out];exact decide_eq_true (by omega))
   go_wp2_with fail;go_meet;exact ⟨by rw [HT.out],rfl⟩
  ·by_cases m1:(16:Int)≤ti
   ·have HT:Hid (b1=true):=ae (by
     rw [←HB1.out,HT1.out];exact decide_eq_true (by omega))
    go_wp2_with fail;go_meet;exact ⟨by rw [HT.out],rfl⟩
   ·by_cases m2:tv<1
    ·have HT:Hid (b1=true):=ae (by
      rw [←HB1.out,HT1.out];exact decide_eq_true (by omega))
     go_wp2_with fail;go_meet;exact ⟨by rw [HT.out],rfl⟩
    ·by_cases m3:(64:Int)<tv
     ·have HT:Hid (b1=true):=ae (by
       rw [←HB1.out,HT1.out];exact decide_eq_true (by omega))
      go_wp2_with fail;go_meet;exact ⟨by rw [HT.out],rfl⟩
     ·have HT:Hid (b1=false):=ae (by
       rw [←HB1.out,HT1.out];exact decide_eq_false (by omega))
      go_wp2_with fail;go_meet;exact ⟨by rw [HT.out],rfl⟩
 case rest=>
  obtain ⟨rfl,rfl⟩:=hcut;cases b1 with
  |true=>
   go_wp2_with fail;go_ret;have e9:=lN.out;simp only [if_true] at e9;subst e9;exact ⟨rfl,xm.out.up⟩
  |false=>
   go_upto_region 3 with fail
   go_cut [26] from 27 to 47 (fun p wx=>p= .bool b2∧wx=wc)
   case first=>
    obtain ⟨k0,k1,k2,k3⟩:=HK.out wc xm.out.row;clear k0 k3;by_cases m0:tw<0
    ·have HT:Hid (b2=true):=ae (by
      rw [←HB2.out,HT2.out];exact decide_eq_true (by omega))
     go_wp2_with fail;go_meet;exact ⟨by rw [HT.out],rfl⟩
    ·by_cases m1:tv≤tw
     ·have HT:Hid (b2=true):=ae (by
       rw [←HB2.out,HT2.out];exact decide_eq_true (by omega))
      go_wp2_with fail;go_meet;exact ⟨by rw [HT.out],rfl⟩
     ·by_cases m2:tv=1
      ·have hneq:=HNEQ.out;have m3:(tv==1)=true:=by simp [m2]
       have m4:¬(1:Int)≤tw:=by omega
       cases pz with
       |true=>
        have HT:Hid (b2=false):=ae (by
         rw [←HB2.out,HT2.out];exact decide_eq_false (fun h=>by rcases h with h|h|⟨_,h⟩<;>first|omega|cases h))
        go_wp2_with ((with_reducible refine fU 24 ?_);refine dw rfl _ _ rfl w.heap.size 4 rfl (ay t.prev) HP.out _ Tryz.underlying24 rfl VM.out ?_);go_meet;exact ⟨by rw [HT.out],rfl⟩
       |false=>
        have HT:Hid (b2=true):=ae (by
         rw [←HB2.out,HT2.out];exact decide_eq_true (.inr (.inr ⟨m2,rfl⟩)))
        go_wp2_with ((with_reducible refine fU 24 ?_);refine dw rfl _ _ rfl w.heap.size 4 rfl (ay t.prev) HP.out _ Tryz.underlying24 rfl VM.out ?_);go_meet;exact ⟨by rw [HT.out],rfl⟩
      ·have m3:(tv==1)=false:=by simp [m2]
       have HT:Hid (b2=false):=ae (by
        rw [←HB2.out,HT2.out];exact decide_eq_false (by omega))
       go_wp2_with fail;go_meet;exact ⟨by rw [HT.out],rfl⟩
   case rest=>
    obtain ⟨rfl,rfl⟩:=hcut;cases b2 with
    |true=>
     go_wp2_with fail;go_ret;have e9:=lN.out;simp only [if_false,if_true,Bool.false_eq_true] at e9;subst e9;exact ⟨rfl,xm.out.up⟩
    |false=>
     replace lN:=lN.out;simp only [if_false,Bool.false_eq_true] at lN;replace lN:=ae lN;obtain ⟨k0,k1,k2,k3⟩:=HK.out wc xm.out.row;clear k0 k1 k2;by_cases q7:128<n
     ·have q8:(128:Int)<(n:Int):=by omega
      go_wp2_with fail;go_ret;have e9:=lN.out;rw [if_pos q7] at e9;subst e9;exact ⟨rfl,xm.out.up⟩
     ·have q8:¬(128:Int)<(n:Int):=by omega
      replace lN:=lN.out;rw [if_neg q7] at lN;replace lN:=ae lN;go_wp2_with fail;clear k3
      go_loopw [3,56] (fun l i wr=>∃k:Nat,k≤n∧l= .string (jD zs k)∧i=I k∧dY ⟨#[]⟩ t.aG=dY (jD zs k) (t.aG.drop k)∧TG w (ah t (.slice A n c)) A zs wr) (fun _ i _=>n - (intOf i).toNat)
      case atStart=>exact ⟨0,Nat.zero_le _,rfl,rfl,rfl,xm.out⟩
      case round=>
       obtain ⟨k,hk,rfl,rfl,hen,Fz⟩:=hrel;have HV:=ae Fz;have VU:=ae hen;have k3:=(HK.out wr Fz.row).2.2.2;have hlt1:=Fz.row.1;clear Fz xm hen;by_cases hlt:k<n
       ·have hkz:k<zs.length:=by rw [Vp.out];exact hlt
        obtain ⟨x,hx⟩:∃x,zs[k]? =some x:=⟨_,bZ hkz⟩;obtain ⟨b,off,rfl,hbl,hr⟩:=kH.at HV.out.mem hx;have hi:=HV.out.mem.each x (gU hx);have i0:(0:Int)≤(k:Int):=by omega
        have i1:(k:Int)<(n:Int):=by omega
        have c0:wr.cell? ⟨b,off+k*9,none⟩=some (.string x.e.name):=hr 0 _ rfl;have c1:wr.cell? ⟨b,off+k*9+1,none⟩=some (I x.e.z.cal.aJ):=hr 1 _ rfl;have c2:wr.cell? ⟨b,off+k*9+2,none⟩=some (.slice x.s.A x.e.z.cal.aj.length x.s.a):=hr 2 _ rfl;have c3:wr.cell? ⟨b,off+k*9+3,none⟩=some (I x.e.z.cal.aY):=hr 3 _ rfl;have c4:wr.cell? ⟨b,off+k*9+4,none⟩=some (.slice x.s.B x.e.z.cal.rules.length x.s.b):=hr 4 _ rfl;have c5:wr.cell? ⟨b,off+k*9+5,none⟩=some (I x.e.z.start):=hr 5 _ rfl;have c6:wr.cell? ⟨b,off+k*9+6,none⟩=some (.slice x.s.C x.e.z.trans.length x.s.c):=hr 6 _ rfl;have c7:wr.cell? ⟨b,off+k*9+7,none⟩=some (I x.e.z.hor):=hr 7 _ rfl;have c8:wr.cell? ⟨b,off+k*9+8,none⟩=some (.slice x.s.D x.e.z.ax.length x.s.d):=hr 8 _ rfl;have HX:=ae hx;have HI:=ae hi;obtain ⟨L,hL⟩:∃L,jD zs k=L:=⟨_,rfl⟩;have Y6:Hid (∀w',Below wr.heap.size wr w'→Calls Tryz.prog 36 #[.agg #[I x.e.z.cal.aJ, .slice x.s.A x.e.z.cal.aj.length x.s.a,I x.e.z.cal.aY, .slice x.s.B x.e.z.cal.rules.length x.s.b,I x.e.z.start, .slice x.s.C x.e.z.trans.length x.s.c,I x.e.z.hor, .slice x.s.D x.e.z.ax.length x.s.d]] w' (Gives (I (uA x.e.z)) w')):=ae fun w' hb=>
         DD x.e.z x.s w' (((HI.out.more HV.out.up.size).keep hb).more hb.size)
        have hdr:t.aG.drop k=x.e::t.aG.drop (k+1):=by
         have h1:t.aG[k]? =some x.e:=by rw [HZ.out,List.getElem?_map,hx];rfl
         have h2:k<t.aG.length:=(iT.1 h1).1;rw [List.drop_eq_getElem_cons h2];rw [bZ h2] at h1;injection h1 with h1;rw [h1]
        rw [hL] at VU ⊢;obtain ⟨zv,hzv⟩:∃v,uA x.e.z=v:=⟨_,rfl⟩;have uB:Hid (dY ⟨#[]⟩ t.aG=if 32<x.e.name.size∨lM x.e.name L=true then 1 else if zv=0 then dY x.e.name (t.aG.drop (k+1)) else zv):=ae (by rw [VU.out,hdr,nX,hzv]);rw [hzv] at Y6;have hlb:b<wr.heap.size:=by omega
        have QK:=ae (ag wr (.cells x.cells 70));have EI:Hid (jD zs (k+1)=x.e.name):=ae (by show (zs[k]?.map (·.e.name)).getD ⟨#[]⟩=_;rw [hx];rfl);clear hx hr hi hkz hL hdr hzv VU;by_cases q9:32<x.e.name.size
        ·have q10:(32:Int)<(x.e.name.size:Int):=by omega
         have HR:Hid (dY ⟨#[]⟩ t.aG=1):=ae (by rw [uB.out,if_pos (.inl q9)]);go_wp2_with fail;go_ret;have e9:=lN.out;rw [HR.out] at e9;subst e9;exact ⟨rfl,ai HV.out.up QK.out⟩
        ·have q10:¬(32:Int)<(x.e.name.size:Int):=by omega
         obtain ⟨s1,hs1⟩:∃b,Op.bytesLess x.e.name.toList L.toList=b:=⟨_,rfl⟩;obtain ⟨s2,hs2⟩:∃b,(x.e.name.toList==L.toList)=b:=⟨_,rfl⟩;have OG:Hid (lM x.e.name L=(s1||s2)):=ae (by unfold lM;rw [hs1,hs2]);cases s1 with
         |true=>
          have HR:Hid (dY ⟨#[]⟩ t.aG=1):=ae (by rw [uB.out,if_pos (.inr (by rw [OG.out,Bool.true_or]))]);go_wp2_with fail;go_ret;have e9:=lN.out;rw [HR.out] at e9;subst e9;exact ⟨rfl,ai HV.out.up QK.out⟩
         |false=>
         cases s2 with
         |true=>
          have HR:Hid (dY ⟨#[]⟩ t.aG=1):=ae (by rw [uB.out,if_pos (.inr (by rw [OG.out];rfl))]);go_wp2_with fail;go_ret;have e9:=lN.out;rw [HR.out] at e9;subst e9;exact ⟨rfl,ai HV.out.up QK.out⟩
         |false=>
          have HR:Hid (dY ⟨#[]⟩ t.aG=if zv=0 then dY x.e.name (t.aG.drop (k+1)) else zv):=ae (by rw [uB.out,if_neg (by rw [OG.out];rintro (h|h);exact q9 h;cases h)]);go_wp2_with fail;refine (Y6.out _ QK.out).mono ?_;rintro e w2 ⟨rfl,hb2⟩;have jk:=ae (HV.out.below (ai QK.out hb2));have d0:w2.cell? ⟨wr.heap.size,0,none⟩=some (.string x.e.name):=((Row.new wr x.cells 70).keep hb2).2 0;clear hb2 c0 c1 c2 c3 c4 c5 c6 c7 c8 k3 Y6;by_cases q11:zv=0
          ·have HR2:Hid (dY ⟨#[]⟩ t.aG=dY x.e.name (t.aG.drop (k+1))):=ae (by rw [HR.out,if_pos q11]);subst q11;go_wp2_with fail;go_roundw
           case rel=>exact ⟨k+1,by omega,by rw [EI.out],by go_num,by rw [EI.out];exact HR2.out,jk.out⟩
           case measure=>simp [intOf];omega
          ·have HR2:Hid (dY ⟨#[]⟩ t.aG=zv):=ae (by rw [HR.out,if_neg q11]);have q12:(zv !=0)=true:=by simp [q11]
           go_wp2_with fail;go_ret;have e9:=lN.out;rw [HR2.out] at e9;subst e9;exact ⟨rfl,jk.out.up⟩
       ·have hkn:k=n:=by omega
        have HR:Hid (dY ⟨#[]⟩ t.aG=0):=ae (by rw [VU.out,List.drop_of_length_le (by rw [HNZ.out];omega)];rfl);have i1:¬(k:Int)<(n:Int):=by omega
        clear hkn;go_wp2_with fail;go_ret;have e9:=lN.out;rw [HR.out] at e9;subst e9;exact ⟨rfl,HV.out.up⟩
end Go.Proofs.YtbaehbbonkljpaaGreat
namespace Go.Proofs.YtbaehbbonkljpaaGreat
open Go Go.RowKit
attribute [local go_sem] kL kQ kM kR nZ og kJ kN kK kP
theorem IM:∀(rs:List Lr) (y:Nat),(jO rs y).isSome=true→∀r∈rs,(1≤r.every∧r.every≤400)∧0≤r.rest∧r.rest<r.every
 | [],_,_,_,h=>nomatch h
 |r::rs,y,hs,x,hx=>by
  unfold jO at hs;split at hs
  ·cases hs
  ·rename_i hb;split at hs
   ·cases hs
   ·rcases List.mem_cons.1 hx with rfl|hx
    ·omega
    ·exact IM rs _ hs x hx
theorem D6 {c:Cal} (h:eH c):(Ai c).length≤110:=by
 unfold Ai;simp only [bH,aC,lQ,uZ jr 5 yg];have:=h.ml;have:=h.rl;omega
theorem oN.len {z:Zn} (h:oN z):z.ax.length≤2:=by
 rcases h with e|⟨r0,r1,e,_⟩<;>rw [e]<;>simp
theorem oN.mem {z:Zn} (h:oN z):∀y∈z.ax,rM z.cal.aj.length y:=by
 intro y hy;rcases h with e|⟨r0,r1,e,h0,h1⟩
 ·rw [e] at hy;cases hy
 ·rw [e] at hy;rcases List.mem_cons.1 hy with rfl|hy
  ·exact h0
  ·rw [List.mem_singleton.1 hy];exact h1
theorem yR.trs {z:Zn} (h:yR z):∀x∈z.trans,(-1080≤x.off∧x.off≤1080)∧ -2251799813685248≤x.at_∧x.at_≤2251799813685248:=by
 intro x hx;obtain ⟨i,hi⟩:=List.getElem?_of_mem hx;have hl:=(iT.1 hi).1;obtain ⟨h1,h2,_⟩:=h.tr i hl;have e1:jE z.trans i=x.off:=by unfold jE;rw [hi];rfl
 have e2:gG z.trans i=x.at_:=by unfold gG;rw [hi];rfl
 rw [e1] at h1;rw [e2] at h2;exact ⟨h1,h2⟩
theorem U6 {e:Ze} (h:yR e.z) (hs:e.name.size≤32):(Qo e).length≤5400:=by
 have h1:=D6 h.cal;have h2:=h.Oq;have h3:=h.yr.len;have h4:e.name.data.toList.length=e.name.size:=by rw [Array.length_toList];rfl
 unfold Qo znB;simp only [bH,aC,uZ iI 10 tH,uZ jv 7 yK,h4];omega
theorem Jv (w:World) (g cb co:Nat) (c:Cal) (A:Option Addr) (a:Nat) (B:Option Addr) (b:Nat) (v:Value) (bs:List UInt8) (hc:eH c) (hr:w.rangeAt cb co (aH c A a B b).toList) (hfz:w.frozen? ⟨cb,co+2,none⟩=false) (hcb:cb<g) (hA:jU w g A c.aj) (hB:az w g B (c.rules.flatMap Lr.cells))
  (hl:bs.length≤10000000) (hst:gQ w g v bs):
  Calls Tryz.prog 68 #[.iface 73 (pt g), .pointer (some ⟨cb,co,none⟩)] w (iQ w g v (bs++Ai c)):=by
 have hgl:=hst.lt;have c0:w.cell? ⟨cb,co,none⟩=some (I c.aJ):=hr 0 _ rfl;have c1:w.cell? ⟨cb,co+1,none⟩=some (.slice A c.aj.length a):=hr 1 _ rfl;have c2:w.cell? ⟨cb,co+2,none⟩=some (I c.aY):=hr 2 _ rfl;have c3:w.cell? ⟨cb,co+3,none⟩=some (.slice B c.rules.length b):=hr 3 _ rfl;obtain ⟨lp,hlp⟩:∃l,c.aY=l:=⟨_,rfl⟩;obtain ⟨n1,hn1⟩:∃n,c.rules.length=n:=⟨_,rfl⟩;rw [hlp] at c2;rw [hn1] at c3;have hlb:=hc.lp;rw [hlp] at hlb;have hlb2:lp≤15:=by have:=hc.ml;omega
 have hrb:=hc.rl;rw [hn1] at hrb;have JG:=ae hlp;have YW:=ae hn1;have OJ:=ae hB;have HRF:Hid (∀z∈c.rules,yh z):=ae (fun z hz=>by have:=IM _ _ hc.per z hz;unfold yh kX;omega);clear hB hlp hn1;obtain ⟨n,hn⟩:∃n,c.aj.length=n:=⟨_,rfl⟩;rw [hn] at c1;have hn2:n≤16:=by have:=hc.ml;omega
 have hN1:(bs++le c.aJ 4).length≤10000004:=by rw [bH,aC];omega
 have HE:=ae hc.ep;have HN:=ae hn;have HM:Hid (∀z∈c.aj,fits z):=ae fun z hz=>by have:=hc.mo z hz;unfold fits;omega
 have mZ:=ae (dC w.drew g ⟨cb,co,none⟩ v bs c.aJ 4 (by have:=hc.ep;omega) (by have:=hc.ep;omega) (by omega) (by omega) hst.lt hst.drew c0);have HST:=ae hst;have HA:=ae hA;clear hc hr hst hA hn;go_enter Tryz.func68,Tryz.ntmps68;go_wp2_with fail;go_still_tail 7,(by kernel_rfl);go_wp2_with fail;refine mZ.out.mono ?_;rintro e w1 ⟨rfl,v1,hs1,hk1⟩;have hb1:=di HST.out (aT hk1);have HB1:=ae hb1;have mr:=ae hs1;have jX:=ae (aT hk1);have d1:w1.cell? ⟨cb,co+1,none⟩=some (.slice A n a):=(hb1.cell (p:=⟨cb,co+1,none⟩) hcb).trans c1;have hcb1:cb<w1.heap.size:=by have:=hs1.lt;omega
 have HL:=ae (Gg w1 g cb (co+1) A n a c.aj v1 _ HN.out (by omega) d1 hcb (HA.out.keep hb1) HM.out (by omega) hs1);have hN2:(bs++le c.aJ 4++(le (n:Int) 1++fZ c.aj)).length≤10000040:=by
  simp only [bH,aC,lQ,HN.out];omega
 clear hs1 hk1 hb1 mZ c0 d1;go_wp2_with fail;refine HL.out.mono ?_;rintro e w2 ⟨rfl,v2,hs2,hk2⟩;have hb2:=HB1.out.trans (di mr.out hk2);have HB2:=ae hb2;have HS2:=ae hs2;have jI:=ae (jX.out.trans hk2);have d2:w2.cell? ⟨cb,co+2,none⟩=some (I lp):=(hb2.cell (p:=⟨cb,co+2,none⟩) hcb).trans c2;obtain ⟨h1,h2⟩:=hs2.grow (ag w2 (.cells #[I (lp+1)] 3));have HG1:=ae h1;have HG2:=ae h2;have zn:=ae hs2.new_ne;have HBL:=ae (heap_alloc_last w2 (.cells #[I (lp+1)] 3));have HC2:=ae (dC (w2.alloc (.cells #[I (lp+1)] 3)) g ⟨w2.heap.size,0,none⟩ v2 _ (lp+1) 1 (by omega) (by omega) (by omega) (by omega) h1.lt h1 ((Row.new w2 #[I (lp+1)] 3).2 0));clear hs2 hk2 hb2 HL h1 h2;go_wp2_with fail;refine HC2.out.mono ?_;rintro e w3 ⟨rfl,v3,hs3,hk3⟩;have hb3:=di HG1.out hk3;have d3:w3.cell? ⟨w2.heap.size,0,none⟩=some (I (lp+1)):=cell_of_row w3 _ 0 _ _ _ ((HG1.out.far hk3 w2.heap.size (by simp) zn.out.1 zn.out.2).trans HBL.out);have Pm:Below g w w3:=(HB2.out.trans ((ag w2 (.cells #[I (lp+1)] 3)).mono (by have:=HS2.out.lt;omega))).trans hb3;have HB3:=ae Pm;have e3:w3.cell? ⟨cb,co+2,none⟩=some (I lp):=(Pm.cell (p:=⟨cb,co+2,none⟩) hcb).trans c2;have f3:w3.frozen? ⟨cb,co+2,none⟩=false:=(Pm.frozen (p:=⟨cb,co+2,none⟩) hcb).trans hfz;have e4:w3.cell? ⟨cb,co+3,none⟩=some (.slice B n1 b):=(Pm.cell (p:=⟨cb,co+3,none⟩) hcb).trans c3;have hsame:=wM e3;have qx:=ae hs3;have nG:=ae ((jI.out.trans HG2.out).trans hk3);have hN3:(bs++le c.aJ 4++(le (n:Int) 1++fZ c.aj)++le (lp+1) 1).length≤10000041:=by rw [bH];simp only [aC];omega
 have HLL:=ae (Dx w3 g cb (co+3) B n1 b c.rules v3 _ YW.out (by omega) e4 hcb (OJ.out.keep Pm) HRF.out (by omega) hs3);clear hs3 hk3 hb3 Pm HC2 d2 HBL;go_wp2_with fail;refine HLL.out.mono ?_;rintro e w4 ⟨rfl,v4,hs4,hk4⟩;have CP:=ae hs4;have Vl:=ae (nG.out.trans hk4);clear hs4 hk4 HLL hsame d3 e3 f3 e4;go_wp2_with fail
 go_end0
 exact ⟨rfl,v4,by unfold Ai;rw [HN.out,YW.out,JG.out];have h:=CP.out;simpa only [List.append_assoc] using h,Vl.out⟩
theorem UN (w:World) (g eb eo:Nat) (x:dB) (v:Value) (bs:List UInt8) (h:yR x.e.z) (hs:x.e.name.size≤32) (hr:w.rangeAt eb eo x.cells.toList) (hfz:w.frozen? ⟨eb,eo+1+2,none⟩=false) (heb:eb<g) (hA:jy w g x.s x.e.z)
  (hl:bs.length≤9000000) (hst:gQ w g v bs):
  Calls Tryz.prog 48 #[.iface 73 (pt g), .pointer (some ⟨eb,eo,none⟩)] w (iQ w g v (bs++Qo x.e)):=by
 have hgl:=hst.lt;have c0:w.cell? ⟨eb,eo,none⟩=some (.string x.e.name):=hr 0 _ rfl;have xg:Hid (w.rangeAt eb (eo+1) (aH x.e.z.cal x.s.A x.s.a x.s.B x.s.b).toList):=ae fun j u hu=>by
  have hj:j<4:=(iT.1 hu).1;rw [show eo+1+j=eo+(j+1) by omega];refine hr (j+1) u ?_
  match j,hj with
  |0,_=>exact hu
  |1,_=>exact hu
  |2,_=>exact hu
  |3,_=>exact hu
 have c5:w.cell? ⟨eb,eo+1+4,none⟩=some (I x.e.z.start):=hr 5 _ rfl;have c6:w.cell? ⟨eb,eo+1+5,none⟩=some (.slice x.s.C x.e.z.trans.length x.s.c):=hr 6 _ rfl;have c7:w.cell? ⟨eb,eo+1+6,none⟩=some (I x.e.z.hor):=hr 7 _ rfl;have c8:w.cell? ⟨eb,eo+1+7,none⟩=some (.slice x.s.D x.e.z.ax.length x.s.d):=hr 8 _ rfl;have hnl:x.e.name.data.toList.length=x.e.name.size:=by rw [Array.length_toList];rfl
 have hcl:=D6 h.cal;have htl:=h.Oq;have hyl:=h.yr.len;have zt:=ae htl;have oI:=ae hyl;have QX:Hid (∀z∈x.e.z.trans,yB z):=ae (fun z hz=>by have:=h.trs z hz;unfold yB kX;omega);have HYF:Hid (∀z∈x.e.z.ax,oW z):=ae (fun z hz=>by
  have hz2:=h.yr.mem z hz;have hml:=h.cal.ml;have a:=hz2.mo;have b:=hz2.wk;have c:=hz2.wd;have d:=hz2.mi;have e:=hz2.of;unfold oW kX;omega)
 clear htl hyl;have mZ:=ae (Qa w.drew g ⟨eb,eo,none⟩ v bs x.e.name (by omega) (by omega) hst.drew c0 (by show eb≠g;omega) (dZ hst.2 eb (by omega)) (by show eb<w.heap.size;omega));have HST:=ae hst;have HF:=ae h;have HA:=ae hA;have VQ:Hid (∀j u,Below g w u→u.cell? ⟨eb,j,none⟩=w.cell? ⟨eb,j,none⟩):=ae fun j u hb=>hb.cell (p:=⟨eb,j,none⟩) heb;have HL:Hid (x.e.name.data.toList.length=x.e.name.size∧(Ai x.e.z.cal).length≤110∧x.e.name.size≤32∧bs.length≤9000000):=ae ⟨hnl,hcl,hs,hl⟩;clear h hr hst hA hnl hcl hs hl;go_enter Tryz.func48,Tryz.ntmps48;go_wp2_with fail;go_still_tail 7,(by kernel_rfl);go_wp2_with fail;refine mZ.out.mono ?_;rintro e w1 ⟨rfl,v1,hs1,hk1⟩;obtain ⟨B1,hB1⟩:∃B,bs++(le x.e.name.size 1++x.e.name.data.toList)=B:=⟨_,rfl⟩;have hl1:B1.length≤9000040:=by rw [←hB1];have:=HL.out;simp only [bH,aC];omega
 rw [hB1] at hs1;have hb1:=di HST.out (aT hk1);have HB1:=ae hb1;have mr:=ae hs1;have jX:=ae (aT hk1);have iM:=ae hB1;have HC2:=ae (Jv w1 g eb (eo+1) x.e.z.cal x.s.A x.s.a x.s.B x.s.b v1 B1 HF.out.cal (fun j u hu=>(hb1.cell (p:=⟨eb,eo+1+j,none⟩) heb).trans (xg.out j u hu)) ((hb1.frozen (p:=⟨eb,eo+1+2,none⟩) heb).trans hfz) heb (HA.out.aj.ints.keep hb1) (HA.out.rules.keep hb1) (by omega) hs1);clear hs1 hk1 hb1 mZ hB1 c0;go_wp2_with fail;refine HC2.out.mono ?_;rintro e w2 ⟨rfl,v2,hs2,hk2⟩;obtain ⟨B2,hB2⟩:∃B,B1++Ai x.e.z.cal=B:=⟨_,rfl⟩;have hl2:B2.length≤9000160:=by rw [←hB2];have:=HL.out;simp only [bH];omega
 rw [hB2] at hs2;have hb2:=HB1.out.trans (di mr.out hk2);have HB2:=ae hb2;have HS2:=ae hs2;have jI:=ae (jX.out.trans hk2);have iH:=ae hB2;have hst0:=HF.out.st;have yO:=ae (tC w2.drew g ⟨eb,eo+1+4,none⟩ v2 B2 x.e.z.start (by omega) (by omega) (by omega) hs2.drew ((VQ.out _ _ hb2).trans c5));clear hs2 hk2 hb2 HC2 hB2 c5 hst0;go_wp2_with fail;go_still_tail 7,(by kernel_rfl);go_wp2_with fail;refine yO.out.mono ?_;rintro e w3 ⟨rfl,v3,hs3,hk3⟩;obtain ⟨B3,hB3⟩:∃B,B2++le x.e.z.start 2=B:=⟨_,rfl⟩;have hl3:B3.length≤9000170:=by rw [←hB3];simp only [bH,aC];omega
 rw [hB3] at hs3;have hb3:=HB2.out.trans (di HS2.out (aT hk3));have HB3:=ae hb3;have qx:=ae hs3;have nG:=ae (jI.out.trans (aT hk3));have vT:=ae hB3;have zl:=ae (BO w3 g eb (eo+1+5) x.s.C x.e.z.trans.length x.s.c x.e.z.trans v3 B3 rfl (by have:=zt.out;omega) ((VQ.out _ _ hb3).trans c6) heb (HA.out.trans.keep hb3) QX.out (by omega) hs3);clear hs3 hk3 hb3 yO hB3 c6;go_wp2_with fail;refine zl.out.mono ?_;rintro e w4 ⟨rfl,v4,hs4,hk4⟩;obtain ⟨B4,hB4⟩:∃B,B3++(le x.e.z.trans.length 2++x.e.z.trans.flatMap iI)=B:=⟨_,rfl⟩;have hl4:B4.length≤9006000:=by rw [←hB4];simp only [bH,aC,uZ iI 10 tH];have:=zt.out;omega
 rw [hB4] at hs4;have hb4:=HB3.out.trans (di qx.out hk4);have HB4:=ae hb4;have CP:=ae hs4;have Vl:=ae (nG.out.trans hk4);have DK:=ae hB4;have hh0:=HF.out.ho;have QN:=ae (dC w4.drew g ⟨eb,eo+1+6,none⟩ v4 B4 x.e.z.hor 8 (by omega) (by omega) (by omega) (by omega) hs4.lt hs4.drew ((VQ.out _ _ hb4).trans c7));clear hs4 hk4 hb4 zl hB4 c7 hh0;go_wp2_with fail;go_still_tail 7,(by kernel_rfl);go_wp2_with fail;refine QN.out.mono ?_;rintro e w5 ⟨rfl,v5,hs5,hk5⟩;obtain ⟨B5,hB5⟩:∃B,B4++le x.e.z.hor 8=B:=⟨_,rfl⟩;have hl5:B5.length≤9006100:=by rw [←hB5];simp only [bH,aC];omega
 rw [hB5] at hs5;have hb5:=HB4.out.trans (di CP.out (aT hk5));have Gv:=ae hs5;have Ce:=ae (Vl.out.trans (aT hk5));have HQ5:=ae hB5;have vS:=ae (Dz w5 g eb (eo+1+7) x.s.D x.e.z.ax.length x.s.d x.e.z.ax v5 B5 rfl (by have:=oI.out;omega) ((VQ.out _ _ hb5).trans c8) heb (HA.out.ax.keep hb5) HYF.out (by omega) hs5);clear hs5 hk5 hb5 QN hB5 c8;go_wp2_with fail;refine vS.out.mono ?_;rintro e w6 ⟨rfl,v6,hs6,hk6⟩;have HS6:=ae hs6;have YR:=ae (Ce.out.trans hk6);clear hs6 hk6 vS;go_wp2_with fail
 go_end0
 refine ⟨rfl,v6,?_,YR.out⟩;have h:=HS6.out;rw [←HQ5.out,←DK.out,←vT.out,←iH.out,←iM.out] at h;unfold Qo znB;simpa only [List.append_assoc] using h
end Go.Proofs.YtbaehbbonkljpaaGreat
