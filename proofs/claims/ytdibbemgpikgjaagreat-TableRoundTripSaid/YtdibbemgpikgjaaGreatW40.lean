/- The texts Jm, Jn, Jo, in this order. -/
import Derived.Test.YtdibbemgpikgjaaGreatW00
import Derived.Test.YtdibbemgpikgjaaGreatW30
import Derived.Test.YtdibbemgpikgjaaGreatW31
import Derived.Test.YtdibbemgpikgjaaGreatW39
set_option maxRecDepth 10000
set_option maxHeartbeats 8000000
namespace Go.Proofs.YtdibbemgpikgjaaGreat
open Go Go.RowKit
def QT (z:Zn):Int:=if 512<z.trans.length then 2 else if Ea z=true then 0 else 1
theorem ER (z:Zn) (s:Zs) (w:World) (h:jR w w.heap.size s z):Calls Tryz.prog 39 #[.agg (ax z s)] w (Gives (I (QT z)) w):=by
 have HO:Hid (∀w',Below w.heap.size w w'→Calls Tryz.prog 30 #[.agg (ax z s)] w' fun e w2=>(∃v,e= .returned (.tuple #[v, .bool (Ea z)]))∧Below w'.heap.size w' w2):=ae fun w' hb=>zopenG z s w' (h.grow hb);have HR0:=ae (Row.new w (ax z s) 51);have HB0:=ae (ag w (.cells (ax z s) 51));obtain ⟨m,hmm⟩:∃m,z.trans.length=m:=⟨_,rfl⟩;have e0:ax z s= #[I z.cal.aI, .slice s.A z.cal.aj.length s.a,I z.cal.aY, .slice s.B z.cal.rules.length s.b,I z.start, .slice s.C m s.c,I z.hor, .slice s.D z.az.length s.d]:=by unfold ax;rw [hmm]
 rw [e0] at HO HR0 HB0 ⊢;obtain ⟨ok,hok⟩:∃b,Ea z=b:=⟨_,rfl⟩;rw [hok] at HO;have HF:Hid (QT z=if 512<m then 2 else if ok=true then 0 else 1):=ae (by unfold QT;rw [hmm,hok]);rw [HF.out];clear h e0 hmm hok HF;by_cases hT:512<m
 ·rw [if_pos hT];have hT1:(512:Int)<(m:Int):=by omega
  go_enter Tryz.func39,Tryz.ntmps39;go_wp2_with fail;go_ret;exact ⟨rfl,HB0.out⟩
 ·rw [if_neg hT];have hT1:¬(512:Int)<(m:Int):=by omega
  cases ok with
  |true=>
   rw [if_pos rfl];go_enter Tryz.func39,Tryz.ntmps39;go_wp2_with fail;refine (HO.out _ HB0.out).mono ?_;rintro e w1 ⟨⟨b,rfl⟩,hb1⟩;have HB1:=ae (ah HB0.out hb1);clear hb1;go_wp2_with fail;go_ret;exact ⟨rfl,HB1.out⟩
  |false=>
   rw [if_neg (by decide)];go_enter Tryz.func39,Tryz.ntmps39;go_wp2_with fail;refine (HO.out _ HB0.out).mono ?_;rintro e w1 ⟨⟨b,rfl⟩,hb1⟩;have HB1:=ae (ah HB0.out hb1);clear hb1;go_wp2_with fail;go_ret;exact ⟨rfl,HB1.out⟩
attribute [local go_sem] jm jo jq bK
def zG (x last:ByteArray):Bool:=Op.bytesLess x.toList last.toList||(x.toList==last.toList)
def lJ:ByteArray→List Ze→Int
 |_,[]=>0
 |last,e::es=>if 32<e.name.size∨zG e.name last=true then 1 else if QT e.z=0 then lJ e.name es else QT e.z
theorem wo (last:ByteArray) (e:Ze) (es:List Ze):lJ last (e::es)=if 32<e.name.size∨zG e.name last=true then 1 else if QT e.z=0 then lJ e.name es else QT e.z:=rfl
def tv1 (t:Tb):Bool:=decide (t.bC<0∨16≤t.bC∨t.version<1∨64<t.version)
def tv2 (t:Tb):Bool:=decide (t.aH<0∨t.version≤t.aH∨(t.version=1∧(t.prev==aS)=false))
def Bg (t:Tb):Int:=if tv1 t=true then 1 else if tv2 t=true then 1 else if 128<t.aK.length then 2 else lJ ⟨#[]⟩ t.aK
theorem CZ (xs:List UInt8) (h:xs.length=32):∀W,(binOp .neq 24 (.agg (au xs).toArray) (.agg (au aS).toArray)).run Tryz.prog W= .ok (.bool (!(xs==aS))) W:=fun W=>by
 unfold au;rw [run_neq_struct,run_equalIn_bytes W 9998 24 5 32 Tryz.underlying24 Tryz.underlying5 (fun w=>Hf w) xs aS h rfl];simp [Result.andThen]
theorem uB (t:Tb) (A:Option Addr) (n c:Nat) (zs:List dA) (w:World) (hpl:t.prev.length=32) (hz:t.aK=zs.map (·.e)) (hn:zs.length=n) (hA:oD w w.heap.size A zs):
  Calls Tryz.prog 19 #[.agg (ai t (.slice A n c))] w (Gives (I (Bg t)) w):=by
 have HR0:=ae (Row.new w (ai t (.slice A n c)) 32);have HB0:=ae (ag w (.cells (ai t (.slice A n c)) 32));have HZ:=ae hz;have vg:Hid (TG w (ai t (.slice A n c)) A zs (w.alloc (.cells (ai t (.slice A n c)) 32))):=ae ⟨HR0.out,hA.keep HB0.out,HB0.out⟩;have Ir:=ae hn;have HNZ:Hid (t.aK.length=n):=ae (by rw [hz,List.length_map,hn]);have h32:(Tryz.prog.info? 24).map (·.size)=some (au t.prev).length:=by rw [show (au t.prev).length=32 by simp [au,hpl]];kernel_rfl
 have HP:=ae (qh t (.slice A n c) vg.out.row);have Rl:=ae h32;have hneq:=CZ t.prev hpl;rw [oK] at hneq;obtain ⟨pz,hpz⟩:∃b,(t.prev==aS)=b:=⟨_,rfl⟩;rw [hpz] at hneq;have V6:=ae hneq;have HPZ:=ae hpz;obtain ⟨b1,hb1⟩:∃b,tv1 t=b:=⟨_,rfl⟩;obtain ⟨b2,hb2⟩:∃b,tv2 t=b:=⟨_,rfl⟩;have HB1:=ae hb1;have HB2:=ae hb2;obtain ⟨ti,hti⟩:∃x,t.bC=x:=⟨_,rfl⟩;obtain ⟨tv,D9⟩:∃x,t.version=x:=⟨_,rfl⟩;obtain ⟨tw,htw⟩:∃x,t.aH=x:=⟨_,rfl⟩;have HT1:Hid (tv1 t=decide (ti<0∨16≤ti∨tv<1∨64<tv)):=ae (by unfold tv1;rw [hti,D9]);have HT2:Hid (tv2 t=decide (tw<0∨tv≤tw∨(tv=1∧pz=false))):=ae (by unfold tv2;rw [htw,D9,hpz]);have HK:Hid (∀W,Row W w.heap.size (ai t (.slice A n c))→W.cell? ⟨w.heap.size,0,none⟩=some (I ti)∧W.cell? ⟨w.heap.size,1,none⟩=some (I tv)∧W.cell? ⟨w.heap.size,2,none⟩=some (I tw)∧W.cell? ⟨w.heap.size,3,none⟩=some (.slice A n c)):=ae (fun W hW=>⟨(hW.2 0).trans (by rw [jm,hti]),(hW.2 1).trans (by rw [jo,D9]),(hW.2 2).trans (by rw [jq,htw]),(hW.2 3).trans (bK _ _)⟩);clear hz hA hn HR0 HB0 h32 hneq hpz hb1 hb2 hti D9 htw hpl;have oP:Hid (Bg t=if b1=true then 1 else if b2=true then 1 else if 128<n then 2 else lJ ⟨#[]⟩ t.aK):=ae (by unfold Bg;rw [HB1.out,HB2.out,HNZ.out]);obtain ⟨rv,Qg⟩:∃v,Bg t=v:=⟨_,rfl⟩;rw [Qg];rw [Qg] at oP;clear Qg;go_enter Tryz.func19,Tryz.ntmps19;go_upto_region 1 with fail;generalize w.alloc (.cells (ai t (.slice A n c)) 32)=W0 at vg HP ⊢;try simp only [Act.put]
 (try simp only [List.setIfInBounds_toArray,List.set_cons_zero,List.set_cons_succ])
 go_cut [7] from 8 to 25 (fun p wx=>p= .bool b1∧wx=W0)
 case first=>
  obtain ⟨k0,k1,k2,k3⟩:=HK.out W0 vg.out.row;clear k2 k3;by_cases m0:ti<0
  ·have HT:Hid (b1=true):=ae (by
    rw [←HB1.out,HT1.out];exact decide_eq_true (by omega))
   go_wp2_with fail;go_meet;exact ⟨by rw [HT.out],rfl⟩
  ·by_cases m1:(16:Int)≤ti
   ·have HT:Hid (b1=true):=ae (by
     rw [←HB1.out,HT1.out];exact decide_eq_true (by omega))
    go_wp2_with fail;go_meet;exact ⟨by rw [HT.out],rfl⟩
   ·by_cases m2:tv<1
    ·have HT:Hid (b1=true):=ae (by
      rw [←HB1.out,HT1.out];exact decide_eq_true (by omega))
     go_wp2_with fail;go_meet;exact ⟨by rw [HT.out],rfl⟩
    ·by_cases m3:(64:Int)<tv
     ·have HT:Hid (b1=true):=ae (by
       rw [←HB1.out,HT1.out];exact decide_eq_true (by omega))
      go_wp2_with fail;go_meet;exact ⟨by rw [HT.out],rfl⟩
     ·have HT:Hid (b1=false):=ae (by
       rw [←HB1.out,HT1.out];exact decide_eq_false (by omega))
      go_wp2_with fail;go_meet;exact ⟨by rw [HT.out],rfl⟩
 case rest=>
  obtain ⟨rfl,rfl⟩:=hcut;cases b1 with
  |true=>
   go_wp2_with fail;go_ret;have e9:=oP.out;simp only [if_true] at e9;subst e9;exact ⟨rfl,vg.out.up⟩
  |false=>
   go_upto_region 3 with fail
   go_cut [26] from 27 to 47 (fun p wx=>p= .bool b2∧wx=wc)
   case first=>
    obtain ⟨k0,k1,k2,k3⟩:=HK.out wc vg.out.row;clear k0 k3;by_cases m0:tw<0
    ·have HT:Hid (b2=true):=ae (by
      rw [←HB2.out,HT2.out];exact decide_eq_true (by omega))
     go_wp2_with fail;go_meet;exact ⟨by rw [HT.out],rfl⟩
    ·by_cases m1:tv≤tw
     ·have HT:Hid (b2=true):=ae (by
       rw [←HB2.out,HT2.out];exact decide_eq_true (by omega))
      go_wp2_with fail;go_meet;exact ⟨by rw [HT.out],rfl⟩
     ·by_cases m2:tv=1
      ·have hneq:=V6.out;have m3:(tv==1)=true:=by simp [m2]
       have m4:¬(1:Int)≤tw:=by omega
       cases pz with
       |true=>
        have HT:Hid (b2=false):=ae (by
         rw [←HB2.out,HT2.out];exact decide_eq_false (fun h=>by rcases h with h|h|⟨_,h⟩<;>first|omega|cases h))
        go_wp2_with ((with_reducible refine dM 24 ?_);refine bU rfl _ _ rfl w.heap.size 4 rfl (au t.prev) HP.out _ Tryz.underlying24 rfl Rl.out ?_);go_meet;exact ⟨by rw [HT.out],rfl⟩
       |false=>
        have HT:Hid (b2=true):=ae (by
         rw [←HB2.out,HT2.out];exact decide_eq_true (.inr (.inr ⟨m2,rfl⟩)))
        go_wp2_with ((with_reducible refine dM 24 ?_);refine bU rfl _ _ rfl w.heap.size 4 rfl (au t.prev) HP.out _ Tryz.underlying24 rfl Rl.out ?_);go_meet;exact ⟨by rw [HT.out],rfl⟩
      ·have m3:(tv==1)=false:=by simp [m2]
       have HT:Hid (b2=false):=ae (by
        rw [←HB2.out,HT2.out];exact decide_eq_false (by omega))
       go_wp2_with fail;go_meet;exact ⟨by rw [HT.out],rfl⟩
   case rest=>
    obtain ⟨rfl,rfl⟩:=hcut;cases b2 with
    |true=>
     go_wp2_with fail;go_ret;have e9:=oP.out;simp only [if_false,if_true,Bool.false_eq_true] at e9;subst e9;exact ⟨rfl,vg.out.up⟩
    |false=>
     replace oP:=oP.out;simp only [if_false,Bool.false_eq_true] at oP;replace oP:=ae oP;obtain ⟨k0,k1,k2,k3⟩:=HK.out wc vg.out.row;clear k0 k1 k2;by_cases q7:128<n
     ·have q8:(128:Int)<(n:Int):=by omega
      go_wp2_with fail;go_ret;have e9:=oP.out;rw [if_pos q7] at e9;subst e9;exact ⟨rfl,vg.out.up⟩
     ·have q8:¬(128:Int)<(n:Int):=by omega
      replace oP:=oP.out;rw [if_neg q7] at oP;replace oP:=ae oP;go_wp2_with fail;clear k3
      go_loopw [3,56] (fun l i wr=>∃k:Nat,k≤n∧l= .string (iF zs k)∧i=I k∧lJ ⟨#[]⟩ t.aK=lJ (iF zs k) (t.aK.drop k)∧TG w (ai t (.slice A n c)) A zs wr) (fun _ i _=>n - (intOf i).toNat)
      case atStart=>exact ⟨0,Nat.zero_le _,rfl,rfl,rfl,vg.out⟩
      case round=>
       obtain ⟨k,hk,rfl,rfl,hen,D9⟩:=hrel;have HV:=ae D9;have HEN:=ae hen;have k3:=(HK.out wr D9.row).2.2.2;have hlt1:=D9.row.1;clear D9 vg hen;by_cases hlt:k<n
       ·have hkz:k<zs.length:=by rw [Ir.out];exact hlt
        obtain ⟨x,hx⟩:∃x,zs[k]? =some x:=⟨_,dK hkz⟩;obtain ⟨b,off,rfl,hbl,hr⟩:=oD.at HV.out.mem hx;have hi:=HV.out.mem.each x (gz hx);have i0:(0:Int)≤(k:Int):=by omega
        have i1:(k:Int)<(n:Int):=by omega
        have c0:wr.cell? ⟨b,off+k*9,none⟩=some (.string x.e.name):=hr 0 _ rfl;have c1:wr.cell? ⟨b,off+k*9+1,none⟩=some (I x.e.z.cal.aI):=hr 1 _ rfl;have c2:wr.cell? ⟨b,off+k*9+2,none⟩=some (.slice x.s.A x.e.z.cal.aj.length x.s.a):=hr 2 _ rfl;have c3:wr.cell? ⟨b,off+k*9+3,none⟩=some (I x.e.z.cal.aY):=hr 3 _ rfl;have c4:wr.cell? ⟨b,off+k*9+4,none⟩=some (.slice x.s.B x.e.z.cal.rules.length x.s.b):=hr 4 _ rfl;have c5:wr.cell? ⟨b,off+k*9+5,none⟩=some (I x.e.z.start):=hr 5 _ rfl;have c6:wr.cell? ⟨b,off+k*9+6,none⟩=some (.slice x.s.C x.e.z.trans.length x.s.c):=hr 6 _ rfl;have c7:wr.cell? ⟨b,off+k*9+7,none⟩=some (I x.e.z.hor):=hr 7 _ rfl;have c8:wr.cell? ⟨b,off+k*9+8,none⟩=some (.slice x.s.D x.e.z.az.length x.s.d):=hr 8 _ rfl;have HX:=ae hx;have HI:=ae hi;obtain ⟨L,hL⟩:∃L,iF zs k=L:=⟨_,rfl⟩;have PW:Hid (∀w',Below wr.heap.size wr w'→Calls Tryz.prog 39 #[.agg #[I x.e.z.cal.aI, .slice x.s.A x.e.z.cal.aj.length x.s.a,I x.e.z.cal.aY, .slice x.s.B x.e.z.cal.rules.length x.s.b,I x.e.z.start, .slice x.s.C x.e.z.trans.length x.s.c,I x.e.z.hor, .slice x.s.D x.e.z.az.length x.s.d]] w' (Gives (I (QT x.e.z)) w')):=ae fun w' hb=>
         ER x.e.z x.s w' (((HI.out.more HV.out.up.size).keep hb).more hb.size)
        have hdr:t.aK.drop k=x.e::t.aK.drop (k+1):=by
         have h1:t.aK[k]? =some x.e:=by rw [HZ.out,List.getElem?_map,hx];rfl
         have h2:k<t.aK.length:=(iP.1 h1).1;rw [List.drop_eq_getElem_cons h2];rw [dK h2] at h1;injection h1 with h1;rw [h1]
        rw [hL] at HEN ⊢;obtain ⟨zv,hzv⟩:∃v,QT x.e.z=v:=⟨_,rfl⟩;have KJ:Hid (lJ ⟨#[]⟩ t.aK=if 32<x.e.name.size∨zG x.e.name L=true then 1 else if zv=0 then lJ x.e.name (t.aK.drop (k+1)) else zv):=ae (by rw [HEN.out,hdr,wo,hzv]);rw [hzv] at PW;have hlb:b<wr.heap.size:=by omega
        have Ro:=ae (ag wr (.cells x.cells 55));have ET:Hid (iF zs (k+1)=x.e.name):=ae (by show (zs[k]?.map (·.e.name)).getD ⟨#[]⟩=_;rw [hx];rfl);clear hx hr hi hkz hL hdr hzv HEN;by_cases q9:32<x.e.name.size
        ·have q10:(32:Int)<(x.e.name.size:Int):=by omega
         have HR:Hid (lJ ⟨#[]⟩ t.aK=1):=ae (by rw [KJ.out,if_pos (.inl q9)]);go_wp2_with fail;go_ret;have e9:=oP.out;rw [HR.out] at e9;subst e9;exact ⟨rfl,ah HV.out.up Ro.out⟩
        ·have q10:¬(32:Int)<(x.e.name.size:Int):=by omega
         obtain ⟨s1,hs1⟩:∃b,Op.bytesLess x.e.name.toList L.toList=b:=⟨_,rfl⟩;obtain ⟨s2,hs2⟩:∃b,(x.e.name.toList==L.toList)=b:=⟨_,rfl⟩;have HNB:Hid (zG x.e.name L=(s1||s2)):=ae (by unfold zG;rw [hs1,hs2]);cases s1 with
         |true=>
          have HR:Hid (lJ ⟨#[]⟩ t.aK=1):=ae (by rw [KJ.out,if_pos (.inr (by rw [HNB.out,Bool.true_or]))]);go_wp2_with fail;go_ret;have e9:=oP.out;rw [HR.out] at e9;subst e9;exact ⟨rfl,ah HV.out.up Ro.out⟩
         |false=>
         cases s2 with
         |true=>
          have HR:Hid (lJ ⟨#[]⟩ t.aK=1):=ae (by rw [KJ.out,if_pos (.inr (by rw [HNB.out];rfl))]);go_wp2_with fail;go_ret;have e9:=oP.out;rw [HR.out] at e9;subst e9;exact ⟨rfl,ah HV.out.up Ro.out⟩
         |false=>
          have HR:Hid (lJ ⟨#[]⟩ t.aK=if zv=0 then lJ x.e.name (t.aK.drop (k+1)) else zv):=ae (by rw [KJ.out,if_neg (by rw [HNB.out];rintro (h|h);exact q9 h;cases h)]);go_wp2_with fail;refine (PW.out _ Ro.out).mono ?_;rintro e w2 ⟨rfl,hb2⟩;have ni:=ae (HV.out.below (ah Ro.out hb2));have d0:w2.cell? ⟨wr.heap.size,0,none⟩=some (.string x.e.name):=((Row.new wr x.cells 55).keep hb2).2 0;clear hb2 c0 c1 c2 c3 c4 c5 c6 c7 c8 k3 PW;by_cases q11:zv=0
          ·have HR2:Hid (lJ ⟨#[]⟩ t.aK=lJ x.e.name (t.aK.drop (k+1))):=ae (by rw [HR.out,if_pos q11]);subst q11;go_wp2_with fail;go_roundw
           case rel=>exact ⟨k+1,by omega,by rw [ET.out],by go_num,by rw [ET.out];exact HR2.out,ni.out⟩
           case measure=>simp [intOf];omega
          ·have HR2:Hid (lJ ⟨#[]⟩ t.aK=zv):=ae (by rw [HR.out,if_neg q11]);have q12:(zv !=0)=true:=by simp [q11]
           go_wp2_with fail;go_ret;have e9:=oP.out;rw [HR2.out] at e9;subst e9;exact ⟨rfl,ni.out.up⟩
       ·have hkn:k=n:=by omega
        have HR:Hid (lJ ⟨#[]⟩ t.aK=0):=ae (by rw [HEN.out,List.drop_of_length_le (by rw [HNZ.out];omega)];rfl);have i1:¬(k:Int)<(n:Int):=by omega
        clear hkn;go_wp2_with fail;go_ret;have e9:=oP.out;rw [HR.out] at e9;subst e9;exact ⟨rfl,HV.out.up⟩
end Go.Proofs.YtdibbemgpikgjaaGreat
namespace Go.Proofs.YtdibbemgpikgjaaGreat
open Go Go.RowKit
attribute [local go_sem] jX kC jY kD nK nM jV ku jW kz
theorem JK:∀(rs:List Lr) (y:Nat),(ng rs y).isSome=true→∀r∈rs,(1≤r.every∧r.every≤400)∧0≤r.rest∧r.rest<r.every
 | [],_,_,_,h=>nomatch h
 |r::rs,y,hs,x,hx=>by
  unfold ng at hs;split at hs
  ·cases hs
  ·rename_i hb;split at hs
   ·cases hs
   ·rcases List.mem_cons.1 hx with rfl|hx
    ·omega
    ·exact JK rs _ hs x hx
theorem Fj {c:Cal} (h:kZ c):(Cb c).length≤110:=by
 unfold Cb;simp only [bF,aA,gB,qC jP 5 uq];have:=h.ml;have:=h.rl;omega
theorem Ae.len {z:Zn} (h:Ae z):z.az.length≤2:=by
 rcases h with e|⟨r0,r1,e,_⟩<;>rw [e]<;>simp
theorem Ae.mem {z:Zn} (h:Ae z):∀y∈z.az,En z.cal.aj.length y:=by
 intro y hy;rcases h with e|⟨r0,r1,e,h0,h1⟩
 ·rw [e] at hy;cases hy
 ·rw [e] at hy;rcases List.mem_cons.1 hy with rfl|hy
  ·exact h0
  ·rw [List.mem_singleton.1 hy];exact h1
theorem Ja.trs {z:Zn} (h:Ja z):∀x∈z.trans,(-1080≤x.off∧x.off≤1080)∧ -2251799813685248≤x.at_∧x.at_≤2251799813685248:=by
 intro x hx;obtain ⟨i,hi⟩:=List.getElem?_of_mem hx;have hl:=(iP.1 hi).1;obtain ⟨h1,h2,_⟩:=h.tr i hl;have e1:kN z.trans i=x.off:=by unfold kN;rw [hi];rfl
 have e2:fU z.trans i=x.at_:=by unfold fU;rw [hi];rfl
 rw [e1] at h1;rw [e2] at h2;exact ⟨h1,h2⟩
theorem Vr {e:Ze} (h:Ja e.z) (hs:e.name.size≤32):(Vq e).length≤5400:=by
 have h1:=Fj h.cal;have h2:=h.Nw;have h3:=h.yr.len;have h4:e.name.data.toList.length=e.name.size:=by rw [Array.length_toList];rfl
 unfold Vq znB;simp only [bF,aA,qC iQ 10 qj,qC jQ 7 uI,h4];omega
theorem Kv (w:World) (g cb co:Nat) (c:Cal) (A:Option Addr) (a:Nat) (B:Option Addr) (b:Nat) (v:Value) (bs:List UInt8) (hc:kZ c) (hr:w.rangeAt cb co (aG c A a B b).toList) (hfz:w.frozen? ⟨cb,co+2,none⟩=false) (hcb:cb<g) (hA:fO w g A c.aj) (hB:aB w g B (c.rules.flatMap Lr.cells))
  (hl:bs.length≤10000000) (hst:fG w g v bs):
  Calls Tryz.prog 61 #[.iface 71 (pt g), .pointer (some ⟨cb,co,none⟩)] w (fJ w g v (bs++Cb c)):=by
 have hgl:=hst.lt;have c0:w.cell? ⟨cb,co,none⟩=some (I c.aI):=hr 0 _ rfl;have c1:w.cell? ⟨cb,co+1,none⟩=some (.slice A c.aj.length a):=hr 1 _ rfl;have c2:w.cell? ⟨cb,co+2,none⟩=some (I c.aY):=hr 2 _ rfl;have c3:w.cell? ⟨cb,co+3,none⟩=some (.slice B c.rules.length b):=hr 3 _ rfl;obtain ⟨lp,hlp⟩:∃l,c.aY=l:=⟨_,rfl⟩;obtain ⟨n1,hn1⟩:∃n,c.rules.length=n:=⟨_,rfl⟩;rw [hlp] at c2;rw [hn1] at c3;have hlb:=hc.lp;rw [hlp] at hlb;have hlb2:lp≤15:=by have:=hc.ml;omega
 have hrb:=hc.rl;rw [hn1] at hrb;have IQ:=ae hlp;have HN1:=ae hn1;have PN:=ae hB;have HRF:Hid (∀z∈c.rules,zD z):=ae (fun z hz=>by have:=JK _ _ hc.per z hz;unfold zD lT;omega);clear hB hlp hn1;obtain ⟨n,hn⟩:∃n,c.aj.length=n:=⟨_,rfl⟩;rw [hn] at c1;have hn2:n≤16:=by have:=hc.ml;omega
 have hN1:(bs++le c.aI 4).length≤10000004:=by rw [bF,aA];omega
 have HE:=ae hc.ep;have HN:=ae hn;have HM:Hid (∀z∈c.aj,fits z):=ae fun z hz=>by have:=hc.mo z hz;unfold fits;omega
 have jO:=ae (cu w.drew g ⟨cb,co,none⟩ v bs c.aI 4 (by have:=hc.ep;omega) (by have:=hc.ep;omega) (by omega) (by omega) hst.lt hst.drew c0);have HST:=ae hst;have HA:=ae hA;clear hc hr hst hA hn;go_enter Tryz.func61,Tryz.ntmps61;go_wp2_with fail;go_still_tail 7,(by kernel_rfl);go_wp2_with fail;refine jO.out.mono ?_;rintro e w1 ⟨rfl,v1,hs1,hk1⟩;have hb1:=bI HST.out (aJ hk1);have HB1:=ae hb1;have kS:=ae hs1;have gK:=ae (aJ hk1);have d1:w1.cell? ⟨cb,co+1,none⟩=some (.slice A n a):=(hb1.cell (p:=⟨cb,co+1,none⟩) hcb).trans c1;have hcb1:cb<w1.heap.size:=by have:=hs1.lt;omega
 have HL:=ae (yc w1 g cb (co+1) A n a c.aj v1 _ HN.out (by omega) d1 hcb (HA.out.keep hb1) HM.out (by omega) hs1);have hN2:(bs++le c.aI 4++(le (n:Int) 1++dJ c.aj)).length≤10000040:=by
  simp only [bF,aA,gB,HN.out];omega
 clear hs1 hk1 hb1 jO c0 d1;go_wp2_with fail;refine HL.out.mono ?_;rintro e w2 ⟨rfl,v2,hs2,hk2⟩;have hb2:=HB1.out.trans (bI kS.out hk2);have HB2:=ae hb2;have HS2:=ae hs2;have ja:=ae (gK.out.trans hk2);have d2:w2.cell? ⟨cb,co+2,none⟩=some (I lp):=(hb2.cell (p:=⟨cb,co+2,none⟩) hcb).trans c2;obtain ⟨h1,h2⟩:=hs2.grow (ag w2 (.cells #[I (lp+1)] 3));have HG1:=ae h1;have HG2:=ae h2;have KW:=ae hs2.new_ne;have VT:=ae (heap_alloc_last w2 (.cells #[I (lp+1)] 3));have HC2:=ae (cu (w2.alloc (.cells #[I (lp+1)] 3)) g ⟨w2.heap.size,0,none⟩ v2 _ (lp+1) 1 (by omega) (by omega) (by omega) (by omega) h1.lt h1 ((Row.new w2 #[I (lp+1)] 3).2 0));clear hs2 hk2 hb2 HL h1 h2;go_wp2_with fail;refine HC2.out.mono ?_;rintro e w3 ⟨rfl,v3,hs3,hk3⟩;have hb3:=bI HG1.out hk3;have d3:w3.cell? ⟨w2.heap.size,0,none⟩=some (I (lp+1)):=cell_of_row w3 _ 0 _ _ _ ((HG1.out.far hk3 w2.heap.size (by simp) KW.out.1 KW.out.2).trans VT.out);have Am:Below g w w3:=(HB2.out.trans ((ag w2 (.cells #[I (lp+1)] 3)).mono (by have:=HS2.out.lt;omega))).trans hb3;have HB3:=ae Am;have e3:w3.cell? ⟨cb,co+2,none⟩=some (I lp):=(Am.cell (p:=⟨cb,co+2,none⟩) hcb).trans c2;have f3:w3.frozen? ⟨cb,co+2,none⟩=false:=(Am.frozen (p:=⟨cb,co+2,none⟩) hcb).trans hfz;have e4:w3.cell? ⟨cb,co+3,none⟩=some (.slice B n1 b):=(Am.cell (p:=⟨cb,co+3,none⟩) hcb).trans c3;have hsame:=jl e3;have nS:=ae hs3;have kX:=ae ((ja.out.trans HG2.out).trans hk3);have hN3:(bs++le c.aI 4++(le (n:Int) 1++dJ c.aj)++le (lp+1) 1).length≤10000041:=by rw [bF];simp only [aA];omega
 have HLL:=ae (EN w3 g cb (co+3) B n1 b c.rules v3 _ HN1.out (by omega) e4 hcb (PN.out.keep Am) HRF.out (by omega) hs3);clear hs3 hk3 hb3 Am HC2 d2 VT;go_wp2_with fail;refine HLL.out.mono ?_;rintro e w4 ⟨rfl,v4,hs4,hk4⟩;have yu:=ae hs4;have KL:=ae (kX.out.trans hk4);clear hs4 hk4 HLL hsame d3 e3 f3 e4;go_wp2_with fail
 go_end0
 exact ⟨rfl,v4,by unfold Cb;rw [HN.out,HN1.out,IQ.out];have h:=yu.out;simpa only [List.append_assoc] using h,KL.out⟩
theorem Ve (w:World) (g eb eo:Nat) (x:dA) (v:Value) (bs:List UInt8) (h:Ja x.e.z) (hs:x.e.name.size≤32) (hr:w.rangeAt eb eo x.cells.toList) (hfz:w.frozen? ⟨eb,eo+1+2,none⟩=false) (heb:eb<g) (hA:jR w g x.s x.e.z)
  (hl:bs.length≤9000000) (hst:fG w g v bs):
  Calls Tryz.prog 43 #[.iface 71 (pt g), .pointer (some ⟨eb,eo,none⟩)] w (fJ w g v (bs++Vq x.e)):=by
 have hgl:=hst.lt;have c0:w.cell? ⟨eb,eo,none⟩=some (.string x.e.name):=hr 0 _ rfl;have vT:Hid (w.rangeAt eb (eo+1) (aG x.e.z.cal x.s.A x.s.a x.s.B x.s.b).toList):=ae fun j u hu=>by
  have hj:j<4:=(iP.1 hu).1;rw [show eo+1+j=eo+(j+1) by omega];refine hr (j+1) u ?_
  match j,hj with
  |0,_=>exact hu
  |1,_=>exact hu
  |2,_=>exact hu
  |3,_=>exact hu
 have c5:w.cell? ⟨eb,eo+1+4,none⟩=some (I x.e.z.start):=hr 5 _ rfl;have c6:w.cell? ⟨eb,eo+1+5,none⟩=some (.slice x.s.C x.e.z.trans.length x.s.c):=hr 6 _ rfl;have c7:w.cell? ⟨eb,eo+1+6,none⟩=some (I x.e.z.hor):=hr 7 _ rfl;have c8:w.cell? ⟨eb,eo+1+7,none⟩=some (.slice x.s.D x.e.z.az.length x.s.d):=hr 8 _ rfl;have hnl:x.e.name.data.toList.length=x.e.name.size:=by rw [Array.length_toList];rfl
 have hcl:=Fj h.cal;have htl:=h.Nw;have hyl:=h.yr.len;have BJ:=ae htl;have lW:=ae hyl;have QY:Hid (∀z∈x.e.z.trans,zO z):=ae (fun z hz=>by have:=h.trs z hz;unfold zO lT;omega);have HYF:Hid (∀z∈x.e.z.az,qp z):=ae (fun z hz=>by
  have hz2:=h.yr.mem z hz;have hml:=h.cal.ml;have a:=hz2.mo;have b:=hz2.wk;have c:=hz2.wd;have d:=hz2.mi;have e:=hz2.of;unfold qp lT;omega)
 clear htl hyl;have jO:=ae (F7 w.drew g ⟨eb,eo,none⟩ v bs x.e.name (by omega) (by omega) hst.drew c0 (by show eb≠g;omega) (eG hst.2 eb (by omega)) (by show eb<w.heap.size;omega));have HST:=ae hst;have HF:=ae h;have HA:=ae hA;have Gi:Hid (∀j u,Below g w u→u.cell? ⟨eb,j,none⟩=w.cell? ⟨eb,j,none⟩):=ae fun j u hb=>hb.cell (p:=⟨eb,j,none⟩) heb;have HL:Hid (x.e.name.data.toList.length=x.e.name.size∧(Cb x.e.z.cal).length≤110∧x.e.name.size≤32∧bs.length≤9000000):=ae ⟨hnl,hcl,hs,hl⟩;clear h hr hst hA hnl hcl hs hl;go_enter Tryz.func43,Tryz.ntmps43;go_wp2_with fail;go_still_tail 7,(by kernel_rfl);go_wp2_with fail;refine jO.out.mono ?_;rintro e w1 ⟨rfl,v1,hs1,hk1⟩;obtain ⟨B1,hB1⟩:∃B,bs++(le x.e.name.size 1++x.e.name.data.toList)=B:=⟨_,rfl⟩;have hl1:B1.length≤9000040:=by rw [←hB1];have:=HL.out;simp only [bF,aA];omega
 rw [hB1] at hs1;have hb1:=bI HST.out (aJ hk1);have HB1:=ae hb1;have kS:=ae hs1;have gK:=ae (aJ hk1);have jS:=ae hB1;have HC2:=ae (Kv w1 g eb (eo+1) x.e.z.cal x.s.A x.s.a x.s.B x.s.b v1 B1 HF.out.cal (fun j u hu=>(hb1.cell (p:=⟨eb,eo+1+j,none⟩) heb).trans (vT.out j u hu)) ((hb1.frozen (p:=⟨eb,eo+1+2,none⟩) heb).trans hfz) heb (HA.out.aj.ints.keep hb1) (HA.out.rules.keep hb1) (by omega) hs1);clear hs1 hk1 hb1 jO hB1 c0;go_wp2_with fail;refine HC2.out.mono ?_;rintro e w2 ⟨rfl,v2,hs2,hk2⟩;obtain ⟨B2,hB2⟩:∃B,B1++Cb x.e.z.cal=B:=⟨_,rfl⟩;have hl2:B2.length≤9000160:=by rw [←hB2];have:=HL.out;simp only [bF];omega
 rw [hB2] at hs2;have hb2:=HB1.out.trans (bI kS.out hk2);have HB2:=ae hb2;have HS2:=ae hs2;have ja:=ae (gK.out.trans hk2);have jr:=ae hB2;have Uj:=HF.out.st;have qy:=ae (qi w2.drew g ⟨eb,eo+1+4,none⟩ v2 B2 x.e.z.start (by omega) (by omega) (by omega) hs2.drew ((Gi.out _ _ hb2).trans c5));clear hs2 hk2 hb2 HC2 hB2 c5 Uj;go_wp2_with fail;go_still_tail 7,(by kernel_rfl);go_wp2_with fail;refine qy.out.mono ?_;rintro e w3 ⟨rfl,v3,hs3,hk3⟩;obtain ⟨B3,hB3⟩:∃B,B2++le x.e.z.start 2=B:=⟨_,rfl⟩;have hl3:B3.length≤9000170:=by rw [←hB3];simp only [bF,aA];omega
 rw [hB3] at hs3;have hb3:=HB2.out.trans (bI HS2.out (aJ hk3));have HB3:=ae hb3;have nS:=ae hs3;have kX:=ae (ja.out.trans (aJ hk3));have xg:=ae hB3;have qH:=ae (DT w3 g eb (eo+1+5) x.s.C x.e.z.trans.length x.s.c x.e.z.trans v3 B3 rfl (by have:=BJ.out;omega) ((Gi.out _ _ hb3).trans c6) heb (HA.out.trans.keep hb3) QY.out (by omega) hs3);clear hs3 hk3 hb3 qy hB3 c6;go_wp2_with fail;refine qH.out.mono ?_;rintro e w4 ⟨rfl,v4,hs4,hk4⟩;obtain ⟨B4,hB4⟩:∃B,B3++(le x.e.z.trans.length 2++x.e.z.trans.flatMap iQ)=B:=⟨_,rfl⟩;have hl4:B4.length≤9006000:=by rw [←hB4];simp only [bF,aA,qC iQ 10 qj];have:=BJ.out;omega
 rw [hB4] at hs4;have hb4:=HB3.out.trans (bI nS.out hk4);have HB4:=ae hb4;have yu:=ae hs4;have KL:=ae (kX.out.trans hk4);have PK:=ae hB4;have hh0:=HF.out.ho;have yt:=ae (cu w4.drew g ⟨eb,eo+1+6,none⟩ v4 B4 x.e.z.hor 8 (by omega) (by omega) (by omega) (by omega) hs4.lt hs4.drew ((Gi.out _ _ hb4).trans c7));clear hs4 hk4 hb4 qH hB4 c7 hh0;go_wp2_with fail;go_still_tail 7,(by kernel_rfl);go_wp2_with fail;refine yt.out.mono ?_;rintro e w5 ⟨rfl,v5,hs5,hk5⟩;obtain ⟨B5,Rf⟩:∃B,B4++le x.e.z.hor 8=B:=⟨_,rfl⟩;have hl5:B5.length≤9006100:=by rw [←Rf];simp only [bF,aA];omega
 rw [Rf] at hs5;have hb5:=HB4.out.trans (bI yu.out (aJ hk5));have vV:=ae hs5;have zq:=ae (KL.out.trans (aJ hk5));have HQ5:=ae Rf;have rq:=ae (EP w5 g eb (eo+1+7) x.s.D x.e.z.az.length x.s.d x.e.z.az v5 B5 rfl (by have:=lW.out;omega) ((Gi.out _ _ hb5).trans c8) heb (HA.out.az.keep hb5) HYF.out (by omega) hs5);clear hs5 hk5 hb5 yt Rf c8;go_wp2_with fail;refine rq.out.mono ?_;rintro e w6 ⟨rfl,v6,hs6,hk6⟩;have RY:=ae hs6;have ZZ:=ae (zq.out.trans hk6);clear hs6 hk6 rq;go_wp2_with fail
 go_end0
 refine ⟨rfl,v6,?_,ZZ.out⟩;have h:=RY.out;rw [←HQ5.out,←PK.out,←xg.out,←jr.out,←jS.out] at h;unfold Vq znB;simpa only [List.append_assoc] using h
end Go.Proofs.YtdibbemgpikgjaaGreat
