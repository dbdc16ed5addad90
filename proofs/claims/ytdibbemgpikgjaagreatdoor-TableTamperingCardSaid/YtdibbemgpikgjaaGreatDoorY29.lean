/- The texts DgB2, DgK2, DgM, TrT, in this order. -/
import Derived.Test.YtdibbemgpikgjaaGreatDoorY00
import Derived.Defers
import Derived.Laws.AppendOwnNone
import Derived.Laws.BitsAllLaws
import Derived.Laws.BytesArg
import Derived.Laws.Cover3
import Derived.Lib.AppendStr
import Derived.Lib.ByteType
import Derived.MapKept
import Derived.Recover
import Derived.Test.YtdibbemgpikgjaaGreatDoorProg
import Derived.Test.YtdibbemgpikgjaaGreatDoorY01
import Derived.Test.YtdibbemgpikgjaaGreatDoorY05
import Derived.Test.YtdibbemgpikgjaaGreatDoorY06
import Derived.Test.YtdibbemgpikgjaaGreatDoorY23
import Derived.Test.YtdibbemgpikgjaaGreatDoorY25
import Derived.Test.YtdibbemgpikgjaaGreatDoorY28
set_option maxRecDepth 10000
set_option maxHeartbeats 8000000
namespace Go.Proofs.YtdibbemgpikgjaaGreatDoor
open Go Go.RowKit Go.Shelf
attribute [local go_sem] Oper.semAt_some
theorem pK.cat {B n:Nat} {W0 wr w1:World} {b1 b2 bs:List UInt8} {v v':Value} (h:pK B W0 b1 v wr) (Lm:b1++b2=bs) (hB:B≤W0.heap.size) (hn:n=bs.length) (hown:w1.ownsRow B 5 1 v' n (b1.map Extern.Stop.cell++b2.map Extern.Stop.cell)) (hg:wr.grownBy w1 v.ownBlock):pK B W0 bs v' w1:=by
 subst hn Lm;have hs:=h.lo.size;have hz:=hg.size;rw [←List.map_append] at hown;exact ⟨hown,⟨hg.os.trans h.lo.os,hg.tape.trans h.lo.tape,hg.output.trans h.lo.output,by omega,fun k hk=>by
  rw [hg.block k (by omega) (eU h.own k hk)];exact h.lo.block k hk⟩⟩
theorem DV (F:Fence) (n:Nat) (h7:F.fn 73) (hro:F.round=none) (hn:1≤n) (b1 b2 bs:List UInt8) (Lm:b1++b2=bs) (hb1:0<b1.length) (hb2:0<b2.length) (hlen:bs.length≤1000000000) (W:World) (box pb a1 f1 c1 a2 f2 c2:Nat) (hbox:W.cell? ⟨box,0,none⟩=some (.slice (some ⟨pb,0,none⟩) 2 2)) (hp:W.cell? ⟨pb,0,none⟩=some (.slice (some ⟨a1,f1,none⟩) b1.length c1)) (hp2:W.cell? ⟨pb,1,none⟩=some (.slice (some ⟨a2,f2,none⟩) b2.length c2))
  (hlb:box<W.heap.size) (hlp:pb<W.heap.size) (hla1:a1<W.heap.size) (IW:∀j,j<b1.length→W.cell? ⟨a1,f1+j,none⟩=some (Extern.Stop.cell (b1[j]?.getD 0))) (hla2:a2<W.heap.size) (Tf:∀j,j<b2.length→W.cell? ⟨a2,f2+j,none⟩=some (Extern.Stop.cell (b2[j]?.getD 0))):
  tH F n Tryz.prog 73 #[.pointer (some ⟨box,0,none⟩)] yZ DI (fun xs=>xs.map (·.bs)=upto (chunk (ng bs)) ((ng bs).length / 64)) W:=by
 intro l J hl hJ hY h0;have HJ:=ae hJ;have HY:=ae hY;have HA1:=ae IW;have HA2:=ae Tf;obtain ⟨N,hN⟩:∃N,bs.length=N:=⟨_,rfl⟩;obtain ⟨N1,hN1⟩:∃N,b1.length=N:=⟨_,rfl⟩;obtain ⟨N2,U2⟩:∃N,b2.length=N:=⟨_,rfl⟩;have hNN:N1+N2=N:=by rw [←hN,←hN1,←U2,←Lm,aZ]
 rw [hN] at hlen;rw [hN1] at hp hb1;rw [U2] at hp2 hb2;have HN:=ae hN;have Rh:=ae hN1;have QJ:=ae U2;have Dv:=ae hNN;have HCAT:=ae Lm;have HP2:=ae hp2;have q1:N1≤1000000000:=by omega
 have q2:N2≤1000000000:=by omega
 have hb0:0<N:=by omega
 clear hJ hY IW Tf hN hN1 U2 hNN Lm hp2;refine callsIn_of_wp Tryz.func73 rfl h7 ?_ hro;simp only [Tryz.ntmps73,List.size_toArray,List.length_cons,List.length_nil,Nat.reduceAdd,Nat.reduceSub,Array.replicate_succ,Array.replicate_zero,List.push_toArray,List.append_toArray,List.nil_append,List.cons_append];obtain ⟨i0,hi,hq0,hq1,hq2⟩:=info_parts kF
 gi_wp2
 gi_loopw [3,10] (fun m i wr=>(i= .int .i64 0∧m= .slice none 0 0∧wr=W)∨(∃g cap,i= .int .i64 1∧m= .slice (some ⟨g,0,none⟩) N1 cap∧pK W.heap.size W b1 m wr)∨(∃g cap,i= .int .i64 2∧m= .slice (some ⟨g,0,none⟩) N cap∧pK W.heap.size W bs m wr)) (fun _ i _=>(2 - intOf i).toNat)
 case atStart=>exact .inl ⟨rfl,rfl,rfl⟩
 case round=>
  rcases hrel with h|h|h
  ·obtain ⟨rfl,rfl,rfl⟩:=h;have hne:∀j u,(b1.map Extern.Stop.cell)[j]? =some u→wr.cell? ((⟨a1,f1,none⟩:Addr).add j)=some u:=fun j u hu=>by
    have hj:j<b1.length:=by have:=(eG.1 hu).1;simpa using this
    rw [Addr.add_mid,HA1.out j hj];rw [List.getElem?_map,bZ hj] at hu;rw [bZ hj];simpa using hu
   have NK:=ae hne;clear hne
   gi_wp2_with (gi_at_builtin;refine wpListIn_append_own _ rfl _ _ 32 rfl wr.heap.size 5 i0 (.int .u8 0) 1 1 Tryz.underlying32 hi hq0 hq1 hq2 rfl (by omega) _ _ _ rfl (World.ownsRow_nil _ _ _ _) ⟨a1,f1,none⟩ N1 c1 (b1.map Extern.Stop.cell) rfl (by rw [List.length_map,Rh.out,Nat.mul_one]) NK.out (ni b1) (by unfold maxLen;omega) (by omega) (Nat.le_refl _) ?_;intro v1 w1 hown1 hg1 _;rw [Nat.zero_add,List.nil_append] at hown1;obtain ⟨gg,cap,rfl,_⟩:=dE hown1 hb1;have Aa:=ae hown1;have Hr:=ae hg1;clear hown1 hg1)
   go_roundw
   case rel=>exact .inr (.inl ⟨gg,cap,by go_num,rfl,⟨by rw [Rh.out];exact Aa.out,⟨Hr.out.os,Hr.out.tape,Hr.out.output,Hr.out.size,fun k hk=>Hr.out.block k hk (fun e=>nomatch e)⟩⟩⟩)
   case measure=>simp [intOf]
  ·obtain ⟨g,cap,rfl,rfl,hm⟩:=h;have HM:=ae hm;have HO:Hid (wr.ownsRow W.heap.size 5 1 (.slice (some ⟨g,0,none⟩) N1 cap) N1 (b1.map Extern.Stop.cell)):=ae (by have h:=hm.own;rw [Rh.out] at h;exact h);have hge:=hm.lo.size;have p2:wr.cell? ⟨pb,1,none⟩=some (.slice (some ⟨a2,f2,none⟩) N2 c2):=(hm.lo.cell (p:=⟨pb,1,none⟩) hlp).trans HP2.out;have hne:∀j u,(b2.map Extern.Stop.cell)[j]? =some u→wr.cell? ((⟨a2,f2,none⟩:Addr).add j)=some u:=fun j u hu=>by
    have hj:j<b2.length:=by have:=(eG.1 hu).1;simpa using this
    rw [Addr.add_mid,(hm.lo.cell (p:=⟨a2,f2+j,none⟩) hla2),HA2.out j hj];rw [List.getElem?_map,bZ hj] at hu;rw [bZ hj];simpa using hu
   have NK:=ae hne;clear hne hm
   gi_wp2_with (gi_at_builtin;refine wpListIn_append_own _ rfl _ _ 32 rfl W.heap.size 5 i0 (.int .u8 0) 1 1 Tryz.underlying32 hi hq0 hq1 hq2 rfl (by omega) (.slice (some ⟨g,0,none⟩) N1 cap) N1 (b1.map Extern.Stop.cell) rfl HO.out ⟨a2,f2,none⟩ N2 c2 (b2.map Extern.Stop.cell) rfl (by rw [List.length_map,QJ.out,Nat.mul_one]) NK.out (ni b2) (by have:=Dv.out;unfold maxLen;omega) (by have:=Dv.out;omega) (by omega) ?_;intro v1 w1 hown1 hg1 _;have hm1:pK W.heap.size W bs v1 w1:=HM.out.cat HCAT.out (Nat.le_refl _) (by rw [HN.out];exact Dv.out) hown1 hg1;rw [Dv.out] at hown1;obtain ⟨gg,cap1,rfl,_⟩:=dE hown1 hb0;have wL:=ae hm1;clear hown1 hg1 hm1)
   go_roundw
   case rel=>exact .inr (.inr ⟨gg,cap1,by go_num,rfl,wL.out⟩)
   case measure=>simp [intOf]
  ·obtain ⟨g,cap,rfl,rfl,hm⟩:=h;have HM:=ae hm;have HO:Hid (wr.ownsRow W.heap.size 5 1 (.slice (some ⟨g,0,none⟩) N cap) N (bs.map Extern.Stop.cell)):=ae (by have h:=hm.own;rw [HN.out] at h;exact h);have hge:=hm.lo.size;have xW:Hid (N+1=(bs++ [(128:UInt8)]).length):=ae (by rw [aZ,HN.out];rfl);have HL2:Hid (bs.map Extern.Stop.cell++ [Extern.Stop.cell 128]=(bs++ [(128:UInt8)]).map Extern.Stop.cell):=ae (by simp);clear hm
   gi_wp2_with (gi_at_builtin;refine wpListIn_append_own _ rfl _ _ 32 rfl W.heap.size 5 i0 (.int .u8 0) 1 1 Tryz.underlying32 hi hq0 hq1 hq2 rfl (by omega) (.slice (some ⟨g,0,none⟩) N cap) N (bs.map Extern.Stop.cell) rfl (HO.out.alloc _) ⟨wr.heap.size,0,none⟩ 1 1 [Extern.Stop.cell 128] rfl rfl (qH 128 _ rfl) (oH 128) (by unfold maxLen;omega) (by omega) (by first|(simp;done)|(simp;omega)) ?_;intro v1 w1 hown1 hg1 _;have hm1:pK W.heap.size W (bs++ [(128:UInt8)]) v1 w1:=HM.out.app (Nat.le_refl _) xW.out HL2.out hown1 hg1;obtain ⟨gg,cap1,rfl,_⟩:=dE hown1 (Nat.succ_pos _);have wL:=ae hm1;clear hown1 hg1 hm1)
   gi_loopw [3] (fun m wx=>∃z g cap q,z≤nT N∧q=N+1+z∧m= .slice (some ⟨g,0,none⟩) q cap∧pK W.heap.size W (iD bs z) m wx) (fun m _=>(N+1+nT N) - (match m with| .slice _ q _=>q|_=>0))
   case atStart=>exact ⟨0,gg,cap1,N+1,Nat.zero_le _,rfl,rfl,by have h:=wL.out;simpa [iD] using h⟩
   case round=>
    obtain ⟨z,g,cap,q,hz,hq,rfl,hm⟩:=hrel;have UR:=ae hm;have HQ:=ae hq;have hqb:q≤1000000200:=by have:nT N≤63:=OY N;omega
    have hge2:=hm.lo.size;have hlq:(iD bs z).length=q:=by rw [lK,HN.out,hq]
    have pI:Hid (wr.ownsRow W.heap.size 5 1 (.slice (some ⟨g,0,none⟩) q cap) q ((iD bs z).map Extern.Stop.cell)):=ae (by have h:=hm.own;rw [hlq] at h;exact h);clear hm wL HM HO xW HL2;by_cases hlt:z<nT N
    ·have h56:((q:Int)%64 !=56)=true:=by rw [oq];exact decide_eq_true (by rw [hq];exact OZ hlt)
     have xW:Hid (q+1=(iD bs z++ [(0:UInt8)]).length):=ae (by rw [aZ,hlq];rfl);have HL2:Hid ((iD bs z).map Extern.Stop.cell++ [Extern.Stop.cell 0]=(iD bs z++ [(0:UInt8)]).map Extern.Stop.cell):=ae (by simp);clear hq hlq
     gi_wp2_with (gi_at_builtin;refine wpListIn_append_own _ rfl _ _ 32 rfl W.heap.size 5 i0 (.int .u8 0) 1 1 Tryz.underlying32 hi hq0 hq1 hq2 rfl (by omega) (.slice (some ⟨g,0,none⟩) q cap) q ((iD bs z).map Extern.Stop.cell) rfl (pI.out.alloc _) ⟨wr.heap.size,0,none⟩ 1 1 [Extern.Stop.cell 0] rfl rfl (qH 0 _ rfl) (oH 0) (by unfold maxLen;omega) (by omega) (by first|(simp;done)|(simp;omega)) ?_;intro v2 w2 hown2 hg2 _;have hm2:pK W.heap.size W (iD bs z++ [(0:UInt8)]) v2 w2:=UR.out.app (Nat.le_refl _) xW.out HL2.out hown2 hg2;obtain ⟨g2,cap2,rfl,_⟩:=dE hown2 (Nat.succ_pos _);have HM3:=ae hm2;clear hown2 hg2 hm2)
     go_roundw
     case rel=>exact ⟨z+1,g2,cap2,q+1,hlt,by have:=HQ.out;omega,rfl,by rw [Cf];exact HM3.out⟩
     case measure=>have:=HQ.out;show N+1+nT N - (q+1)<N+1+nT N - q;omega
    ·have hze:z=nT N:=by omega
     have h56:((q:Int)%64 !=56)=false:=by rw [oq];exact decide_eq_false (by rw [hq,hze];have:=AB N;omega)
     have Po:=ae hze;clear hq hze hlq hlt hz;obtain ⟨pm,hpm⟩:∃pm,iD bs (nT N)=pm:=⟨_,rfl⟩;have NR:=ae hpm;have Dw:Hid (pm.length=q):=ae (by rw [←hpm,lK,HN.out];have:=HQ.out;have:=Po.out;omega);have Du:Hid (pK W.heap.size W pm (.slice (some ⟨g,0,none⟩) q cap) wr):=ae (by have h:=UR.out;rw [Po.out,hpm] at h;exact h);clear hpm UR pI
     gi_wp2_with fail
     gi_loopw [3,7] (fun m i wx=>∃j g cap r,j≤8∧r=q+j∧i= .int .i64 (56 - 8*(j:Int))∧m= .slice (some ⟨g,0,none⟩) r cap∧pK W.heap.size W (pm++upto (fun j=>byteOf ((8*(N:Int)) / 2 ^ (56 - 8*j))) j) m wx) (fun _ i _=>(intOf i+8).toNat)
     case atStart=>exact ⟨0,g,cap,q,Nat.zero_le _,rfl,by go_num,rfl,by have h:=Du.out;simpa [upto] using h⟩
     case round=>
      obtain ⟨j,g,cap,r,hj,hr,rfl,rfl,hm⟩:=hrel;have Zd:=ae hm;have HR:=ae hr;have hge3:=hm.lo.size;have hrb:r≤1000000300:=by omega
      obtain ⟨ms,hms⟩:∃ms,pm++upto (fun j=>byteOf ((8*(N:Int)) / 2 ^ (56 - 8*j))) j=ms:=⟨_,rfl⟩;have hml:ms.length=r:=by rw [←hms,aZ,Dw.out,upto_length,hr]
      rw [hms] at Zd hm;have HMS:=ae hms;have pR:Hid (wr.ownsRow W.heap.size 5 1 (.slice (some ⟨g,0,none⟩) r cap) r (ms.map Extern.Stop.cell)):=ae (by have h:=hm.own;rw [hml] at h;exact h);clear hm hr hms Du;by_cases hlt:j<8
      ·obtain ⟨s,hs⟩:∃s:Nat,56 - 8*j=s:=⟨_,rfl⟩;have hs2:56 - 8*(j:Int)=(s:Int):=by omega
       have hs0:(0:Int)≤(s:Int):=by omega
       have hs1:(s:Int)≤56:=by omega
       obtain ⟨y,hy⟩:∃y:Int,(8*(N:Int)) / 2 ^ s=y:=⟨_,rfl⟩;have xW:Hid (r+1=(ms++ [byteOf y]).length):=ae (by rw [aZ,hml];rfl);have HL2:Hid (ms.map Extern.Stop.cell++ [Extern.Stop.cell (byteOf y)]=(ms++ [byteOf y]).map Extern.Stop.cell):=ae (by simp);have Yk:=ae hy;have rW:=ae hs;have HS2:=ae hs2;have hby8:IntKind.u8.wrap y=y%256:=by rw [IntKind.wrap_u8]
       rw [hs2];clear hml hs hs2
       gi_wp2_with (gi_at_builtin;refine wpListIn_append_own _ rfl _ _ 32 rfl W.heap.size 5 i0 (.int .u8 0) 1 1 Tryz.underlying32 hi hq0 hq1 hq2 rfl (by omega) (.slice (some ⟨g,0,none⟩) r cap) r (ms.map Extern.Stop.cell) rfl (pR.out.alloc _) ⟨wr.heap.size,0,none⟩ 1 1 [Extern.Stop.cell (byteOf y)] rfl rfl (qH (byteOf y) _ (dF y).symm) (oH _) (by unfold maxLen;omega) (by omega) (by first|(simp;done)|(simp;omega)) ?_;intro v2 w2 hown2 hg2 _;have hm2:pK W.heap.size W (ms++ [byteOf y]) v2 w2:=Zd.out.app (Nat.le_refl _) xW.out HL2.out hown2 hg2;obtain ⟨g2,cap2,rfl,_⟩:=dE hown2 (Nat.succ_pos _);have Zf:=ae hm2;clear hown2 hg2 hm2)
       go_roundw
       case rel=>exact ⟨j+1,g2,cap2,r+1,hlt,by have:=HR.out;omega,by have:=HS2.out;congr 1;omega,rfl,by rw [upto_succ,←List.append_assoc,HMS.out,rW.out,Yk.out];exact Zf.out⟩
       case measure=>have:=HS2.out;simp [intOf];omega
      ·have hj8:j=8:=by omega
       have hs2:56 - 8*(j:Int)= -8:=by omega
       have Tn:ms=ng bs:=by
        rw [←HMS.out,hj8,←NR.out];unfold ng Jl;rw [HN.out]
       have hT:r=q+8:=by have:=HR.out;omega
       obtain ⟨k,hk⟩:∃k,r=64*k:=⟨r / 64,by have h1:=AB N;have h2:=HQ.out;have h3:=Po.out;omega⟩;have Zz:=ae hk;have kH:=ae Tn;have Vr:=ae hml;have QG:Hid (∀i,i<r→wr.cell? ⟨g,i,none⟩=some (Extern.Stop.cell (ms[i]?.getD 0))):=ae fun i hi=>by
        have h:=pR.out.cells (g:=g) rfl i (Extern.Stop.cell (ms[i]?.getD 0)) (by rw [List.getElem?_map,bZ (by omega)];rfl);rw [addr_add] at h;exact h
       have hcap:r≤cap∧cap≤9223372036854775807:=by
        rcases pR.out.2 with ⟨h1,_⟩|⟨g',cap',cur,h1,_,_,h2,h3,_⟩
        ·cases h1
        ·injection h1 with _ _ h1;subst h1;exact ⟨h2,by unfold maxLen at h3;omega⟩
       have hgl:=MB pR.out g rfl;have hgw:W.heap.size≤g:=by
        rcases pR.out.2 with ⟨h1,_⟩|⟨g',cap',cur,h1,h2,_⟩
        ·cases h1
        ·injection h1 with h1 _ _;injection h1 with h1;injection h1 with h1;omega
       have HJ0:Hid (J [] wr):=ae (HJ.out _ _ _ h0 Zd.out.lo);rw [hs2];clear hs2 hj8 Tn hT hml
       gi_wp2_with fail
       gi_loopw [3] (fun m wx=>∃i a q cc o xs,i≤k∧q=64*(k - i)∧o=64*i∧m= .slice a q cc∧xs.map (·.bs)=upto (chunk ms) i∧J xs wx∧J9 W g r ms wx∧(i<k→a=some ⟨g,o,none⟩∧q≤cc∧cc≤9223372036854775807)) (fun m _=>match m with| .slice _ q _=>q|_=>0)
       case atStart=>exact ⟨0,some ⟨g,0,none⟩,r,cap,0,[],Nat.zero_le _,by rw [hk];rfl,rfl,rfl,rfl,HJ0.out,⟨hgl,hgw,hge3,QG.out⟩,fun _=>⟨rfl,hcap.1,hcap.2⟩⟩
       case round=>
        obtain ⟨i,a,q,cc,o,xs,hi,hq,ho,rfl,hxs,hjx,hbk,hlast⟩:=hrel;have Ho:=ae hbk;have xZ:=ae hxs;have Y9:=ae hjx;clear hbk hxs hjx;by_cases hlt:i<k
        ·obtain ⟨rfl,hqc,hcm⟩:=hlast hlt;have hq64:64≤q:=by omega
         have hxe:DI ⟨g,o,cc,chunk ms i⟩ wr:=Ho.out.el i o cc (chunk ms i) ho (by have:=Zz.out;omega) rfl Vr.out;obtain ⟨fn,tmps,assign,body,hy,hR⟩:=HY.out xs ⟨g,o,cc,chunk ms i⟩ wr Y9.out Ho.out.ge hxe;dsimp only [yZ] at hy;have hq0:(0:Int)<(q:Int):=by omega
         have Zl:=ae hq;have wX:=ae ho;clear hq ho hlast hxe
         gi_wp2_with fail
         refine hR.mono ?_;rintro e W3 ⟨rfl,hJ3,hk3⟩;have HJ3:=ae hJ3;have HB3:=ae (Ho.out.keep hk3);have yS:Hid ((xs++ [(⟨g,o,cc,chunk ms i⟩:NH)]).map (·.bs)=upto (chunk ms) (i+1)):=ae (by rw [List.map_append,xZ.out,upto_succ];rfl);clear hJ3 hk3 hy hR Y9 Ho;by_cases hcc:cc=64
         ·have zZ:=ae hcc;have hqe:q=64:=by omega
          have hke:i+1=k:=by have:=Zl.out;omega
          have AU:=ae hke;subst hcc;subst hqe;clear hke
          gi_wp2_with fail
          go_roundw
          case rel=>exact ⟨i+1,_,0,_,64*(i+1),_,by omega,by have:=AU.out;omega,rfl,rfl,yS.out,HJ3.out,HB3.out,fun h=>by have:=AU.out;omega⟩
          case measure=>simp
         ·have hc64:64<cc:=by omega
          gi_wp2_with fail
          go_roundw
          case rel=>exact ⟨i+1,_,q - 64,cc - 64,o+64,_,hlt,by have:=Zl.out;omega,by have:=wX.out;omega,rfl,yS.out,HJ3.out,HB3.out,fun _=>⟨rfl,by omega,by omega⟩⟩
          case measure=>simp;omega
        ·have hie:i=k:=by omega
         have hq0:q=0:=by omega
         have HIE:=ae hie;subst hq0;clear hie hlast
         gi_wp2_with fail
         go_end0
         refine ⟨⟨_,rfl⟩,xs,?_,Y9.out⟩;rw [xZ.out,HIE.out,←kH.out,Vr.out,Zz.out,Nat.mul_div_cancel_left _ (by decide)]
end Go.Proofs.YtdibbemgpikgjaaGreatDoor
namespace Go.Proofs.YtdibbemgpikgjaaGreatDoor
open Go Go.RowKit Go.Shelf
attribute [local go_sem] Oper.semAt_some
theorem EN (KR:List Int) (hK:KR.length=64) (w:World) (hG:fD w 0 (au KR)) (b1 b2 bs:List UInt8) (Lm:b1++b2=bs) (hb1:0<b1.length) (hb2:0<b2.length) (hlen:bs.length≤1000000000) (pb a1 f1 c1 a2 f2 c2:Nat) (hp:w.cell? ⟨pb,0,none⟩=some (.slice (some ⟨a1,f1,none⟩) b1.length c1)) (hp2:w.cell? ⟨pb,1,none⟩=some (.slice (some ⟨a2,f2,none⟩) b2.length c2)) (hlp:pb<w.heap.size) (hla1:a1<w.heap.size) (hla2:a2<w.heap.size)
  (IW:∀j,j<b1.length→w.cell? ⟨a1,f1+j,none⟩=some (Extern.Stop.cell (b1[j]?.getD 0))) (Tf:∀j,j<b2.length→w.cell? ⟨a2,f2+j,none⟩=some (Extern.Stop.cell (b2[j]?.getD 0))):
  Calls Tryz.prog 31 #[.slice (some ⟨pb,0,none⟩) 2 2] w fun e w'=>e= .returned (.agg (cellsB (fH KR bs)))∧Below w.heap.size w w':=by
 refine (callsIn_wide (n:=3)).1 ?_;have hro:Fence.wide.round=none:=rfl;have h1:1≤3:=by omega
 have HK:=ae hK;have HG:=ae hG;have HBY1:=ae IW;have HBY2:=ae Tf;have HP:=ae hp;have HP2:=ae hp2;clear hK hG IW Tf hp hp2;refine callsIn_of_wp_marks Tryz.func31 rfl trivial ?_ hro;simp only [Tryz.ntmps31,List.size_toArray,List.length_cons,List.length_nil,Nat.reduceAdd,Nat.reduceSub,Array.replicate_succ,Array.replicate_zero,List.push_toArray,List.append_toArray,List.nil_append,List.cons_append]
 gi_wp2_with (first
  |(refine fV rfl _ rfl (cellsB z32) ik ?_)
  |(refine fV rfl _ rfl (au (List.replicate 8 0)) kZ ?_;refine jB rfl 118 _ _ rfl (w.alloc (.cells (cellsB z32) 23)).heap.size (au nV) rfl rfl 118 (au (List.replicate 8 0)) (heap_alloc_last _ _) (by kernel_rfl) rfl (bJ _) ?_)
  |(refine ⟨trivial,?_⟩;gi_at_call 50;refine (BD _ _ _ _).mono ?_;rintro e w3 ⟨rfl,hw3⟩;obtain ⟨hs3,hz3,Td⟩:=BQ (KR:=KR) ⟨_,rfl⟩ hw3;have jU:=ae hs3;have yS:=ae Td;have HZ3:=ae hz3;clear hw3 hs3 Td hz3))
 have hseq:∀W,Below w3.heap.size w3 W→tH Fence.wide (3 - 1) Tryz.prog 73 #[.pointer (some ⟨w.heap.size+1+1,0,none⟩)] yZ DI (fun xs=>xs.map (·.bs)=upto (chunk (ng bs)) ((ng bs).length / 64)) W:=fun W hW=>by
  have hz:=HZ3.out;have hsz:=hW.size;have hlo:=jU.out.lo;have kc:∀(p:Addr),p.block<w.heap.size→W.cell? p=w.cell? p:=fun p hp=>((hW.mono (by omega)).cell (p:=p) hp).trans (hlo.cell (p:=p) hp);exact DV Fence.wide 2 trivial rfl (by omega) b1 b2 bs Lm hb1 hb2 hlen W (w.heap.size+1+1) pb a1 f1 c1 a2 f2 c2 ((hW.cell (p:=⟨w.heap.size+2,0,none⟩) (by show w.heap.size+2<w3.heap.size;omega)).trans yS.out)
   ((kc ⟨pb,0,none⟩ hlp).trans HP.out) ((kc ⟨pb,1,none⟩ hlp).trans HP2.out) (by omega) (by omega) (by omega) (fun j hj=>(kc ⟨a1,f1+j,none⟩ hla1).trans (HBY1.out j hj)) (by omega) (fun j hj=>(kc ⟨a2,f2+j,none⟩ hla2).trans (HBY2.out j hj))
 have Zr:=ae hseq;clear hseq;refine qW hro h1 (gf:=73) (lb:= #[.pointer (some ⟨w.heap.size+1+1,0,none⟩)]) rfl trivial (enters_of Tryz.func73 (by kernel_rfl) rfl) Zr.out (fun _=>rfl)
  (fun (xs:List NH) W=>Es w KR (xs.map (fun x:NH=>x.bs)) W) (fun xs A B h hb=>h.grow (hb.mono (by rw [HZ3.out];exact Nat.le_refl _))) jU.out
  (fun x=> {tmps:= #[.slice (some ⟨pb,0,none⟩) 2 2,undef, .pointer (some ⟨w.heap.size,0,none⟩), .pointer (some ⟨w.heap.size+1,0,none⟩),Qc x,undef,undef, .agg (au nV), .slice (some ⟨pb,0,none⟩) 2 2, .func (.func 73) #[] #[.pointer (some ⟨w.heap.size+1+1,0,none⟩)],Qc x,undef,undef,undef,undef,undef,undef,undef,undef,undef,undef,undef,undef,undef,undef,undef,undef,undef,undef,undef],defers:= []})
  (fun x A l o o' h1 h2 h3=>h1.put h2 h3) ?assign ?body ?done
 case assign=>
  intro l x W K hK;unfold yZ
  gi_wp2
  exact hK
 case body=>
  intro l pre x W hI hsz hx;have hGW:fD W 0 (au KR):=⟨dP HG.out.1 hI.lo.size,fun i=>(hI.lo.cell (p:=⟨0,i,none⟩) HG.out.1).trans (HG.out.2 i)⟩;have HC:Hid (Calls Tryz.prog 51 #[.pointer (some ⟨w.heap.size+1,0,none⟩),Qc x] W fun e w'=>e= .returned (.tuple #[])∧AV (w.heap.size+1) 118 (au (Bq KR (qK KR nV (pre.map (fun x:NH=>x.bs))) x.bs)) w'∧N7 (w.heap.size+1) W w'):=
   ae (add_any KR HK.out W hGW (w.heap.size+1) x.b x.off x.cap (qK KR nV (pre.map (fun x:NH=>x.bs))) x.bs (oh _ _ _ rfl) hI.st hx.len hx.lt hx.at_)
  have HI:=ae hI;clear hGW hI hx
  gi_wp2_with (refine ⟨trivial,?_⟩;gi_at_call 51;refine (CallsIn.inRound l (callsIn_wide.2 HC.out)).mono ?_;rintro e W2 ⟨rfl,hav,hkp⟩)
  have hl:=HI.out.lo;have hz3:=HZ3.out;refine ⟨⟨⟨(hkp.block _ (by have:=hl.size;omega) (by omega)).trans HI.out.res.var⟩,?_,⟨hkp.os.trans hl.os,hkp.tape.trans hl.tape,hkp.output.trans hl.output,Nat.le_trans hl.size hkp.size,fun k hk=>(hkp.block k (by have:=hl.size;omega) (by omega)).trans (hl.block k hk)⟩⟩,⟨hkp.size,fun k h1 h2=>hkp.block k h2 (by omega)⟩⟩;rw [vY];exact hav
 case done=>
  intro D xs W hD hS hI hD0;rw [hS] at hI;obtain ⟨st,hst⟩:∃st,qK KR nV (upto (chunk (ng bs)) ((ng bs).length / 64))=st:=⟨_,rfl⟩;have hsl:st.length=8:=by rw [←hst];exact oh _ _ _ rfl
  have hI2:AV (w.heap.size+1) 118 (au st) W:=by rw [←hst];exact hI.st
  have HI:=ae hI;have HI2:=ae hI2;have HD0:=ae hD0;have HST:=ae hst;have UW:=ae hsl;clear hI hI2 hD0 hst hsl hS;have uC:=ae (AV.new W (cellsB (eH st 0)) 23);have HB0:=ae (ag W (.cells (cellsB (eH st 0)) 23));have hstl:=HI2.out.lt;have hdl:D<W.heap.size:=(bT.1 HD0.out).1
  gi_wp2_with (refine fV rfl _ rfl (cellsB z32) ik ?_)
  gi_loopw [13] (fun i wx=>∃k:Nat,k≤32∧i= .int .i64 (k:Int)∧AV W.heap.size 23 (cellsB (eH st k)) wx∧Below W.heap.size W wx) (fun i _=>32 - (intOf i).toNat)
  case atStart=>exact ⟨0,Nat.zero_le _,rfl,uC.out,HB0.out⟩
  case round=>
   obtain ⟨k,hk,rfl,hd,hb⟩:=hrel;have Q7:=ae hd;have yR:=ae hb;have NQ:=ae (rO st k);clear hd hb uC HB0;by_cases hlt:k<32
   ·have i1:(k:Int)<32:=by omega
    obtain ⟨q4,hq4⟩:∃q:Nat,k / 4=q:=⟨_,rfl⟩;obtain ⟨r4,hr4⟩:∃q:Nat,k%4=q:=⟨_,rfl⟩;obtain ⟨s4,hs4⟩:∃q:Nat,24 - 8*r4=q:=⟨_,rfl⟩;obtain ⟨v,hv⟩:∃v,st[q4]?.getD 0=v:=⟨_,rfl⟩;have cs:wr.cell? ⟨w.heap.size+1,q4,none⟩=some (.int .u32 v):=((yR.out.cell (p:=⟨w.heap.size+1,q4,none⟩) hstl).trans (HI2.out.cell q4)).trans (by rw [bY _ _ (by rw [UW.out];omega),hv]);have cd:wr.cell? ⟨W.heap.size,k,none⟩=some (Extern.Stop.cell ((eH st k)[k]?.getD 0)):=(Q7.out.cell k).trans (kL _ _ (by rw [NQ.out];exact hlt));have cf:=Q7.out.dZ k;obtain ⟨y,hy⟩:∃y,v / 2 ^ s4=y:=⟨_,rfl⟩;have g4:(k:Int) / 4=(q4:Int):=by omega
    have g5:(k:Int)%4=(r4:Int):=by omega
    have g6:24 - 8*(r4:Int)=(s4:Int):=by omega
    have b4:(q4:Int)<8:=by omega
    have b5:(r4:Int)<4:=by omega
    have b6:(s4:Int)≤24:=by omega
    have hw8:IntKind.u8.wrap y=y%256:=by rw [IntKind.wrap_u8]
    have HN:Hid (AV W.heap.size 23 (cellsB (eH st (k+1))) (wr.setCell ⟨W.heap.size,k,none⟩ (.int .u8 (y%256)))):=ae (by
     have h:=Q7.out.put k (Extern.Stop.cell (byteOf y));rw [rE,dF] at h;have e:eH st (k+1)=(eH st k).set k (byteOf y):=by
      show (eH st k).set k (byteOf ((st[k / 4]?.getD 0) / 2 ^ (24 - 8*(k%4))))=_;rw [hq4,hr4,hs4,hv,hy]
     rw [e];exact h)
    clear hq4 hr4 hs4 hv
    gi_wp2_with fail
    go_roundw
    case rel=>exact ⟨k+1,by omega,by go_num,HN.out,yR.out.setCell (p:=⟨W.heap.size,k,none⟩) (Nat.le_refl _) _⟩
    case measure=>simp [intOf];omega
   ·have AU:Hid (k=32):=ae (by omega);have i1:¬(k:Int)<32:=by omega
    have i2:((k:Int)<32)=False:=by simp;omega
    have HRW:Hid (fD wr W.heap.size (cellsB (eH st k))):=ae ⟨Q7.out.lt,Q7.out.cell⟩;have dR:Hid ((Tryz.prog.info? 23).map (·.size)=some (cellsB (eH st k)).size):=ae (by rw [cu,NQ.out];kernel_rfl);have Af:Hid ((cellsB z32).size=(cellsB (eH st k)).size):=ae (by rw [cu,cu,NQ.out];rfl);have QL:Hid (wr.heap[w.heap.size]? =some (.cells (cellsB z32) 23 (0,0))):=ae ((yR.out.block _ (by omega)).trans HI.out.res.var);have Q3:Hid ((wr.setRow w.heap.size (cellsB (eH st k))).heap[D]? =some (.deferred (some []))):=ae ((setRow_other _ _ _ _ (by have:=HZ3.out;omega)).trans ((yR.out.block _ hdl).trans HD0.out));clear hlt
    gi_wp2_with (first
     |(refine qY rfl _ _ rfl W.heap.size rfl (cellsB (eH st k)) HRW.out _ Tryz.underlying23 rfl dR.out ?_;refine jB rfl _ _ _ rfl w.heap.size (cellsB (eH st k)) rfl rfl 23 (cellsB z32) QL.out dR.out Af.out (jH _) ?_))
    have hz3:=HZ3.out;have hlo:=HI.out.lo;refine ⟨by simp, .inl ⟨_,_,rfl,run_takeDeferred Q3.out,?_⟩⟩;refine ⟨_,results_cell_row rfl _ _ w.heap.size _ (cellsB (eH st k)) (0,0) _ rfl ((World.putObj_heap_other (by omega)).trans (setRow_heap _ _ _ _ _ _ QL.out)) Tryz.underlying23 rfl dR.out,?_⟩;refine ⟨?_,(aB (hlo.trans (yR.out.mono hlo.size)) (Nat.le_refl _) _).trans (qG (by omega))⟩;rw [AU.out,←HST.out];rfl
end Go.Proofs.YtdibbemgpikgjaaGreatDoor
namespace Go.Proofs.YtdibbemgpikgjaaGreatDoor
open Go Go.RowKit
def xb (m:Int) (x:UInt8):UInt8:=byteOf (bits BinOp.xor IntKind.u8 x.toNat m)
def jf (m:Int) (bs:List UInt8):Nat→List UInt8
 |0=>bs
 |k+1=>(jf m bs k).set k (xb m (bs[k]?.getD 0))
theorem oC (m:Int) (bs:List UInt8) (k:Nat):(jf m bs k).length=bs.length:=by
 induction k with
 |zero=>rfl
 |succ k ih=>simp [jf,ih]
theorem Fg (m:Int) (bs:List UInt8) (k:Nat):∀j,k≤j→(jf m bs k)[j]? =bs[j]? :=by
 induction k with
 |zero=>exact fun _ _=>rfl
 |succ k ih=>
  intro j hj;show ((jf m bs k).set k _)[j]? =_;rw [List.getElem?_set_ne (by omega),ih j (by omega)]
def fM (key:List UInt8):List UInt8:=key++List.replicate 32 0
def sN (KR:List Int) (key bs:List UInt8):List UInt8:=fH KR (jf 92 (fM key) 64++fH KR (jf 54 (fM key) 64++bs))
theorem ug (KR:List Int) (key bs:List UInt8):(sN KR key bs).length=32:=dV _ _
theorem u8_xor (x:UInt8) (m:Int):0≤bits BinOp.xor IntKind.u8 x.toNat m∧bits BinOp.xor IntKind.u8 x.toNat m<256:=by
 unfold bits;simp only [IntKind.wrap,IntKind.bits,IntKind.signed];constructor
 ·exact Int.emod_nonneg _ (by decide)
 ·exact Int.emod_lt_of_pos _ (by decide)
theorem Aw (m:Int) (x:UInt8):Extern.Stop.cell (xb m x)= .int .u8 (bits BinOp.xor IntKind.u8 x.toNat m):=by
 obtain ⟨h1,h2⟩:=u8_xor x m;unfold xb;rw [dF];congr 1;omega
theorem G6:(Tryz.prog.info? 82).map (fun i=>(i.zero,i.size))=some (some (.agg (cellsB (List.replicate 64 0))),(cellsB (List.replicate 64 0)).size):=by kernel_rfl
structure Ah (w:World) (key xs ys:List UInt8) (W:World):Prop where
 kv:AV w.heap.size 23 (cellsB key) W
 res:AV (w.heap.size+1) 23 (cellsB z32) W
 a:AV (w.heap.size+2) 82 (cellsB xs) W
 b:AV (w.heap.size+3) 82 (cellsB ys) W
 lo:Below w.heap.size w W
theorem Ah.below {w W W':World} {key xs ys:List UInt8} (h:Ah w key xs ys W) (hb:Below W.heap.size W W'):Ah w key xs ys W':=⟨h.kv.below hb,h.res.below hb,h.a.below hb,h.b.below hb,ah h.lo hb⟩
theorem Ah.lt {w W:World} {key xs ys:List UInt8} (h:Ah w key xs ys W):w.heap.size+3<W.heap.size:=h.b.lt
theorem AV.kC {b c:Nat} {t:TypeId} {cs ds:Array Value} {W:World} (h:AV b t cs W) (hn:b≠c):AV b t cs (W.setRow c ds):=⟨(setRow_other _ _ b _ hn).trans h.var⟩
theorem AV.OG {b:Nat} {t:TypeId} {cs ds:Array Value} {W:World} (h:AV b t cs W):AV b t ds (W.setRow b ds):=⟨setRow_heap _ _ _ _ _ _ h.var⟩
theorem Ah.setA {w W:World} {key xs ys:List UInt8} (h:Ah w key xs ys W) (zs:List UInt8):Ah w key zs ys (W.setRow (w.heap.size+2) (cellsB zs)):=
 ⟨h.kv.kC (by omega),h.res.kC (by omega),h.a.OG,h.b.kC (by omega),aB h.lo (by omega) _⟩
theorem Ah.setB {w W:World} {key xs ys:List UInt8} (h:Ah w key xs ys W) (zs:List UInt8):Ah w key xs zs (W.setRow (w.heap.size+3) (cellsB zs)):=
 ⟨h.kv.kC (by omega),h.res.kC (by omega),h.a.kC (by omega),h.b.OG,aB h.lo (by omega) _⟩
theorem Ah.drew {w W:World} {key xs ys:List UInt8} (h:Ah w key xs ys W):Ah w key xs ys W.drew:=⟨h.kv.drew,h.res.drew,h.a.drew,h.b.drew,h.lo.drew⟩
theorem Ah.putA {w W:World} {key xs ys:List UInt8} (h:Ah w key xs ys W) (o:Nat) (x:UInt8):Ah w key (xs.set o x) ys (W.setCell ⟨w.heap.size+2,o,none⟩ (Extern.Stop.cell x)):=
 ⟨h.kv.far (by omega) _ _,h.res.far (by omega) _ _,by have:=h.a.put o (Extern.Stop.cell x);rwa [rE] at this,h.b.far (by omega) _ _,h.lo.setCell (p:=⟨w.heap.size+2,o,none⟩) (by show w.heap.size≤w.heap.size+2;omega) _⟩
theorem Ah.putB {w W:World} {key xs ys:List UInt8} (h:Ah w key xs ys W) (o:Nat) (x:UInt8):Ah w key xs (ys.set o x) (W.setCell ⟨w.heap.size+3,o,none⟩ (Extern.Stop.cell x)):=
 ⟨h.kv.far (by omega) _ _,h.res.far (by omega) _ _,h.a.far (by omega) _ _,by have:=h.b.put o (Extern.Stop.cell x);rwa [rE] at this,h.lo.setCell (p:=⟨w.heap.size+3,o,none⟩) (by show w.heap.size≤w.heap.size+3;omega) _⟩
theorem PU (w:World) (key:List UInt8):Ah w key (List.replicate 64 0) (List.replicate 64 0) ((((w.alloc (.cells (cellsB key) 23)).alloc (.cells (cellsB z32) 23)).alloc (.cells (cellsB (List.replicate 64 0)) 82)).alloc (.cells (cellsB (List.replicate 64 0)) 82)):=by
 obtain ⟨W1,h1⟩:∃W,w.alloc (.cells (cellsB key) 23)=W:=⟨_,rfl⟩;have a1:=AV.new w (cellsB key) 23;have b1:=ag w (.cells (cellsB key) 23);have s1:W1.heap.size=w.heap.size+1:=by rw [←h1];simp
 rw [h1] at a1 b1 ⊢;obtain ⟨W2,h2⟩:∃W,W1.alloc (.cells (cellsB z32) 23)=W:=⟨_,rfl⟩;have a2:=AV.new W1 (cellsB z32) 23;have b2:=ag W1 (.cells (cellsB z32) 23);have s2:W2.heap.size=w.heap.size+2:=by rw [←h2];simp [s1]
 rw [h2] at a2 b2 ⊢;rw [s1] at a2;obtain ⟨W3,h3⟩:∃W,W2.alloc (.cells (cellsB (List.replicate 64 0)) 82)=W:=⟨_,rfl⟩;have a3:=AV.new W2 (cellsB (List.replicate 64 0)) 82;have b3:=ag W2 (.cells (cellsB (List.replicate 64 0)) 82);have s3:W3.heap.size=w.heap.size+3:=by rw [←h3];simp [s2]
 rw [h3] at a3 b3 ⊢;rw [s2] at a3;have a4:=AV.new W3 (cellsB (List.replicate 64 0)) 82;have b4:=ag W3 (.cells (cellsB (List.replicate 64 0)) 82);rw [s3] at a4;exact ⟨((a1.below b2).below b3).below b4,(a2.below b3).below b4,a3.below b4,a4,ah (ah (ah b1 b2) b3) b4⟩
theorem MF (key:List UInt8) (h:key.length=32):cellsB (fM key)=(splice (cellsB (List.replicate 64 0)).toList 0 (aj key)).toArray:=by
 unfold splice cellsB fM;simp [aj,h]
theorem LU (KR:List Int) (hK:KR.length=64) (w:World) (hG:fD w 0 (au KR)) (key bs:List UInt8) (hk:key.length=32) (hb0:0<bs.length) (hlen:bs.length≤900000000) (ab off c:Nat) (hla:ab<w.heap.size) (hby:∀j,j<bs.length→w.cell? ⟨ab,off+j,none⟩=some (Extern.Stop.cell (bs[j]?.getD 0))):
  Calls Tryz.prog 10 #[.agg (cellsB key), .slice (some ⟨ab,off,none⟩) bs.length c] w (Gives (.agg (cellsB (sN KR key bs))) w):=by
 have uP:=ae (PU w key);have HK:=ae hK;have HG:=ae hG;have oJ:=ae hk;have uZ:=ae hby;obtain ⟨N,hN⟩:∃N,bs.length=N:=⟨_,rfl⟩;rw [hN] at hb0 hlen ⊢;have HN:=ae hN;clear hK hG hk hby hN;go_enter Tryz.func10,Tryz.ntmps10;go_wp2_with (first
  |(refine aH rfl _ rfl (cellsB z32) ik ?_)
  |(refine aH rfl _ rfl (cellsB (List.replicate 64 0)) G6 ?_))
 simp only [World.size_alloc,Nat.add_assoc,Nat.reduceAdd];generalize (((w.alloc (.cells (cellsB key) 23)).alloc (.cells (cellsB z32) 23)).alloc (.cells (cellsB (List.replicate 64 0)) 82)).alloc (.cells (cellsB (List.replicate 64 0)) 82)=W0 at uP ⊢;have hl0:=uP.out.lt;have lV:Hid (∀j u,(aj key)[j]? =some u→W0.drew.cell? ((⟨w.heap.size,0,none⟩:Addr).add j)=some u):=ae fun j u hu=>by
  rw [addr_add];exact (uP.out.kv.cell j).trans (by simpa [cellsB] using hu)
 have HC2:Hid ((aj key).length=32):=ae (by simp [aj,oJ.out]);have sG:Hid ((cellsB (List.replicate 64 0)).size=64):=ae (by rw [cu];rfl);have sQ:=ae (MF key oJ.out)
 go_region_law (refine vM (by rfl) _ _ _ _ (by rfl) 5 Tryz.underlying32 (by kernel_rfl) (w.heap.size+2) 0 64 64 ⟨w.heap.size,0,none⟩ 32 32 (by rfl) (by rfl) (cellsB (List.replicate 64 0)) 82 uP.out.a.drew.var (aj key) (by rw [HC2.out];rfl) lV.out (by rw [HC2.out,sG.out];decide) (Jd key) (cellsB (fM key)) sQ.out ?_)
 have iq:=ae (uP.out.drew.setA (fM key));generalize W0.drew.setRow (w.heap.size+2) (cellsB (fM key))=W1 at iq ⊢;have hl1:=iq.out.lt;have Dw:Hid ((fM key).length=64):=ae (by simp [fM,oJ.out]);have HS64:Hid (∀zs:List UInt8,zs.length=64→(Tryz.prog.info? 82).map (·.size)=some (cellsB zs).size):=ae fun zs hz=>by rw [cu,hz];kernel_rfl
 have Kq:Hid (fD W1 (w.heap.size+2) (cellsB (fM key))):=ae ⟨by omega,iq.out.a.cell⟩;have Af:Hid ((cellsB (List.replicate 64 0)).size=(cellsB (fM key)).size):=ae (by rw [cu,cu,Dw.out];rfl);have HS2:=ae (iq.out.setB (fM key));clear lV HC2 sG sQ hl0;go_wp2_with (first
  |(with_reducible refine dN 82 ?_;refine aT rfl _ _ rfl (w.heap.size+2) rfl (cellsB (fM key)) Kq.out _ Tryz.underlying82 rfl (HS64.out _ Dw.out) ?_)
  |(with_reducible refine cZ 82 ?_;refine wpList_store_row rfl _ _ _ rfl (w.heap.size+3) (cellsB (fM key)) rfl rfl 82 (cellsB (List.replicate 64 0)) iq.out.b.var (HS64.out _ Dw.out) Af.out (jH _) ?_))
 go_loopw [13] (fun i wr=>∃k:Nat,k≤64∧i= .int .i64 (k:Int)∧Ah w key (jf 54 (fM key) k) (jf 92 (fM key) k) wr) (fun i _=>64 - (intOf i).toNat)
 case atStart=>exact ⟨0,Nat.zero_le _,rfl,HS2.out⟩
 case round=>
  obtain ⟨k,hk,rfl,hs⟩:=hrel;have HS:=ae hs;have hl:=hs.lt;clear hs iq HS2 hl1 Kq Af;by_cases hlt:k<64
  ·have i0:(0:Int)≤(k:Int):=by omega
   have i1:(k:Int)<64:=by omega
   obtain ⟨x,hx⟩:∃x,(fM key)[k]?.getD 0=x:=⟨_,rfl⟩;have hxa:(jf 54 (fM key) k)[k]?.getD 0=x:=by rw [Fg _ _ _ _ (Nat.le_refl _),hx]
   have hxb:(jf 92 (fM key) k)[k]?.getD 0=x:=by rw [Fg _ _ _ _ (Nat.le_refl _),hx]
   have ca:wr.cell? ⟨w.heap.size+2,k,none⟩=some (Extern.Stop.cell x):=(HS.out.a.cell k).trans (by rw [kL _ _ (by rw [oC,Dw.out];exact hlt),hxa]);have cb:wr.cell? ⟨w.heap.size+3,k,none⟩=some (Extern.Stop.cell x):=(HS.out.b.cell k).trans (by rw [kL _ _ (by rw [oC,Dw.out];exact hlt),hxb]);have fa:=HS.out.a.dZ k;have fb:=HS.out.b.dZ k;have HN3:Hid (Ah w key (jf 54 (fM key) (k+1)) (jf 92 (fM key) (k+1)) ((wr.setCell ⟨w.heap.size+2,k,none⟩ (Extern.Stop.cell (xb 54 x))).setCell ⟨w.heap.size+3,k,none⟩ (Extern.Stop.cell (xb 92 x)))):=ae (by
    have h:=(HS.out.putA k (xb 54 x)).putB k (xb 92 x);have e1:jf 54 (fM key) (k+1)=(jf 54 (fM key) k).set k (xb 54 x):=by show (jf 54 (fM key) k).set k (xb 54 ((fM key)[k]?.getD 0))=_;rw [hx]
    have e2:jf 92 (fM key) (k+1)=(jf 92 (fM key) k).set k (xb 92 x):=by show (jf 92 (fM key) k).set k (xb 92 ((fM key)[k]?.getD 0))=_;rw [hx]
    rw [e1,e2];exact h)
   rw [Aw 54 x,Aw 92 x] at HN3;simp only [Extern.Stop.cell] at ca cb;clear hx hxa hxb;go_wp2_with fail;go_roundw
   case rel=>exact ⟨k+1,by omega,by go_num,HN3.out⟩
   case measure=>simp [intOf];omega
  ·have Ls:k=64:=by omega
   have i1:¬(k:Int)<64:=by omega
   obtain ⟨A,hA⟩:∃A,jf 54 (fM key) 64=A:=⟨_,rfl⟩;obtain ⟨B,hB⟩:∃B,jf 92 (fM key) 64=B:=⟨_,rfl⟩;have hAl:A.length=64:=by rw [←hA,oC,Dw.out]
   have hBl:B.length=64:=by rw [←hB,oC,Dw.out]
   have hS:=HS.out;rw [Ls,hA,hB] at hS;have rW:=ae hS;have HAB:Hid (sN KR key bs=fH KR (B++fH KR (A++bs))):=ae (by unfold sN;rw [hA,hB]);have hlo:=hS.lo;obtain ⟨W2,hW2⟩:∃W,wr.alloc (.cells #[.slice (some ⟨w.heap.size+2,0,none⟩) 64 64, .slice (some ⟨ab,off,none⟩) N c] 32)=W:=⟨_,rfl⟩;have hb2:Below wr.heap.size wr W2:=by rw [←hW2];exact ag wr _
   have hr2:W2.heap[wr.heap.size]? =some (.cells #[.slice (some ⟨w.heap.size+2,0,none⟩) 64 64, .slice (some ⟨ab,off,none⟩) N c] 32 (0,0)):=by rw [←hW2];exact heap_alloc_last wr _
   have hsz2:W2.heap.size=wr.heap.size+1:=by rw [←hW2];simp
   have hlow2:Below w.heap.size w W2:=ah hlo hb2;have hG2:fD W2 0 (au KR):=⟨dP HG.out.1 hlow2.size,fun i=>(hlow2.cell (p:=⟨0,i,none⟩) HG.out.1).trans (HG.out.2 i)⟩;have HC:Hid (Calls Tryz.prog 31 #[.slice (some ⟨wr.heap.size,0,none⟩) 2 2] W2 fun e w'=>e= .returned (.agg (cellsB (fH KR (A++bs))))∧Below W2.heap.size W2 w'):=
    ae (EN KR HK.out W2 hG2 A bs (A++bs) rfl (by omega) (by rw [HN.out];exact hb0) (by rw [aZ,hAl,HN.out];omega) wr.heap.size (w.heap.size+2) 0 64 ab off c
     ((cell_of_row W2 _ 0 _ _ _ hr2).trans (by rw [hAl];rfl)) ((cell_of_row W2 _ 1 _ _ _ hr2).trans (by rw [HN.out];rfl)) (by omega) (by omega) (by omega)
     (fun j hj=>(hb2.cell (p:=⟨w.heap.size+2,0+j,none⟩) (by show w.heap.size+2<wr.heap.size;omega)).trans ((hS.a.cell (0+j)).trans (by rw [Nat.zero_add,kL _ _ hj])))
     (fun j hj=>(hlow2.cell (p:=⟨ab,off+j,none⟩) hla).trans (uZ.out j hj)))
   have HS2:=ae (hS.below hb2);have HW2:=ae hW2;have XV:=ae hAl;have yR:=ae hBl;have mZ:=ae hsz2;clear hb2 hr2 hsz2 hlow2 hG2 hS hlo hW2 hA hB hAl hBl Ls hlt;go_wp2_with fail;rw [HW2.out];refine HC.out.mono ?_;rintro e W3 ⟨rfl,hb3⟩;have jU:=ae (HS2.out.below hb3);obtain ⟨D1,hD1⟩:∃D,fH KR (A++bs)=D:=⟨_,rfl⟩;have hDl:D1.length=32:=by rw [←hD1];exact dV _ _
   rw [hD1];have HD1:=ae hD1;have UO:=ae hDl;have Zv:Hid (∀zs:List UInt8,zs.length=32→(Tryz.prog.info? 23).map (·.size)=some (cellsB zs).size):=ae fun zs hz=>by rw [cu,hz];kernel_rfl
   have HSOD:Hid (∀zs:List UInt8,zs.length=32→(cellsB z32).size=(cellsB zs).size):=ae fun zs hz=>by rw [cu,cu,hz];rfl
   have HA3:=ae (heap_alloc_last W3 (.cells (cellsB z32) 23));have HB3a:=ae (ag W3 (.cells (cellsB z32) 23));have hl3:=jU.out.lt;clear hb3 hD1 hDl HC HW2;go_wp2_with (first
    |(refine aH rfl _ rfl (cellsB z32) ik ?_)
    |(with_reducible refine cZ 23 ?_;refine wpList_store_row rfl _ _ _ rfl W3.heap.size (cellsB D1) rfl rfl 23 (cellsB z32) HA3.out (Zv.out _ UO.out) (HSOD.out _ UO.out) (jH _) ?_))
   have hS4:Ah w key A B ((W3.alloc (.cells (cellsB z32) 23)).setRow W3.heap.size (cellsB D1)):=by
    have h:=jU.out.below HB3a.out;exact ⟨h.kv.kC (by omega),h.res.kC (by omega),h.a.kC (by omega),h.b.kC (by omega),aB h.lo (by omega) _⟩
   have hd4:AV W3.heap.size 23 (cellsB D1) ((W3.alloc (.cells (cellsB z32) 23)).setRow W3.heap.size (cellsB D1)):=⟨setRow_heap _ _ _ _ _ _ HA3.out⟩;have hz4:((W3.alloc (.cells (cellsB z32) 23)).setRow W3.heap.size (cellsB D1)).heap.size=W3.heap.size+1:=by simp [World.setRow]
   generalize (W3.alloc (.cells (cellsB z32) 23)).setRow W3.heap.size (cellsB D1)=W4 at hS4 hd4 hz4 ⊢;obtain ⟨W5,hW5⟩:∃W,(W4.alloc (.cells #[.slice (some ⟨w.heap.size+3,0,none⟩) 64 64, .slice (some ⟨W3.heap.size,0,none⟩) 32 32] 32)).drew=W:=⟨_,rfl⟩;have hb5:Below W4.heap.size W4 W5:=by rw [←hW5];exact (ag W4 _).drew
   have uH:W5.heap[W4.heap.size]? =some (.cells #[.slice (some ⟨w.heap.size+3,0,none⟩) 64 64, .slice (some ⟨W3.heap.size,0,none⟩) 32 32] 32 (0,0)):=by rw [←hW5];exact heap_alloc_last W4 _
   have hsz5:W5.heap.size=W4.heap.size+1:=by rw [←hW5];simp
   have hS5:=hS4.below hb5;have hd5:=hd4.below hb5;have hG5:fD W5 0 (au KR):=⟨dP HG.out.1 hS5.lo.size,fun i=>(hS5.lo.cell (p:=⟨0,i,none⟩) HG.out.1).trans (HG.out.2 i)⟩;have zY:Hid (Calls Tryz.prog 31 #[.slice (some ⟨W4.heap.size,0,none⟩) 2 2] W5 fun e w'=>e= .returned (.agg (cellsB (fH KR (B++D1))))∧Below W5.heap.size W5 w'):=
    ae (EN KR HK.out W5 hG5 B D1 (B++D1) rfl (by rw [yR.out];decide) (by rw [UO.out];decide) (by rw [aZ,yR.out,UO.out];decide) W4.heap.size (w.heap.size+3) 0 64 W3.heap.size 0 32
     ((cell_of_row W5 _ 0 _ _ _ uH).trans (by rw [yR.out];rfl)) ((cell_of_row W5 _ 1 _ _ _ uH).trans (by rw [UO.out];rfl)) (by omega) (by omega) (by omega)
     (fun j hj=>(hS5.b.cell (0+j)).trans (by rw [Nat.zero_add,kL _ _ hj]))
     (fun j hj=>(hd5.cell (0+j)).trans (by rw [Nat.zero_add,kL _ _ hj])))
   have sS:=ae hS5;have HW5:=ae hW5;clear hb5 uH hsz5 hG5 hS5 hd5 hW5 hS4 hd4 HA3 HB3a hz4;go_still_tail 2,(by kernel_rfl);go_wp2_with fail;rw [HW5.out];refine zY.out.mono ?_;rintro e W6 ⟨rfl,hb6⟩;have Kr:=ae (sS.out.below hb6);have hE:fH KR (B++D1)=sN KR key bs:=by rw [HAB.out,HD1.out]
   rw [hE];have Vr:=ae (ug KR key bs);clear hb6 hE;go_wp2_with (with_reducible refine cZ 23 ?_;refine wpList_store_row rfl _ _ _ rfl (w.heap.size+1) (cellsB (sN KR key bs)) rfl rfl 23 (cellsB z32) Kr.out.res.var (Zv.out _ Vr.out) (HSOD.out _ Vr.out) (jH _) ?_);refine bodyPost_ret (v:= .agg (cellsB (sN KR key bs))) (results_cell_row rfl _ _ (w.heap.size+1) _ (cellsB (sN KR key bs)) (0,0) _ rfl (setRow_heap _ _ _ _ _ _ Kr.out.res.var) Tryz.underlying23 rfl (Zv.out _ Vr.out)) rfl ?_;exact ⟨rfl,aB Kr.out.lo (Nat.le_succ _) _⟩
theorem fD.via {w w':World} {b B:Nat} {cs:Array Value} (h:fD w b cs) (hb:Below B w w') (hB:b<B):fD w' b cs:=
 ⟨dP h.1 hb.size,fun i=>(hb.cell (p:=⟨b,i,none⟩) hB).trans (h.2 i)⟩
theorem lG (m:List UInt8) (h:m.length=32):(Tryz.prog.info? 23).map (·.size)=some (cellsB m).size:=by rw [cu,h];kernel_rfl
theorem Gs {lo:Nat} {w:World} {g n c:Nat} {bs:List UInt8} (h:w.ownsRow lo 5 1 (.slice (some ⟨g,0,none⟩) n c) n (bs.map Extern.Stop.cell)):g<w.heap.size∧lo≤g:=by
 obtain ⟨_,⟨h1,_⟩|⟨g',cap,cur,hv,hg,hb,h1,h2,h3,h4⟩⟩:=h
 ·cases h1
 injection hv with hv _ hc;injection hv with hv;injection hv with hv;subst hv;exact ⟨(bT.1 hb).1,hg⟩
end Go.Proofs.YtdibbemgpikgjaaGreatDoor
