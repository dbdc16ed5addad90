/- The texts DgB2, DgK2, DgM, in this order. -/
import Derived.Test.YtdibbemgpikgjaaGreatDoorW00
import Derived.Defers
import Derived.Laws.AppendOwnNone
import Derived.Laws.BitsAllLaws
import Derived.Laws.BytesArg
import Derived.Laws.Cover3
import Derived.Lib.AppendStr
import Derived.Lib.ByteType
import Derived.MapKept
import Derived.Recover
import Derived.Test.YtdibbemgpikgjaaGreatDoorProg
import Derived.Test.YtdibbemgpikgjaaGreatDoorW01
import Derived.Test.YtdibbemgpikgjaaGreatDoorW05
import Derived.Test.YtdibbemgpikgjaaGreatDoorW15
import Derived.Test.YtdibbemgpikgjaaGreatDoorW33
set_option maxRecDepth 10000
set_option maxHeartbeats 8000000
namespace Go.Proofs.YtdibbemgpikgjaaGreatDoor
open Go Go.RowKit Go.Shelf
attribute [local go_sem] Oper.semAt_some
theorem pR.cat {B n:Nat} {W0 wr w1:World} {b1 b2 bs:List UInt8} {v v':Value} (h:pR B W0 b1 v wr) (KY:b1++b2=bs) (hB:B≤W0.heap.size) (hn:n=bs.length) (hown:w1.ownsRow B 5 1 v' n (b1.map Extern.Stop.cell++b2.map Extern.Stop.cell)) (hg:wr.grownBy w1 v.ownBlock):pR B W0 bs v' w1:=by
 subst hn KY;have hs:=h.lo.size;have hz:=hg.size;rw [←List.map_append] at hown;exact ⟨hown,⟨hg.os.trans h.lo.os,hg.tape.trans h.lo.tape,hg.output.trans h.lo.output,by omega,fun k hk=>by
  rw [hg.block k (by omega) (eQ h.own k hk)];exact h.lo.block k hk⟩⟩
theorem DL (F:Fence) (n:Nat) (h7:F.fn 73) (hro:F.round=none) (hn:1≤n) (b1 b2 bs:List UInt8) (KY:b1++b2=bs) (hb1:0<b1.length) (hb2:0<b2.length) (hlen:bs.length≤1000000000) (W:World) (box pb a1 f1 c1 a2 f2 c2:Nat) (hbox:W.cell? ⟨box,0,none⟩=some (.slice (some ⟨pb,0,none⟩) 2 2)) (hp:W.cell? ⟨pb,0,none⟩=some (.slice (some ⟨a1,f1,none⟩) b1.length c1)) (hp2:W.cell? ⟨pb,1,none⟩=some (.slice (some ⟨a2,f2,none⟩) b2.length c2))
  (hlb:box<W.heap.size) (hlp:pb<W.heap.size) (hla1:a1<W.heap.size) (IC:∀j,j<b1.length→W.cell? ⟨a1,f1+j,none⟩=some (Extern.Stop.cell (b1[j]?.getD 0))) (Z5:a2<W.heap.size) (RV:∀j,j<b2.length→W.cell? ⟨a2,f2+j,none⟩=some (Extern.Stop.cell (b2[j]?.getD 0))):
  ug F n Tryz.prog 73 #[.pointer (some ⟨box,0,none⟩)] y7 Dz (fun xs=>xs.map (·.bs)=upto (chunk (nz bs)) ((nz bs).length / 64)) W:=by
 intro l J hl hJ hY h0;have HJ:=ae hJ;have HY:=ae hY;have HA1:=ae IC;have HA2:=ae RV;obtain ⟨N,hN⟩:∃N,bs.length=N:=⟨_,rfl⟩;obtain ⟨N1,hN1⟩:∃N,b1.length=N:=⟨_,rfl⟩;obtain ⟨N2,UD⟩:∃N,b2.length=N:=⟨_,rfl⟩;have hNN:N1+N2=N:=by rw [←hN,←hN1,←UD,←KY,aZ]
 rw [hN] at hlen;rw [hN1] at hp hb1;rw [UD] at hp2 hb2;have HN:=ae hN;have HN1:=ae hN1;have YA:=ae UD;have Dl:=ae hNN;have HCAT:=ae KY;have HP2:=ae hp2;have q1:N1≤1000000000:=by omega
 have q2:N2≤1000000000:=by omega
 have hb0:0<N:=by omega
 clear hJ hY IC RV hN hN1 UD hNN KY hp2;refine callsIn_of_wp Tryz.func73 rfl h7 ?_ hro;simp only [Tryz.ntmps73,List.size_toArray,List.length_cons,List.length_nil,Nat.reduceAdd,Nat.reduceSub,Array.replicate_succ,Array.replicate_zero,List.push_toArray,List.append_toArray,List.nil_append,List.cons_append];obtain ⟨i0,hi,hq0,hq1,hq2⟩:=info_parts kG
 gi_wp2
 gi_loopw [3,10] (fun m i wr=>(i= .int .i64 0∧m= .slice none 0 0∧wr=W)∨(∃g cap,i= .int .i64 1∧m= .slice (some ⟨g,0,none⟩) N1 cap∧pR W.heap.size W b1 m wr)∨(∃g cap,i= .int .i64 2∧m= .slice (some ⟨g,0,none⟩) N cap∧pR W.heap.size W bs m wr)) (fun _ i _=>(2 - intOf i).toNat)
 case atStart=>exact .inl ⟨rfl,rfl,rfl⟩
 case round=>
  rcases hrel with h|h|h
  ·obtain ⟨rfl,rfl,rfl⟩:=h;have hne:∀j u,(b1.map Extern.Stop.cell)[j]? =some u→wr.cell? ((⟨a1,f1,none⟩:Addr).add j)=some u:=fun j u hu=>by
    have hj:j<b1.length:=by have:=(gu.1 hu).1;simpa using this
    rw [Addr.add_mid,HA1.out j hj];rw [List.getElem?_map,dw hj] at hu;rw [dw hj];simpa using hu
   have Nv:=ae hne;clear hne
   gi_wp2_with (gi_at_builtin;refine wpListIn_append_own _ rfl _ _ 32 rfl wr.heap.size 5 i0 (.int .u8 0) 1 1 Tryz.underlying32 hi hq0 hq1 hq2 rfl (by omega) _ _ _ rfl (World.ownsRow_nil _ _ _ _) ⟨a1,f1,none⟩ N1 c1 (b1.map Extern.Stop.cell) rfl (by rw [List.length_map,HN1.out,Nat.mul_one]) Nv.out (nC b1) (by unfold maxLen;omega) (by omega) (Nat.le_refl _) ?_;intro v1 w1 hown1 hg1 _;rw [Nat.zero_add,List.nil_append] at hown1;obtain ⟨gg,cap,rfl,_⟩:=dE hown1 hb1;have GR:=ae hown1;have G8:=ae hg1;clear hown1 hg1)
   go_roundw
   case rel=>exact .inr (.inl ⟨gg,cap,by go_num,rfl,⟨by rw [HN1.out];exact GR.out,⟨G8.out.os,G8.out.tape,G8.out.output,G8.out.size,fun k hk=>G8.out.block k hk (fun e=>nomatch e)⟩⟩⟩)
   case measure=>simp [intOf]
  ·obtain ⟨g,cap,rfl,rfl,hm⟩:=h;have HM:=ae hm;have HO:Hid (wr.ownsRow W.heap.size 5 1 (.slice (some ⟨g,0,none⟩) N1 cap) N1 (b1.map Extern.Stop.cell)):=ae (by have h:=hm.own;rw [HN1.out] at h;exact h);have hge:=hm.lo.size;have p2:wr.cell? ⟨pb,1,none⟩=some (.slice (some ⟨a2,f2,none⟩) N2 c2):=(hm.lo.cell (p:=⟨pb,1,none⟩) hlp).trans HP2.out;have hne:∀j u,(b2.map Extern.Stop.cell)[j]? =some u→wr.cell? ((⟨a2,f2,none⟩:Addr).add j)=some u:=fun j u hu=>by
    have hj:j<b2.length:=by have:=(gu.1 hu).1;simpa using this
    rw [Addr.add_mid,(hm.lo.cell (p:=⟨a2,f2+j,none⟩) Z5),HA2.out j hj];rw [List.getElem?_map,dw hj] at hu;rw [dw hj];simpa using hu
   have Nv:=ae hne;clear hne hm
   gi_wp2_with (gi_at_builtin;refine wpListIn_append_own _ rfl _ _ 32 rfl W.heap.size 5 i0 (.int .u8 0) 1 1 Tryz.underlying32 hi hq0 hq1 hq2 rfl (by omega) (.slice (some ⟨g,0,none⟩) N1 cap) N1 (b1.map Extern.Stop.cell) rfl HO.out ⟨a2,f2,none⟩ N2 c2 (b2.map Extern.Stop.cell) rfl (by rw [List.length_map,YA.out,Nat.mul_one]) Nv.out (nC b2) (by have:=Dl.out;unfold maxLen;omega) (by have:=Dl.out;omega) (by omega) ?_;intro v1 w1 hown1 hg1 _;have hm1:pR W.heap.size W bs v1 w1:=HM.out.cat HCAT.out (Nat.le_refl _) (by rw [HN.out];exact Dl.out) hown1 hg1;rw [Dl.out] at hown1;obtain ⟨gg,cap1,rfl,_⟩:=dE hown1 hb0;have wY:=ae hm1;clear hown1 hg1 hm1)
   go_roundw
   case rel=>exact .inr (.inr ⟨gg,cap1,by go_num,rfl,wY.out⟩)
   case measure=>simp [intOf]
  ·obtain ⟨g,cap,rfl,rfl,hm⟩:=h;have HM:=ae hm;have HO:Hid (wr.ownsRow W.heap.size 5 1 (.slice (some ⟨g,0,none⟩) N cap) N (bs.map Extern.Stop.cell)):=ae (by have h:=hm.own;rw [HN.out] at h;exact h);have hge:=hm.lo.size;have xY:Hid (N+1=(bs++ [(128:UInt8)]).length):=ae (by rw [aZ,HN.out];rfl);have HL2:Hid (bs.map Extern.Stop.cell++ [Extern.Stop.cell 128]=(bs++ [(128:UInt8)]).map Extern.Stop.cell):=ae (by simp);clear hm
   gi_wp2_with (gi_at_builtin;refine wpListIn_append_own _ rfl _ _ 32 rfl W.heap.size 5 i0 (.int .u8 0) 1 1 Tryz.underlying32 hi hq0 hq1 hq2 rfl (by omega) (.slice (some ⟨g,0,none⟩) N cap) N (bs.map Extern.Stop.cell) rfl (HO.out.alloc _) ⟨wr.heap.size,0,none⟩ 1 1 [Extern.Stop.cell 128] rfl rfl (qK 128 _ rfl) (oL 128) (by unfold maxLen;omega) (by omega) (by first|(simp;done)|(simp;omega)) ?_;intro v1 w1 hown1 hg1 _;have hm1:pR W.heap.size W (bs++ [(128:UInt8)]) v1 w1:=HM.out.app (Nat.le_refl _) xY.out HL2.out hown1 hg1;obtain ⟨gg,cap1,rfl,_⟩:=dE hown1 (Nat.succ_pos _);have wY:=ae hm1;clear hown1 hg1 hm1)
   gi_loopw [3] (fun m wx=>∃z g cap q,z≤nX N∧q=N+1+z∧m= .slice (some ⟨g,0,none⟩) q cap∧pR W.heap.size W (iF bs z) m wx) (fun m _=>(N+1+nX N) - (match m with| .slice _ q _=>q|_=>0))
   case atStart=>exact ⟨0,gg,cap1,N+1,Nat.zero_le _,rfl,rfl,by have h:=wY.out;simpa [iF] using h⟩
   case round=>
    obtain ⟨z,g,cap,q,hz,hq,rfl,hm⟩:=hrel;have OL:=ae hm;have HQ:=ae hq;have hqb:q≤1000000200:=by have:nX N≤63:=OE N;omega
    have hge2:=hm.lo.size;have hlq:(iF bs z).length=q:=by rw [lN,HN.out,hq]
    have rC:Hid (wr.ownsRow W.heap.size 5 1 (.slice (some ⟨g,0,none⟩) q cap) q ((iF bs z).map Extern.Stop.cell)):=ae (by have h:=hm.own;rw [hlq] at h;exact h);clear hm wY HM HO xY HL2;by_cases hlt:z<nX N
    ·have h56:((q:Int)%64 !=56)=true:=by rw [Ah];exact decide_eq_true (by rw [hq];exact OG hlt)
     have xY:Hid (q+1=(iF bs z++ [(0:UInt8)]).length):=ae (by rw [aZ,hlq];rfl);have HL2:Hid ((iF bs z).map Extern.Stop.cell++ [Extern.Stop.cell 0]=(iF bs z++ [(0:UInt8)]).map Extern.Stop.cell):=ae (by simp);clear hq hlq
     gi_wp2_with (gi_at_builtin;refine wpListIn_append_own _ rfl _ _ 32 rfl W.heap.size 5 i0 (.int .u8 0) 1 1 Tryz.underlying32 hi hq0 hq1 hq2 rfl (by omega) (.slice (some ⟨g,0,none⟩) q cap) q ((iF bs z).map Extern.Stop.cell) rfl (rC.out.alloc _) ⟨wr.heap.size,0,none⟩ 1 1 [Extern.Stop.cell 0] rfl rfl (qK 0 _ rfl) (oL 0) (by unfold maxLen;omega) (by omega) (by first|(simp;done)|(simp;omega)) ?_;intro v2 w2 hown2 hg2 _;have hm2:pR W.heap.size W (iF bs z++ [(0:UInt8)]) v2 w2:=OL.out.app (Nat.le_refl _) xY.out HL2.out hown2 hg2;obtain ⟨g2,cap2,rfl,_⟩:=dE hown2 (Nat.succ_pos _);have HM3:=ae hm2;clear hown2 hg2 hm2)
     go_roundw
     case rel=>exact ⟨z+1,g2,cap2,q+1,hlt,by have:=HQ.out;omega,rfl,by rw [BX];exact HM3.out⟩
     case measure=>have:=HQ.out;show N+1+nX N - (q+1)<N+1+nX N - q;omega
    ·have hze:z=nX N:=by omega
     have h56:((q:Int)%64 !=56)=false:=by rw [Ah];exact decide_eq_false (by rw [hq,hze];have:=Aq N;omega)
     have OV:=ae hze;clear hq hze hlq hlt hz;obtain ⟨pm,hpm⟩:∃pm,iF bs (nX N)=pm:=⟨_,rfl⟩;have Nz:=ae hpm;have Dn:Hid (pm.length=q):=ae (by rw [←hpm,lN,HN.out];have:=HQ.out;have:=OV.out;omega);have sW:Hid (pR W.heap.size W pm (.slice (some ⟨g,0,none⟩) q cap) wr):=ae (by have h:=OL.out;rw [OV.out,hpm] at h;exact h);clear hpm OL rC
     gi_wp2_with fail
     gi_loopw [3,7] (fun m i wx=>∃j g cap r,j≤8∧r=q+j∧i= .int .i64 (56 - 8*(j:Int))∧m= .slice (some ⟨g,0,none⟩) r cap∧pR W.heap.size W (pm++upto (fun j=>byteOf ((8*(N:Int)) / 2 ^ (56 - 8*j))) j) m wx) (fun _ i _=>(intOf i+8).toNat)
     case atStart=>exact ⟨0,g,cap,q,Nat.zero_le _,rfl,by go_num,rfl,by have h:=sW.out;simpa [upto] using h⟩
     case round=>
      obtain ⟨j,g,cap,r,hj,hr,rfl,rfl,hm⟩:=hrel;have Yx:=ae hm;have HR:=ae hr;have ZX:=hm.lo.size;have hrb:r≤1000000300:=by omega
      obtain ⟨ms,hms⟩:∃ms,pm++upto (fun j=>byteOf ((8*(N:Int)) / 2 ^ (56 - 8*j))) j=ms:=⟨_,rfl⟩;have hml:ms.length=r:=by rw [←hms,aZ,Dn.out,upto_length,hr]
      rw [hms] at Yx hm;have HMS:=ae hms;have kL:Hid (wr.ownsRow W.heap.size 5 1 (.slice (some ⟨g,0,none⟩) r cap) r (ms.map Extern.Stop.cell)):=ae (by have h:=hm.own;rw [hml] at h;exact h);clear hm hr hms sW;by_cases hlt:j<8
      ·obtain ⟨s,hs⟩:∃s:Nat,56 - 8*j=s:=⟨_,rfl⟩;have hs2:56 - 8*(j:Int)=(s:Int):=by omega
       have hs0:(0:Int)≤(s:Int):=by omega
       have hs1:(s:Int)≤56:=by omega
       obtain ⟨y,hy⟩:∃y:Int,(8*(N:Int)) / 2 ^ s=y:=⟨_,rfl⟩;have xY:Hid (r+1=(ms++ [byteOf y]).length):=ae (by rw [aZ,hml];rfl);have HL2:Hid (ms.map Extern.Stop.cell++ [Extern.Stop.cell (byteOf y)]=(ms++ [byteOf y]).map Extern.Stop.cell):=ae (by simp);have XL:=ae hy;have su:=ae hs;have HS2:=ae hs2;have hby8:IntKind.u8.wrap y=y%256:=by rw [IntKind.wrap_u8]
       rw [hs2];clear hml hs hs2
       gi_wp2_with (gi_at_builtin;refine wpListIn_append_own _ rfl _ _ 32 rfl W.heap.size 5 i0 (.int .u8 0) 1 1 Tryz.underlying32 hi hq0 hq1 hq2 rfl (by omega) (.slice (some ⟨g,0,none⟩) r cap) r (ms.map Extern.Stop.cell) rfl (kL.out.alloc _) ⟨wr.heap.size,0,none⟩ 1 1 [Extern.Stop.cell (byteOf y)] rfl rfl (qK (byteOf y) _ (dK y).symm) (oL _) (by unfold maxLen;omega) (by omega) (by first|(simp;done)|(simp;omega)) ?_;intro v2 w2 hown2 hg2 _;have hm2:pR W.heap.size W (ms++ [byteOf y]) v2 w2:=Yx.out.app (Nat.le_refl _) xY.out HL2.out hown2 hg2;obtain ⟨g2,cap2,rfl,_⟩:=dE hown2 (Nat.succ_pos _);have Yy:=ae hm2;clear hown2 hg2 hm2)
       go_roundw
       case rel=>exact ⟨j+1,g2,cap2,r+1,hlt,by have:=HR.out;omega,by have:=HS2.out;congr 1;omega,rfl,by rw [upto_succ,←List.append_assoc,HMS.out,su.out,XL.out];exact Yy.out⟩
       case measure=>have:=HS2.out;simp [intOf];omega
      ·have ZY:j=8:=by omega
       have hs2:56 - 8*(j:Int)= -8:=by omega
       have Sl:ms=nz bs:=by
        rw [←HMS.out,ZY,←Nz.out];unfold nz Ja;rw [HN.out]
       have hT:r=q+8:=by have:=HR.out;omega
       obtain ⟨k,hk⟩:∃k,r=64*k:=⟨r / 64,by have h1:=Aq N;have h2:=HQ.out;have h3:=OV.out;omega⟩;have YU:=ae hk;have kK:=ae Sl;have U2:=ae hml;have Qi:Hid (∀i,i<r→wr.cell? ⟨g,i,none⟩=some (Extern.Stop.cell (ms[i]?.getD 0))):=ae fun i hi=>by
        have h:=kL.out.cells (g:=g) rfl i (Extern.Stop.cell (ms[i]?.getD 0)) (by rw [List.getElem?_map,dw (by omega)];rfl);rw [addr_add] at h;exact h
       have hcap:r≤cap∧cap≤9223372036854775807:=by
        rcases kL.out.2 with ⟨h1,_⟩|⟨g',cap',cur,h1,_,_,h2,h3,_⟩
        ·cases h1
        ·injection h1 with _ _ h1;subst h1;exact ⟨h2,by unfold maxLen at h3;omega⟩
       have hgl:=LQ kL.out g rfl;have hgw:W.heap.size≤g:=by
        rcases kL.out.2 with ⟨h1,_⟩|⟨g',cap',cur,h1,h2,_⟩
        ·cases h1
        ·injection h1 with h1 _ _;injection h1 with h1;injection h1 with h1;omega
       have HJ0:Hid (J [] wr):=ae (HJ.out _ _ _ h0 Yx.out.lo);rw [hs2];clear hs2 ZY Sl hT hml
       gi_wp2_with fail
       gi_loopw [3] (fun m wx=>∃i a q cc o xs,i≤k∧q=64*(k - i)∧o=64*i∧m= .slice a q cc∧xs.map (·.bs)=upto (chunk ms) i∧J xs wx∧JU W g r ms wx∧(i<k→a=some ⟨g,o,none⟩∧q≤cc∧cc≤9223372036854775807)) (fun m _=>match m with| .slice _ q _=>q|_=>0)
       case atStart=>exact ⟨0,some ⟨g,0,none⟩,r,cap,0,[],Nat.zero_le _,by rw [hk];rfl,rfl,rfl,rfl,HJ0.out,⟨hgl,hgw,ZX,Qi.out⟩,fun _=>⟨rfl,hcap.1,hcap.2⟩⟩
       case round=>
        obtain ⟨i,a,q,cc,o,xs,hi,hq,ho,rfl,hxs,hjx,hbk,hlast⟩:=hrel;have G6:=ae hbk;have uY:=ae hxs;have Yt:=ae hjx;clear hbk hxs hjx;by_cases hlt:i<k
        ·obtain ⟨rfl,hqc,hcm⟩:=hlast hlt;have hq64:64≤q:=by omega
         have hxe:Dz ⟨g,o,cc,chunk ms i⟩ wr:=G6.out.el i o cc (chunk ms i) ho (by have:=YU.out;omega) rfl U2.out;obtain ⟨fn,tmps,assign,body,hy,hR⟩:=HY.out xs ⟨g,o,cc,chunk ms i⟩ wr Yt.out G6.out.ge hxe;dsimp only [y7] at hy;have hq0:(0:Int)<(q:Int):=by omega
         have YE:=ae hq;have qA:=ae ho;clear hq ho hlast hxe
         gi_wp2_with fail
         refine hR.mono ?_;rintro e W3 ⟨rfl,hJ3,hk3⟩;have HJ3:=ae hJ3;have HB3:=ae (G6.out.keep hk3);have yV:Hid ((xs++ [(⟨g,o,cc,chunk ms i⟩:Nq)]).map (·.bs)=upto (chunk ms) (i+1)):=ae (by rw [List.map_append,uY.out,upto_succ];rfl);clear hJ3 hk3 hy hR Yt G6;by_cases hcc:cc=64
         ·have zY:=ae hcc;have hqe:q=64:=by omega
          have hke:i+1=k:=by have:=YE.out;omega
          have AB:=ae hke;subst hcc;subst hqe;clear hke
          gi_wp2_with fail
          go_roundw
          case rel=>exact ⟨i+1,_,0,_,64*(i+1),_,by omega,by have:=AB.out;omega,rfl,rfl,yV.out,HJ3.out,HB3.out,fun h=>by have:=AB.out;omega⟩
          case measure=>simp
         ·have hc64:64<cc:=by omega
          gi_wp2_with fail
          go_roundw
          case rel=>exact ⟨i+1,_,q - 64,cc - 64,o+64,_,hlt,by have:=YE.out;omega,by have:=qA.out;omega,rfl,yV.out,HJ3.out,HB3.out,fun _=>⟨rfl,by omega,by omega⟩⟩
          case measure=>simp;omega
        ·have hie:i=k:=by omega
         have hq0:q=0:=by omega
         have HIE:=ae hie;subst hq0;clear hie hlast
         gi_wp2_with fail
         go_end0
         refine ⟨⟨_,rfl⟩,xs,?_,Yt.out⟩;rw [uY.out,HIE.out,←kK.out,U2.out,YU.out,Nat.mul_div_cancel_left _ (by decide)]
end Go.Proofs.YtdibbemgpikgjaaGreatDoor
namespace Go.Proofs.YtdibbemgpikgjaaGreatDoor
open Go Go.RowKit Go.Shelf
attribute [local go_sem] Oper.semAt_some
theorem Ez (KR:List Int) (hK:KR.length=64) (w:World) (hG:fH w 0 (au KR)) (b1 b2 bs:List UInt8) (KY:b1++b2=bs) (hb1:0<b1.length) (hb2:0<b2.length) (hlen:bs.length≤1000000000) (pb a1 f1 c1 a2 f2 c2:Nat) (hp:w.cell? ⟨pb,0,none⟩=some (.slice (some ⟨a1,f1,none⟩) b1.length c1)) (hp2:w.cell? ⟨pb,1,none⟩=some (.slice (some ⟨a2,f2,none⟩) b2.length c2)) (hlp:pb<w.heap.size) (hla1:a1<w.heap.size) (Z5:a2<w.heap.size)
  (IC:∀j,j<b1.length→w.cell? ⟨a1,f1+j,none⟩=some (Extern.Stop.cell (b1[j]?.getD 0))) (RV:∀j,j<b2.length→w.cell? ⟨a2,f2+j,none⟩=some (Extern.Stop.cell (b2[j]?.getD 0))):
  Calls Tryz.prog 31 #[.slice (some ⟨pb,0,none⟩) 2 2] w fun e w'=>e= .returned (.agg (cellsB (jU KR bs)))∧Below w.heap.size w w':=by
 refine (callsIn_wide (n:=3)).1 ?_;have hro:Fence.wide.round=none:=rfl;have h1:1≤3:=by omega
 have HK:=ae hK;have HG:=ae hG;have HBY1:=ae IC;have HBY2:=ae RV;have HP:=ae hp;have HP2:=ae hp2;clear hK hG IC RV hp hp2;refine callsIn_of_wp_marks Tryz.func31 rfl trivial ?_ hro;simp only [Tryz.ntmps31,List.size_toArray,List.length_cons,List.length_nil,Nat.reduceAdd,Nat.reduceSub,Array.replicate_succ,Array.replicate_zero,List.push_toArray,List.append_toArray,List.nil_append,List.cons_append]
 gi_wp2_with (first
  |(refine fQ rfl _ rfl (cellsB z32) iw ?_)
  |(refine fQ rfl _ rfl (au (List.replicate 8 0)) lq ?_;refine jr rfl 118 _ _ rfl (w.alloc (.cells (cellsB z32) 23)).heap.size (au oh) rfl rfl 118 (au (List.replicate 8 0)) (heap_alloc_last _ _) (by kernel_rfl) rfl (bH _) ?_)
  |(refine ⟨trivial,?_⟩;gi_at_call 50;refine (Bq _ _ _ _).mono ?_;rintro e w3 ⟨rfl,hw3⟩;obtain ⟨hs3,hz3,RU⟩:=BI (KR:=KR) ⟨_,rfl⟩ hw3;have jV:=ae hs3;have yV:=ae RU;have HZ3:=ae hz3;clear hw3 hs3 RU hz3))
 have hseq:∀W,Below w3.heap.size w3 W→ug Fence.wide (3 - 1) Tryz.prog 73 #[.pointer (some ⟨w.heap.size+1+1,0,none⟩)] y7 Dz (fun xs=>xs.map (·.bs)=upto (chunk (nz bs)) ((nz bs).length / 64)) W:=fun W hW=>by
  have hz:=HZ3.out;have hsz:=hW.size;have hlo:=jV.out.lo;have kc:∀(p:Addr),p.block<w.heap.size→W.cell? p=w.cell? p:=fun p hp=>((hW.mono (by omega)).cell (p:=p) hp).trans (hlo.cell (p:=p) hp);exact DL Fence.wide 2 trivial rfl (by omega) b1 b2 bs KY hb1 hb2 hlen W (w.heap.size+1+1) pb a1 f1 c1 a2 f2 c2 ((hW.cell (p:=⟨w.heap.size+2,0,none⟩) (by show w.heap.size+2<w3.heap.size;omega)).trans yV.out)
   ((kc ⟨pb,0,none⟩ hlp).trans HP.out) ((kc ⟨pb,1,none⟩ hlp).trans HP2.out) (by omega) (by omega) (by omega) (fun j hj=>(kc ⟨a1,f1+j,none⟩ hla1).trans (HBY1.out j hj)) (by omega) (fun j hj=>(kc ⟨a2,f2+j,none⟩ Z5).trans (HBY2.out j hj))
 have YL:=ae hseq;clear hseq;refine qY hro h1 (gf:=73) (lb:= #[.pointer (some ⟨w.heap.size+1+1,0,none⟩)]) rfl trivial (enters_of Tryz.func73 (by kernel_rfl) rfl) YL.out (fun _=>rfl)
  (fun (xs:List Nq) W=>Ee w KR (xs.map (fun x:Nq=>x.bs)) W) (fun xs A B h hb=>h.grow (hb.mono (by rw [HZ3.out];exact Nat.le_refl _))) jV.out
  (fun x=> {tmps:= #[.slice (some ⟨pb,0,none⟩) 2 2,undef, .pointer (some ⟨w.heap.size,0,none⟩), .pointer (some ⟨w.heap.size+1,0,none⟩),PK x,undef,undef, .agg (au oh), .slice (some ⟨pb,0,none⟩) 2 2, .func (.func 73) #[] #[.pointer (some ⟨w.heap.size+1+1,0,none⟩)],PK x,undef,undef,undef,undef,undef,undef,undef,undef,undef,undef,undef,undef,undef,undef,undef,undef,undef,undef,undef],defers:= []})
  (fun x A l o o' h1 h2 h3=>h1.put h2 h3) ?assign ?body ?done
 case assign=>
  intro l x W K hK;unfold y7
  gi_wp2
  exact hK
 case body=>
  intro l pre x W hI hsz hx;have hGW:fH W 0 (au KR):=⟨dQ HG.out.1 hI.lo.size,fun i=>(hI.lo.cell (p:=⟨0,i,none⟩) HG.out.1).trans (HG.out.2 i)⟩;have HC:Hid (Calls Tryz.prog 51 #[.pointer (some ⟨w.heap.size+1,0,none⟩),PK x] W fun e w'=>e= .returned (.tuple #[])∧AV (w.heap.size+1) 118 (au (Bi KR (qN KR oh (pre.map (fun x:Nq=>x.bs))) x.bs)) w'∧NK (w.heap.size+1) W w'):=
   ae (add_any KR HK.out W hGW (w.heap.size+1) x.b x.off x.cap (qN KR oh (pre.map (fun x:Nq=>x.bs))) x.bs (oG _ _ _ rfl) hI.st hx.len hx.lt hx.at_)
  have HI:=ae hI;clear hGW hI hx
  gi_wp2_with (refine ⟨trivial,?_⟩;gi_at_call 51;refine (CallsIn.inRound l (callsIn_wide.2 HC.out)).mono ?_;rintro e W2 ⟨rfl,hav,hkp⟩)
  have hl:=HI.out.lo;have hz3:=HZ3.out;refine ⟨⟨⟨(hkp.block _ (by have:=hl.size;omega) (by omega)).trans HI.out.res.var⟩,?_,⟨hkp.os.trans hl.os,hkp.tape.trans hl.tape,hkp.output.trans hl.output,Nat.le_trans hl.size hkp.size,fun k hk=>(hkp.block k (by have:=hl.size;omega) (by omega)).trans (hl.block k hk)⟩⟩,⟨hkp.size,fun k h1 h2=>hkp.block k h2 (by omega)⟩⟩;rw [wB];exact hav
 case done=>
  intro D xs W hD hS hI hD0;rw [hS] at hI;obtain ⟨st,hst⟩:∃st,qN KR oh (upto (chunk (nz bs)) ((nz bs).length / 64))=st:=⟨_,rfl⟩;have hsl:st.length=8:=by rw [←hst];exact oG _ _ _ rfl
  have hI2:AV (w.heap.size+1) 118 (au st) W:=by rw [←hst];exact hI.st
  have HI:=ae hI;have HI2:=ae hI2;have HD0:=ae hD0;have HST:=ae hst;have Ux:=ae hsl;clear hI hI2 hD0 hst hsl hS;have uJ:=ae (AV.new W (cellsB (eH st 0)) 23);have HB0:=ae (ag W (.cells (cellsB (eH st 0)) 23));have aac:=HI2.out.lt;have hdl:D<W.heap.size:=(bT.1 HD0.out).1
  gi_wp2_with (refine fQ rfl _ rfl (cellsB z32) iw ?_)
  gi_loopw [13] (fun i wx=>∃k:Nat,k≤32∧i= .int .i64 (k:Int)∧AV W.heap.size 23 (cellsB (eH st k)) wx∧Below W.heap.size W wx) (fun i _=>32 - (intOf i).toNat)
  case atStart=>exact ⟨0,Nat.zero_le _,rfl,uJ.out,HB0.out⟩
  case round=>
   obtain ⟨k,hk,rfl,hd,hb⟩:=hrel;have QB:=ae hd;have yS:=ae hb;have JW:=ae (rU st k);clear hd hb uJ HB0;by_cases hlt:k<32
   ·have i1:(k:Int)<32:=by omega
    obtain ⟨q4,hq4⟩:∃q:Nat,k / 4=q:=⟨_,rfl⟩;obtain ⟨r4,hr4⟩:∃q:Nat,k%4=q:=⟨_,rfl⟩;obtain ⟨s4,hs4⟩:∃q:Nat,24 - 8*r4=q:=⟨_,rfl⟩;obtain ⟨v,hv⟩:∃v,st[q4]?.getD 0=v:=⟨_,rfl⟩;have cs:wr.cell? ⟨w.heap.size+1,q4,none⟩=some (.int .u32 v):=((yS.out.cell (p:=⟨w.heap.size+1,q4,none⟩) aac).trans (HI2.out.cell q4)).trans (by rw [bU _ _ (by rw [Ux.out];omega),hv]);have cd:wr.cell? ⟨W.heap.size,k,none⟩=some (Extern.Stop.cell ((eH st k)[k]?.getD 0)):=(QB.out.cell k).trans (kP _ _ (by rw [JW.out];exact hlt));have cf:=QB.out.dV k;obtain ⟨y,hy⟩:∃y,v / 2 ^ s4=y:=⟨_,rfl⟩;have g4:(k:Int) / 4=(q4:Int):=by omega
    have g5:(k:Int)%4=(r4:Int):=by omega
    have g6:24 - 8*(r4:Int)=(s4:Int):=by omega
    have b4:(q4:Int)<8:=by omega
    have b5:(r4:Int)<4:=by omega
    have b6:(s4:Int)≤24:=by omega
    have hw8:IntKind.u8.wrap y=y%256:=by rw [IntKind.wrap_u8]
    have HN:Hid (AV W.heap.size 23 (cellsB (eH st (k+1))) (wr.setCell ⟨W.heap.size,k,none⟩ (.int .u8 (y%256)))):=ae (by
     have h:=QB.out.put k (Extern.Stop.cell (byteOf y));rw [rG,dK] at h;have e:eH st (k+1)=(eH st k).set k (byteOf y):=by
      show (eH st k).set k (byteOf ((st[k / 4]?.getD 0) / 2 ^ (24 - 8*(k%4))))=_;rw [hq4,hr4,hs4,hv,hy]
     rw [e];exact h)
    clear hq4 hr4 hs4 hv
    gi_wp2_with fail
    go_roundw
    case rel=>exact ⟨k+1,by omega,by go_num,HN.out,yS.out.setCell (p:=⟨W.heap.size,k,none⟩) (Nat.le_refl _) _⟩
    case measure=>simp [intOf];omega
   ·have AB:Hid (k=32):=ae (by omega);have i1:¬(k:Int)<32:=by omega
    have i2:((k:Int)<32)=False:=by simp;omega
    have HRW:Hid (fH wr W.heap.size (cellsB (eH st k))):=ae ⟨QB.out.lt,QB.out.cell⟩;have ed:Hid ((Tryz.prog.info? 23).map (·.size)=some (cellsB (eH st k)).size):=ae (by rw [bV,JW.out];kernel_rfl);have tq:Hid ((cellsB z32).size=(cellsB (eH st k)).size):=ae (by rw [bV,bV,JW.out];rfl);have Qm:Hid (wr.heap[w.heap.size]? =some (.cells (cellsB z32) 23 (0,0))):=ae ((yS.out.block _ (by omega)).trans HI.out.res.var);have Qz:Hid ((wr.setRow w.heap.size (cellsB (eH st k))).heap[D]? =some (.deferred (some []))):=ae ((setRow_other _ _ _ _ (by have:=HZ3.out;omega)).trans ((yS.out.block _ hdl).trans HD0.out));clear hlt
    gi_wp2_with (first
     |(refine rf rfl _ _ rfl W.heap.size rfl (cellsB (eH st k)) HRW.out _ Tryz.underlying23 rfl ed.out ?_;refine jr rfl _ _ _ rfl w.heap.size (cellsB (eH st k)) rfl rfl 23 (cellsB z32) Qm.out ed.out tq.out (jD _) ?_))
    have hz3:=HZ3.out;have hlo:=HI.out.lo;refine ⟨by simp, .inl ⟨_,_,rfl,run_takeDeferred Qz.out,?_⟩⟩;refine ⟨_,results_cell_row rfl _ _ w.heap.size _ (cellsB (eH st k)) (0,0) _ rfl ((World.putObj_heap_other (by omega)).trans (setRow_heap _ _ _ _ _ _ Qm.out)) Tryz.underlying23 rfl ed.out,?_⟩;refine ⟨?_,(aB (hlo.trans (yS.out.mono hlo.size)) (Nat.le_refl _) _).trans (qJ (by omega))⟩;rw [AB.out,←HST.out];rfl
end Go.Proofs.YtdibbemgpikgjaaGreatDoor
namespace Go.Proofs.YtdibbemgpikgjaaGreatDoor
open Go Go.RowKit
def xb (m:Int) (x:UInt8):UInt8:=byteOf (bits BinOp.xor IntKind.u8 x.toNat m)
def jk (m:Int) (bs:List UInt8):Nat→List UInt8
 |0=>bs
 |k+1=>(jk m bs k).set k (xb m (bs[k]?.getD 0))
theorem oJ (m:Int) (bs:List UInt8) (k:Nat):(jk m bs k).length=bs.length:=by
 induction k with
 |zero=>rfl
 |succ k ih=>simp [jk,ih]
theorem ES (m:Int) (bs:List UInt8) (k:Nat):∀j,k≤j→(jk m bs k)[j]? =bs[j]? :=by
 induction k with
 |zero=>exact fun _ _=>rfl
 |succ k ih=>
  intro j hj;show ((jk m bs k).set k _)[j]? =_;rw [List.getElem?_set_ne (by omega),ih j (by omega)]
def fK (key:List UInt8):List UInt8:=key++List.replicate 32 0
def nS (KR:List Int) (key bs:List UInt8):List UInt8:=jU KR (jk 92 (fK key) 64++jU KR (jk 54 (fK key) 64++bs))
theorem qg (KR:List Int) (key bs:List UInt8):(nS KR key bs).length=32:=gZ _ _
theorem u8_xor (x:UInt8) (m:Int):0≤bits BinOp.xor IntKind.u8 x.toNat m∧bits BinOp.xor IntKind.u8 x.toNat m<256:=by
 unfold bits;simp only [IntKind.wrap,IntKind.bits,IntKind.signed];constructor
 ·exact Int.emod_nonneg _ (by decide)
 ·exact Int.emod_lt_of_pos _ (by decide)
theorem Ox (m:Int) (x:UInt8):Extern.Stop.cell (xb m x)= .int .u8 (bits BinOp.xor IntKind.u8 x.toNat m):=by
 obtain ⟨h1,h2⟩:=u8_xor x m;unfold xb;rw [dK];congr 1;omega
theorem GM:(Tryz.prog.info? 82).map (fun i=>(i.zero,i.size))=some (some (.agg (cellsB (List.replicate 64 0))),(cellsB (List.replicate 64 0)).size):=by kernel_rfl
structure Ad (w:World) (key xs ys:List UInt8) (W:World):Prop where
 kv:AV w.heap.size 23 (cellsB key) W
 res:AV (w.heap.size+1) 23 (cellsB z32) W
 a:AV (w.heap.size+2) 82 (cellsB xs) W
 b:AV (w.heap.size+3) 82 (cellsB ys) W
 lo:Below w.heap.size w W
theorem Ad.below {w W W':World} {key xs ys:List UInt8} (h:Ad w key xs ys W) (hb:Below W.heap.size W W'):Ad w key xs ys W':=⟨h.kv.below hb,h.res.below hb,h.a.below hb,h.b.below hb,ah h.lo hb⟩
theorem Ad.lt {w W:World} {key xs ys:List UInt8} (h:Ad w key xs ys W):w.heap.size+3<W.heap.size:=h.b.lt
theorem AV.kC {b c:Nat} {t:TypeId} {cs ds:Array Value} {W:World} (h:AV b t cs W) (hn:b≠c):AV b t cs (W.setRow c ds):=⟨(setRow_other _ _ b _ hn).trans h.var⟩
theorem AV.Ol {b:Nat} {t:TypeId} {cs ds:Array Value} {W:World} (h:AV b t cs W):AV b t ds (W.setRow b ds):=⟨setRow_heap _ _ _ _ _ _ h.var⟩
theorem Ad.setA {w W:World} {key xs ys:List UInt8} (h:Ad w key xs ys W) (zs:List UInt8):Ad w key zs ys (W.setRow (w.heap.size+2) (cellsB zs)):=
 ⟨h.kv.kC (by omega),h.res.kC (by omega),h.a.Ol,h.b.kC (by omega),aB h.lo (by omega) _⟩
theorem Ad.setB {w W:World} {key xs ys:List UInt8} (h:Ad w key xs ys W) (zs:List UInt8):Ad w key xs zs (W.setRow (w.heap.size+3) (cellsB zs)):=
 ⟨h.kv.kC (by omega),h.res.kC (by omega),h.a.kC (by omega),h.b.Ol,aB h.lo (by omega) _⟩
theorem Ad.drew {w W:World} {key xs ys:List UInt8} (h:Ad w key xs ys W):Ad w key xs ys W.drew:=⟨h.kv.drew,h.res.drew,h.a.drew,h.b.drew,h.lo.drew⟩
theorem Ad.putA {w W:World} {key xs ys:List UInt8} (h:Ad w key xs ys W) (o:Nat) (x:UInt8):Ad w key (xs.set o x) ys (W.setCell ⟨w.heap.size+2,o,none⟩ (Extern.Stop.cell x)):=
 ⟨h.kv.far (by omega) _ _,h.res.far (by omega) _ _,by have:=h.a.put o (Extern.Stop.cell x);rwa [rG] at this,h.b.far (by omega) _ _,h.lo.setCell (p:=⟨w.heap.size+2,o,none⟩) (by show w.heap.size≤w.heap.size+2;omega) _⟩
theorem Ad.putB {w W:World} {key xs ys:List UInt8} (h:Ad w key xs ys W) (o:Nat) (x:UInt8):Ad w key xs (ys.set o x) (W.setCell ⟨w.heap.size+3,o,none⟩ (Extern.Stop.cell x)):=
 ⟨h.kv.far (by omega) _ _,h.res.far (by omega) _ _,h.a.far (by omega) _ _,by have:=h.b.put o (Extern.Stop.cell x);rwa [rG] at this,h.lo.setCell (p:=⟨w.heap.size+3,o,none⟩) (by show w.heap.size≤w.heap.size+3;omega) _⟩
theorem Pn (w:World) (key:List UInt8):Ad w key (List.replicate 64 0) (List.replicate 64 0) ((((w.alloc (.cells (cellsB key) 23)).alloc (.cells (cellsB z32) 23)).alloc (.cells (cellsB (List.replicate 64 0)) 82)).alloc (.cells (cellsB (List.replicate 64 0)) 82)):=by
 obtain ⟨W1,h1⟩:∃W,w.alloc (.cells (cellsB key) 23)=W:=⟨_,rfl⟩;have a1:=AV.new w (cellsB key) 23;have b1:=ag w (.cells (cellsB key) 23);have s1:W1.heap.size=w.heap.size+1:=by rw [←h1];simp
 rw [h1] at a1 b1 ⊢;obtain ⟨W2,h2⟩:∃W,W1.alloc (.cells (cellsB z32) 23)=W:=⟨_,rfl⟩;have a2:=AV.new W1 (cellsB z32) 23;have b2:=ag W1 (.cells (cellsB z32) 23);have s2:W2.heap.size=w.heap.size+2:=by rw [←h2];simp [s1]
 rw [h2] at a2 b2 ⊢;rw [s1] at a2;obtain ⟨W3,h3⟩:∃W,W2.alloc (.cells (cellsB (List.replicate 64 0)) 82)=W:=⟨_,rfl⟩;have a3:=AV.new W2 (cellsB (List.replicate 64 0)) 82;have b3:=ag W2 (.cells (cellsB (List.replicate 64 0)) 82);have s3:W3.heap.size=w.heap.size+3:=by rw [←h3];simp [s2]
 rw [h3] at a3 b3 ⊢;rw [s2] at a3;have a4:=AV.new W3 (cellsB (List.replicate 64 0)) 82;have b4:=ag W3 (.cells (cellsB (List.replicate 64 0)) 82);rw [s3] at a4;exact ⟨((a1.below b2).below b3).below b4,(a2.below b3).below b4,a3.below b4,a4,ah (ah (ah b1 b2) b3) b4⟩
theorem LW (key:List UInt8) (h:key.length=32):cellsB (fK key)=(splice (cellsB (List.replicate 64 0)).toList 0 (aj key)).toArray:=by
 unfold splice cellsB fK;simp [aj,h]
theorem BN (KR:List Int) (hK:KR.length=64) (w:World) (hG:fH w 0 (au KR)) (key bs:List UInt8) (hk:key.length=32) (hb0:0<bs.length) (hlen:bs.length≤900000000) (ab off c:Nat) (hla:ab<w.heap.size) (hby:∀j,j<bs.length→w.cell? ⟨ab,off+j,none⟩=some (Extern.Stop.cell (bs[j]?.getD 0))):
  Calls Tryz.prog 10 #[.agg (cellsB key), .slice (some ⟨ab,off,none⟩) bs.length c] w (Gives (.agg (cellsB (nS KR key bs))) w):=by
 have uV:=ae (Pn w key);have HK:=ae hK;have HG:=ae hG;have oP:=ae hk;have wX:=ae hby;obtain ⟨N,hN⟩:∃N,bs.length=N:=⟨_,rfl⟩;rw [hN] at hb0 hlen ⊢;have HN:=ae hN;clear hK hG hk hby hN;go_enter Tryz.func10,Tryz.ntmps10;go_wp2_with (first
  |(refine aG rfl _ rfl (cellsB z32) iw ?_)
  |(refine aG rfl _ rfl (cellsB (List.replicate 64 0)) GM ?_))
 simp only [World.size_alloc,Nat.add_assoc,Nat.reduceAdd];generalize (((w.alloc (.cells (cellsB key) 23)).alloc (.cells (cellsB z32) 23)).alloc (.cells (cellsB (List.replicate 64 0)) 82)).alloc (.cells (cellsB (List.replicate 64 0)) 82)=W0 at uV ⊢;have hl0:=uV.out.lt;have lY:Hid (∀j u,(aj key)[j]? =some u→W0.drew.cell? ((⟨w.heap.size,0,none⟩:Addr).add j)=some u):=ae fun j u hu=>by
  rw [addr_add];exact (uV.out.kv.cell j).trans (by simpa [cellsB] using hu)
 have HC2:Hid ((aj key).length=32):=ae (by simp [aj,oP.out]);have sO:Hid ((cellsB (List.replicate 64 0)).size=64):=ae (by rw [bV];rfl);have sV:=ae (LW key oP.out)
 go_region_law (refine vS (by rfl) _ _ _ _ (by rfl) 5 Tryz.underlying32 (by kernel_rfl) (w.heap.size+2) 0 64 64 ⟨w.heap.size,0,none⟩ 32 32 (by rfl) (by rfl) (cellsB (List.replicate 64 0)) 82 uV.out.a.drew.var (aj key) (by rw [HC2.out];rfl) lY.out (by rw [HC2.out,sO.out];decide) (IZ key) (cellsB (fK key)) sV.out ?_)
 have iP:=ae (uV.out.drew.setA (fK key));generalize W0.drew.setRow (w.heap.size+2) (cellsB (fK key))=W1 at iP ⊢;have hl1:=iP.out.lt;have Dn:Hid ((fK key).length=64):=ae (by simp [fK,oP.out]);have HS64:Hid (∀zs:List UInt8,zs.length=64→(Tryz.prog.info? 82).map (·.size)=some (cellsB zs).size):=ae fun zs hz=>by rw [bV,hz];kernel_rfl
 have JY:Hid (fH W1 (w.heap.size+2) (cellsB (fK key))):=ae ⟨by omega,iP.out.a.cell⟩;have tq:Hid ((cellsB (List.replicate 64 0)).size=(cellsB (fK key)).size):=ae (by rw [bV,bV,Dn.out];rfl);have HS2:=ae (iP.out.setB (fK key));clear lY HC2 sO sV hl0;go_wp2_with (first
  |(with_reducible refine dY 82 ?_;refine aQ rfl _ _ rfl (w.heap.size+2) rfl (cellsB (fK key)) JY.out _ Tryz.underlying82 rfl (HS64.out _ Dn.out) ?_)
  |(with_reducible refine bW 82 ?_;refine wpList_store_row rfl _ _ _ rfl (w.heap.size+3) (cellsB (fK key)) rfl rfl 82 (cellsB (List.replicate 64 0)) iP.out.b.var (HS64.out _ Dn.out) tq.out (jD _) ?_))
 go_loopw [13] (fun i wr=>∃k:Nat,k≤64∧i= .int .i64 (k:Int)∧Ad w key (jk 54 (fK key) k) (jk 92 (fK key) k) wr) (fun i _=>64 - (intOf i).toNat)
 case atStart=>exact ⟨0,Nat.zero_le _,rfl,HS2.out⟩
 case round=>
  obtain ⟨k,hk,rfl,hs⟩:=hrel;have HS:=ae hs;have hl:=hs.lt;clear hs iP HS2 hl1 JY tq;by_cases hlt:k<64
  ·have i0:(0:Int)≤(k:Int):=by omega
   have i1:(k:Int)<64:=by omega
   obtain ⟨x,hx⟩:∃x,(fK key)[k]?.getD 0=x:=⟨_,rfl⟩;have hxa:(jk 54 (fK key) k)[k]?.getD 0=x:=by rw [ES _ _ _ _ (Nat.le_refl _),hx]
   have hxb:(jk 92 (fK key) k)[k]?.getD 0=x:=by rw [ES _ _ _ _ (Nat.le_refl _),hx]
   have ca:wr.cell? ⟨w.heap.size+2,k,none⟩=some (Extern.Stop.cell x):=(HS.out.a.cell k).trans (by rw [kP _ _ (by rw [oJ,Dn.out];exact hlt),hxa]);have cb:wr.cell? ⟨w.heap.size+3,k,none⟩=some (Extern.Stop.cell x):=(HS.out.b.cell k).trans (by rw [kP _ _ (by rw [oJ,Dn.out];exact hlt),hxb]);have fa:=HS.out.a.dV k;have fb:=HS.out.b.dV k;have HN3:Hid (Ad w key (jk 54 (fK key) (k+1)) (jk 92 (fK key) (k+1)) ((wr.setCell ⟨w.heap.size+2,k,none⟩ (Extern.Stop.cell (xb 54 x))).setCell ⟨w.heap.size+3,k,none⟩ (Extern.Stop.cell (xb 92 x)))):=ae (by
    have h:=(HS.out.putA k (xb 54 x)).putB k (xb 92 x);have e1:jk 54 (fK key) (k+1)=(jk 54 (fK key) k).set k (xb 54 x):=by show (jk 54 (fK key) k).set k (xb 54 ((fK key)[k]?.getD 0))=_;rw [hx]
    have e2:jk 92 (fK key) (k+1)=(jk 92 (fK key) k).set k (xb 92 x):=by show (jk 92 (fK key) k).set k (xb 92 ((fK key)[k]?.getD 0))=_;rw [hx]
    rw [e1,e2];exact h)
   rw [Ox 54 x,Ox 92 x] at HN3;simp only [Extern.Stop.cell] at ca cb;clear hx hxa hxb;go_wp2_with fail;go_roundw
   case rel=>exact ⟨k+1,by omega,by go_num,HN3.out⟩
   case measure=>simp [intOf];omega
  ·have Lc:k=64:=by omega
   have i1:¬(k:Int)<64:=by omega
   obtain ⟨A,hA⟩:∃A,jk 54 (fK key) 64=A:=⟨_,rfl⟩;obtain ⟨B,hB⟩:∃B,jk 92 (fK key) 64=B:=⟨_,rfl⟩;have hAl:A.length=64:=by rw [←hA,oJ,Dn.out]
   have hBl:B.length=64:=by rw [←hB,oJ,Dn.out]
   have hS:=HS.out;rw [Lc,hA,hB] at hS;have su:=ae hS;have HAB:Hid (nS KR key bs=jU KR (B++jU KR (A++bs))):=ae (by unfold nS;rw [hA,hB]);have hlo:=hS.lo;obtain ⟨W2,hW2⟩:∃W,wr.alloc (.cells #[.slice (some ⟨w.heap.size+2,0,none⟩) 64 64, .slice (some ⟨ab,off,none⟩) N c] 32)=W:=⟨_,rfl⟩;have hb2:Below wr.heap.size wr W2:=by rw [←hW2];exact ag wr _
   have hr2:W2.heap[wr.heap.size]? =some (.cells #[.slice (some ⟨w.heap.size+2,0,none⟩) 64 64, .slice (some ⟨ab,off,none⟩) N c] 32 (0,0)):=by rw [←hW2];exact heap_alloc_last wr _
   have hsz2:W2.heap.size=wr.heap.size+1:=by rw [←hW2];simp
   have hlow2:Below w.heap.size w W2:=ah hlo hb2;have hG2:fH W2 0 (au KR):=⟨dQ HG.out.1 hlow2.size,fun i=>(hlow2.cell (p:=⟨0,i,none⟩) HG.out.1).trans (HG.out.2 i)⟩;have HC:Hid (Calls Tryz.prog 31 #[.slice (some ⟨wr.heap.size,0,none⟩) 2 2] W2 fun e w'=>e= .returned (.agg (cellsB (jU KR (A++bs))))∧Below W2.heap.size W2 w'):=
    ae (Ez KR HK.out W2 hG2 A bs (A++bs) rfl (by omega) (by rw [HN.out];exact hb0) (by rw [aZ,hAl,HN.out];omega) wr.heap.size (w.heap.size+2) 0 64 ab off c
     ((cell_of_row W2 _ 0 _ _ _ hr2).trans (by rw [hAl];rfl)) ((cell_of_row W2 _ 1 _ _ _ hr2).trans (by rw [HN.out];rfl)) (by omega) (by omega) (by omega)
     (fun j hj=>(hb2.cell (p:=⟨w.heap.size+2,0+j,none⟩) (by show w.heap.size+2<wr.heap.size;omega)).trans ((hS.a.cell (0+j)).trans (by rw [Nat.zero_add,kP _ _ hj])))
     (fun j hj=>(hlow2.cell (p:=⟨ab,off+j,none⟩) hla).trans (wX.out j hj)))
   have HS2:=ae (hS.below hb2);have HW2:=ae hW2;have Xm:=ae hAl;have yS:=ae hBl;have ni:=ae hsz2;clear hb2 hr2 hsz2 hlow2 hG2 hS hlo hW2 hA hB hAl hBl Lc hlt;go_wp2_with fail;rw [HW2.out];refine HC.out.mono ?_;rintro e W3 ⟨rfl,hb3⟩;have jV:=ae (HS2.out.below hb3);obtain ⟨D1,hD1⟩:∃D,jU KR (A++bs)=D:=⟨_,rfl⟩;have hDl:D1.length=32:=by rw [←hD1];exact gZ _ _
   rw [hD1];have HD1:=ae hD1;have Us:=ae hDl;have YO:Hid (∀zs:List UInt8,zs.length=32→(Tryz.prog.info? 23).map (·.size)=some (cellsB zs).size):=ae fun zs hz=>by rw [bV,hz];kernel_rfl
   have HSOD:Hid (∀zs:List UInt8,zs.length=32→(cellsB z32).size=(cellsB zs).size):=ae fun zs hz=>by rw [bV,bV,hz];rfl
   have HA3:=ae (heap_alloc_last W3 (.cells (cellsB z32) 23));have HB3a:=ae (ag W3 (.cells (cellsB z32) 23));have hl3:=jV.out.lt;clear hb3 hD1 hDl HC HW2;go_wp2_with (first
    |(refine aG rfl _ rfl (cellsB z32) iw ?_)
    |(with_reducible refine bW 23 ?_;refine wpList_store_row rfl _ _ _ rfl W3.heap.size (cellsB D1) rfl rfl 23 (cellsB z32) HA3.out (YO.out _ Us.out) (HSOD.out _ Us.out) (jD _) ?_))
   have hS4:Ad w key A B ((W3.alloc (.cells (cellsB z32) 23)).setRow W3.heap.size (cellsB D1)):=by
    have h:=jV.out.below HB3a.out;exact ⟨h.kv.kC (by omega),h.res.kC (by omega),h.a.kC (by omega),h.b.kC (by omega),aB h.lo (by omega) _⟩
   have hd4:AV W3.heap.size 23 (cellsB D1) ((W3.alloc (.cells (cellsB z32) 23)).setRow W3.heap.size (cellsB D1)):=⟨setRow_heap _ _ _ _ _ _ HA3.out⟩;have hz4:((W3.alloc (.cells (cellsB z32) 23)).setRow W3.heap.size (cellsB D1)).heap.size=W3.heap.size+1:=by simp [World.setRow]
   generalize (W3.alloc (.cells (cellsB z32) 23)).setRow W3.heap.size (cellsB D1)=W4 at hS4 hd4 hz4 ⊢;obtain ⟨W5,hW5⟩:∃W,(W4.alloc (.cells #[.slice (some ⟨w.heap.size+3,0,none⟩) 64 64, .slice (some ⟨W3.heap.size,0,none⟩) 32 32] 32)).drew=W:=⟨_,rfl⟩;have hb5:Below W4.heap.size W4 W5:=by rw [←hW5];exact (ag W4 _).drew
   have uO:W5.heap[W4.heap.size]? =some (.cells #[.slice (some ⟨w.heap.size+3,0,none⟩) 64 64, .slice (some ⟨W3.heap.size,0,none⟩) 32 32] 32 (0,0)):=by rw [←hW5];exact heap_alloc_last W4 _
   have hsz5:W5.heap.size=W4.heap.size+1:=by rw [←hW5];simp
   have hS5:=hS4.below hb5;have hd5:=hd4.below hb5;have hG5:fH W5 0 (au KR):=⟨dQ HG.out.1 hS5.lo.size,fun i=>(hS5.lo.cell (p:=⟨0,i,none⟩) HG.out.1).trans (HG.out.2 i)⟩;have zX:Hid (Calls Tryz.prog 31 #[.slice (some ⟨W4.heap.size,0,none⟩) 2 2] W5 fun e w'=>e= .returned (.agg (cellsB (jU KR (B++D1))))∧Below W5.heap.size W5 w'):=
    ae (Ez KR HK.out W5 hG5 B D1 (B++D1) rfl (by rw [yS.out];decide) (by rw [Us.out];decide) (by rw [aZ,yS.out,Us.out];decide) W4.heap.size (w.heap.size+3) 0 64 W3.heap.size 0 32
     ((cell_of_row W5 _ 0 _ _ _ uO).trans (by rw [yS.out];rfl)) ((cell_of_row W5 _ 1 _ _ _ uO).trans (by rw [Us.out];rfl)) (by omega) (by omega) (by omega)
     (fun j hj=>(hS5.b.cell (0+j)).trans (by rw [Nat.zero_add,kP _ _ hj]))
     (fun j hj=>(hd5.cell (0+j)).trans (by rw [Nat.zero_add,kP _ _ hj])))
   have sZ:=ae hS5;have HW5:=ae hW5;clear hb5 uO hsz5 hG5 hS5 hd5 hW5 hS4 hd4 HA3 HB3a hz4;go_still_tail 2,(by kernel_rfl);go_wp2_with fail;rw [HW5.out];refine zX.out.mono ?_;rintro e W6 ⟨rfl,hb6⟩;have JZ:=ae (sZ.out.below hb6);have hE:jU KR (B++D1)=nS KR key bs:=by rw [HAB.out,HD1.out]
   rw [hE];have U2:=ae (qg KR key bs);clear hb6 hE;go_wp2_with (with_reducible refine bW 23 ?_;refine wpList_store_row rfl _ _ _ rfl (w.heap.size+1) (cellsB (nS KR key bs)) rfl rfl 23 (cellsB z32) JZ.out.res.var (YO.out _ U2.out) (HSOD.out _ U2.out) (jD _) ?_);refine bodyPost_ret (v:= .agg (cellsB (nS KR key bs))) (results_cell_row rfl _ _ (w.heap.size+1) _ (cellsB (nS KR key bs)) (0,0) _ rfl (setRow_heap _ _ _ _ _ _ JZ.out.res.var) Tryz.underlying23 rfl (YO.out _ U2.out)) rfl ?_;exact ⟨rfl,aB JZ.out.lo (Nat.le_succ _) _⟩
end Go.Proofs.YtdibbemgpikgjaaGreatDoor
