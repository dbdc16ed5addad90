/- The texts DgB2, DgK2, in this order. -/
import Derived.Test.YtdibbemgpikgjaaGreatDoorV00
import Derived.Defers
import Derived.Laws.AppendOwnNone
import Derived.Laws.BitsAllLaws
import Derived.Laws.BytesArg
import Derived.Laws.Cover3
import Derived.Lib.AppendStr
import Derived.Lib.ByteType
import Derived.MapKept
import Derived.Recover
import Derived.Test.YtdibbemgpikgjaaGreatDoorV29
namespace Go.Proofs.YtdibbemgpikgjaaGreatDoor
open Go Go.RowKit Go.Shelf
attribute [local go_sem] Oper.semAt_some
theorem oG.cat {B n:Nat} {W0 wr w1:World} {b1 b2 bs:List UInt8} {v v':Value} (h:oG B W0 b1 v wr) (Jo:b1++b2=bs) (hB:B≤W0.heap.size) (hn:n=bs.length) (hown:w1.ownsRow B 5 1 v' n (b1.map Extern.Stop.cell++b2.map Extern.Stop.cell)) (hg:wr.grownBy w1 v.ownBlock):oG B W0 bs v' w1:=by
 subst hn Jo
 have hs:=h.lo.size
 have hz:=hg.size
 rw [←List.map_append] at hown
 exact ⟨hown,⟨hg.os.trans h.lo.os,hg.tape.trans h.lo.tape,hg.output.trans h.lo.output,by omega,fun k hk=>by
  rw [hg.block k (by omega) (dN h.own k hk)]
  exact h.lo.block k hk⟩⟩
set_option maxRecDepth 100000 in
set_option maxHeartbeats 1000000 in
theorem BJ (F:Fence) (n:Nat) (h7:F.fn 73) (hro:F.round=none) (hn:1≤n) (b1 b2 bs:List UInt8) (Jo:b1++b2=bs) (hb1:0<b1.length) (hb2:0<b2.length) (hlen:bs.length≤1000000000) (W:World) (box pb a1 f1 c1 a2 f2 c2:Nat) (hbox:W.cell? ⟨box,0,none⟩=some (.slice (some ⟨pb,0,none⟩) 2 2)) (hp:W.cell? ⟨pb,0,none⟩=some (.slice (some ⟨a1,f1,none⟩) b1.length c1)) (hp2:W.cell? ⟨pb,1,none⟩=some (.slice (some ⟨a2,f2,none⟩) b2.length c2))
  (hlb:box<W.heap.size) (hlp:pb<W.heap.size) (hla1:a1<W.heap.size) (Gw:∀j,j<b1.length→W.cell? ⟨a1,f1+j,none⟩=some (Extern.Stop.cell (b1[j]?.getD 0))) (XK:a2<W.heap.size) (P6:∀j,j<b2.length→W.cell? ⟨a2,f2+j,none⟩=some (Extern.Stop.cell (b2[j]?.getD 0))):
  rV F n Tryz.prog 73 #[.pointer (some ⟨box,0,none⟩)] xK BB (fun xs=>xs.map (·.bs)=upto (chunk (qZ bs)) ((qZ bs).length / 64)) W:=by
 intro l J hl hJ hY h0
 have HJ:=ae hJ
 have HY:=ae hY
 have HA1:=ae Gw
 have HA2:=ae P6
 obtain ⟨N,hN⟩:∃N,bs.length=N:=⟨_,rfl⟩
 obtain ⟨N1,hN1⟩:∃N,b1.length=N:=⟨_,rfl⟩
 obtain ⟨N2,RG⟩:∃N,b2.length=N:=⟨_,rfl⟩
 have hNN:N1+N2=N:=by rw [←hN,←hN1,←RG,←Jo,List.length_append]
 rw [hN] at hlen
 rw [hN1] at hp hb1
 rw [RG] at hp2 hb2
 have HN:=ae hN
 have Yw:=ae hN1
 have HN2:=ae RG
 have Ik:=ae hNN
 have HCAT:=ae Jo
 have HP2:=ae hp2
 have q1:N1≤1000000000:=by omega
 have q2:N2≤1000000000:=by omega
 have hb0:0<N:=by omega
 clear hJ hY Gw P6 hN hN1 RG hNN Jo hp2
 refine callsIn_of_wp Tryz.func73 rfl h7 ?_ hro
 simp only [Tryz.ntmps73,List.size_toArray,List.length_cons,List.length_nil,Nat.reduceAdd,Nat.reduceSub,Array.replicate_succ,Array.replicate_zero,List.push_toArray,List.append_toArray,List.nil_append,List.cons_append]
 obtain ⟨i0,hi,hq0,hq1,hq2⟩:=info_parts qB
 gi_wp2
 gi_loopw [3,10] (fun m i wr=>(i= .int .i64 0∧m= .slice none 0 0∧wr=W)∨(∃g cap,i= .int .i64 1∧m= .slice (some ⟨g,0,none⟩) N1 cap∧oG W.heap.size W b1 m wr)∨(∃g cap,i= .int .i64 2∧m= .slice (some ⟨g,0,none⟩) N cap∧oG W.heap.size W bs m wr)) (fun _ i _=>(2 - intOf i).toNat)
 case atStart=>exact .inl ⟨rfl,rfl,rfl⟩
 case round=>
  rcases hrel with h|h|h
  ·obtain ⟨rfl,rfl,rfl⟩:=h
   have hne:∀j u,(b1.map Extern.Stop.cell)[j]? =some u→wr.cell? ((⟨a1,f1,none⟩:Addr).add j)=some u:=fun j u hu=>by
    have hj:j<b1.length:=by have:=(List.getElem?_eq_some_iff.1 hu).1;simpa using this
    rw [Addr.add_mid,HA1.out j hj]
    rw [List.getElem?_map,List.getElem?_eq_getElem hj] at hu
    rw [List.getElem?_eq_getElem hj]
    simpa using hu
   have KJ:=ae hne
   clear hne
   gi_wp2_with (gi_at_builtin;refine wpListIn_append_own _ rfl _ _ 32 rfl wr.heap.size 5 i0 (.int .u8 0) 1 1 Tryz.underlying32 hi hq0 hq1 hq2 rfl (by omega) _ _ _ rfl (World.ownsRow_nil _ _ _ _) ⟨a1,f1,none⟩ N1 c1 (b1.map Extern.Stop.cell) rfl (by rw [List.length_map,Yw.out,Nat.mul_one]) KJ.out (mr b1) (by unfold maxLen;omega) (by omega) (Nat.le_refl _) ?_;intro v1 w1 hown1 hg1 _;rw [Nat.zero_add,List.nil_append] at hown1;obtain ⟨gg,cap,rfl,_⟩:=dw hown1 hb1;have IB:=ae hown1;have Fv:=ae hg1;clear hown1 hg1)
   go_roundw
   case rel=>exact .inr (.inl ⟨gg,cap,by go_num,rfl,⟨by rw [Yw.out];exact IB.out,⟨Fv.out.os,Fv.out.tape,Fv.out.output,Fv.out.size,fun k hk=>Fv.out.block k hk (fun e=>nomatch e)⟩⟩⟩)
   case measure=>simp [intOf]
  ·obtain ⟨g,cap,rfl,rfl,hm⟩:=h
   have HM:=ae hm
   have HO:Hid (wr.ownsRow W.heap.size 5 1 (.slice (some ⟨g,0,none⟩) N1 cap) N1 (b1.map Extern.Stop.cell)):=ae (by have h:=hm.own;rw [Yw.out] at h;exact h)
   have hge:=hm.lo.size
   have p2:wr.cell? ⟨pb,1,none⟩=some (.slice (some ⟨a2,f2,none⟩) N2 c2):=(hm.lo.cell (p:=⟨pb,1,none⟩) hlp).trans HP2.out
   have hne:∀j u,(b2.map Extern.Stop.cell)[j]? =some u→wr.cell? ((⟨a2,f2,none⟩:Addr).add j)=some u:=fun j u hu=>by
    have hj:j<b2.length:=by have:=(List.getElem?_eq_some_iff.1 hu).1;simpa using this
    rw [Addr.add_mid,(hm.lo.cell (p:=⟨a2,f2+j,none⟩) XK),HA2.out j hj]
    rw [List.getElem?_map,List.getElem?_eq_getElem hj] at hu
    rw [List.getElem?_eq_getElem hj]
    simpa using hu
   have KJ:=ae hne
   clear hne hm
   gi_wp2_with (gi_at_builtin;refine wpListIn_append_own _ rfl _ _ 32 rfl W.heap.size 5 i0 (.int .u8 0) 1 1 Tryz.underlying32 hi hq0 hq1 hq2 rfl (by omega) (.slice (some ⟨g,0,none⟩) N1 cap) N1 (b1.map Extern.Stop.cell) rfl HO.out ⟨a2,f2,none⟩ N2 c2 (b2.map Extern.Stop.cell) rfl (by rw [List.length_map,HN2.out,Nat.mul_one]) KJ.out (mr b2) (by have:=Ik.out;unfold maxLen;omega) (by have:=Ik.out;omega) (by omega) ?_;intro v1 w1 hown1 hg1 _;have hm1:oG W.heap.size W bs v1 w1:=HM.out.cat HCAT.out (Nat.le_refl _) (by rw [HN.out];exact Ik.out) hown1 hg1;rw [Ik.out] at hown1;obtain ⟨gg,cap1,rfl,_⟩:=dw hown1 hb0;have uD:=ae hm1;clear hown1 hg1 hm1)
   go_roundw
   case rel=>exact .inr (.inr ⟨gg,cap1,by go_num,rfl,uD.out⟩)
   case measure=>simp [intOf]
  ·obtain ⟨g,cap,rfl,rfl,hm⟩:=h
   have HM:=ae hm
   have HO:Hid (wr.ownsRow W.heap.size 5 1 (.slice (some ⟨g,0,none⟩) N cap) N (bs.map Extern.Stop.cell)):=ae (by have h:=hm.own;rw [HN.out] at h;exact h)
   have hge:=hm.lo.size
   have Ci:Hid (N+1=(bs++ [(128:UInt8)]).length):=ae (by rw [List.length_append,HN.out];rfl)
   have HL2:Hid (bs.map Extern.Stop.cell++ [Extern.Stop.cell 128]=(bs++ [(128:UInt8)]).map Extern.Stop.cell):=ae (by simp)
   clear hm
   gi_wp2_with (gi_at_builtin;refine wpListIn_append_own _ rfl _ _ 32 rfl W.heap.size 5 i0 (.int .u8 0) 1 1 Tryz.underlying32 hi hq0 hq1 hq2 rfl (by omega) (.slice (some ⟨g,0,none⟩) N cap) N (bs.map Extern.Stop.cell) rfl (HO.out.alloc _) ⟨wr.heap.size,0,none⟩ 1 1 [Extern.Stop.cell 128] rfl rfl (pJ 128 _ rfl) (nI 128) (by unfold maxLen;omega) (by omega) (by first|(simp;done)|(simp;omega)) ?_;intro v1 w1 hown1 hg1 _;have hm1:oG W.heap.size W (bs++ [(128:UInt8)]) v1 w1:=HM.out.app (Nat.le_refl _) Ci.out HL2.out hown1 hg1;obtain ⟨gg,cap1,rfl,_⟩:=dw hown1 (Nat.succ_pos _);have uD:=ae hm1;clear hown1 hg1 hm1)
   gi_loopw [3] (fun m wx=>∃z g cap q,z≤oC N∧q=N+1+z∧m= .slice (some ⟨g,0,none⟩) q cap∧oG W.heap.size W (iG bs z) m wx) (fun m _=>(N+1+oC N) - (match m with| .slice _ q _=>q|_=>0))
   case atStart=>exact ⟨0,gg,cap1,N+1,Nat.zero_le _,rfl,rfl,by have h:=uD.out;simpa [iG] using h⟩
   case round=>
    obtain ⟨z,g,cap,q,hz,hq,rfl,hm⟩:=hrel
    have Rn:=ae hm
    have HQ:=ae hq
    have hqb:q≤1000000200:=by have:oC N≤63:=Mc N;omega
    have hge2:=hm.lo.size
    have hlq:(iG bs z).length=q:=by rw [nz,HN.out,hq]
    have vk:Hid (wr.ownsRow W.heap.size 5 1 (.slice (some ⟨g,0,none⟩) q cap) q ((iG bs z).map Extern.Stop.cell)):=ae (by have h:=hm.own;rw [hlq] at h;exact h)
    clear hm uD HM HO Ci HL2
    by_cases hlt:z<oC N
    ·have h56:((q:Int)%64 !=56)=true:=by rw [yZ];exact decide_eq_true (by rw [hq];exact Md hlt)
     have Ci:Hid (q+1=(iG bs z++ [(0:UInt8)]).length):=ae (by rw [List.length_append,hlq];rfl)
     have HL2:Hid ((iG bs z).map Extern.Stop.cell++ [Extern.Stop.cell 0]=(iG bs z++ [(0:UInt8)]).map Extern.Stop.cell):=ae (by simp)
     clear hq hlq
     gi_wp2_with (gi_at_builtin;refine wpListIn_append_own _ rfl _ _ 32 rfl W.heap.size 5 i0 (.int .u8 0) 1 1 Tryz.underlying32 hi hq0 hq1 hq2 rfl (by omega) (.slice (some ⟨g,0,none⟩) q cap) q ((iG bs z).map Extern.Stop.cell) rfl (vk.out.alloc _) ⟨wr.heap.size,0,none⟩ 1 1 [Extern.Stop.cell 0] rfl rfl (pJ 0 _ rfl) (nI 0) (by unfold maxLen;omega) (by omega) (by first|(simp;done)|(simp;omega)) ?_;intro v2 w2 hown2 hg2 _;have hm2:oG W.heap.size W (iG bs z++ [(0:UInt8)]) v2 w2:=Rn.out.app (Nat.le_refl _) Ci.out HL2.out hown2 hg2;obtain ⟨g2,cap2,rfl,_⟩:=dw hown2 (Nat.succ_pos _);have Yv:=ae hm2;clear hown2 hg2 hm2)
     go_roundw
     case rel=>exact ⟨z+1,g2,cap2,q+1,hlt,by have:=HQ.out;omega,rfl,by rw [Ak];exact Yv.out⟩
     case measure=>have:=HQ.out;show N+1+oC N - (q+1)<N+1+oC N - q;omega
    ·have hze:z=oC N:=by omega
     have h56:((q:Int)%64 !=56)=false:=by rw [yZ];exact decide_eq_false (by rw [hq,hze];have:=zh N;omega)
     have Ou:=ae hze
     clear hq hze hlq hlt hz
     obtain ⟨pm,hpm⟩:∃pm,iG bs (oC N)=pm:=⟨_,rfl⟩
     have Rq:=ae hpm
     have OO:Hid (pm.length=q):=ae (by rw [←hpm,nz,HN.out];have:=HQ.out;have:=Ou.out;omega)
     have rq:Hid (oG W.heap.size W pm (.slice (some ⟨g,0,none⟩) q cap) wr):=ae (by have h:=Rn.out;rw [Ou.out,hpm] at h;exact h)
     clear hpm Rn vk
     gi_wp2_with fail
     gi_loopw [3,7] (fun m i wx=>∃j g cap r,j≤8∧r=q+j∧i= .int .i64 (56 - 8*(j:Int))∧m= .slice (some ⟨g,0,none⟩) r cap∧oG W.heap.size W (pm++upto (fun j=>byteOf ((8*(N:Int)) / 2 ^ (56 - 8*j))) j) m wx) (fun _ i _=>(intOf i+8).toNat)
     case atStart=>exact ⟨0,g,cap,q,Nat.zero_le _,rfl,by go_num,rfl,by have h:=rq.out;simpa [upto] using h⟩
     case round=>
      obtain ⟨j,g,cap,r,hj,hr,rfl,rfl,hm⟩:=hrel
      have V4:=ae hm
      have HR:=ae hr
      have XI:=hm.lo.size
      have hrb:r≤1000000300:=by omega
      obtain ⟨ms,hms⟩:∃ms,pm++upto (fun j=>byteOf ((8*(N:Int)) / 2 ^ (56 - 8*j))) j=ms:=⟨_,rfl⟩
      have hml:ms.length=r:=by rw [←hms,List.length_append,OO.out,upto_length,hr]
      rw [hms] at V4 hm
      have ZR:=ae hms
      have kT:Hid (wr.ownsRow W.heap.size 5 1 (.slice (some ⟨g,0,none⟩) r cap) r (ms.map Extern.Stop.cell)):=ae (by have h:=hm.own;rw [hml] at h;exact h)
      clear hm hr hms rq
      by_cases hlt:j<8
      ·obtain ⟨s,hs⟩:∃s:Nat,56 - 8*j=s:=⟨_,rfl⟩
       have hs2:56 - 8*(j:Int)=(s:Int):=by omega
       have hs0:(0:Int)≤(s:Int):=by omega
       have hs1:(s:Int)≤56:=by omega
       obtain ⟨y,hy⟩:∃y:Int,(8*(N:Int)) / 2 ^ s=y:=⟨_,rfl⟩
       have Ci:Hid (r+1=(ms++ [byteOf y]).length):=ae (by rw [List.length_append,hml];rfl)
       have HL2:Hid (ms.map Extern.Stop.cell++ [Extern.Stop.cell (byteOf y)]=(ms++ [byteOf y]).map Extern.Stop.cell):=ae (by simp)
       have Vd:=ae hy
       have rM:=ae hs
       have HS2:=ae hs2
       have hby8:IntKind.u8.wrap y=y%256:=by rw [IntKind.wrap_u8]
       rw [hs2]
       clear hml hs hs2
       gi_wp2_with (gi_at_builtin;refine wpListIn_append_own _ rfl _ _ 32 rfl W.heap.size 5 i0 (.int .u8 0) 1 1 Tryz.underlying32 hi hq0 hq1 hq2 rfl (by omega) (.slice (some ⟨g,0,none⟩) r cap) r (ms.map Extern.Stop.cell) rfl (kT.out.alloc _) ⟨wr.heap.size,0,none⟩ 1 1 [Extern.Stop.cell (byteOf y)] rfl rfl (pJ (byteOf y) _ (iF y).symm) (nI _) (by unfold maxLen;omega) (by omega) (by first|(simp;done)|(simp;omega)) ?_;intro v2 w2 hown2 hg2 _;have hm2:oG W.heap.size W (ms++ [byteOf y]) v2 w2:=V4.out.app (Nat.le_refl _) Ci.out HL2.out hown2 hg2;obtain ⟨g2,cap2,rfl,_⟩:=dw hown2 (Nat.succ_pos _);have V6:=ae hm2;clear hown2 hg2 hm2)
       go_roundw
       case rel=>exact ⟨j+1,g2,cap2,r+1,hlt,by have:=HR.out;omega,by have:=HS2.out;congr 1;omega,rfl,by rw [upto_succ,←List.append_assoc,ZR.out,rM.out,Vd.out];exact V6.out⟩
       case measure=>have:=HS2.out;simp [intOf];omega
      ·have hj8:j=8:=by omega
       have hs2:56 - 8*(j:Int)= -8:=by omega
       have Qa:ms=qZ bs:=by
        rw [←ZR.out,hj8,←Rq.out]
        unfold qZ QH
        rw [HN.out]
       have hT:r=q+8:=by have:=HR.out;omega
       obtain ⟨k,hk⟩:∃k,r=64*k:=⟨r / 64,by have h1:=zh N;have h2:=HQ.out;have h3:=Ou.out;omega⟩
       have WA:=ae hk
       have jw:=ae Qa
       have Sm:=ae hml
       have Fa:Hid (∀i,i<r→wr.cell? ⟨g,i,none⟩=some (Extern.Stop.cell (ms[i]?.getD 0))):=ae fun i hi=>by
        have h:=kT.out.cells (g:=g) rfl i (Extern.Stop.cell (ms[i]?.getD 0)) (by rw [List.getElem?_map,List.getElem?_eq_getElem (by omega)];rfl)
        rw [addr_add] at h
        exact h
       have hcap:r≤cap∧cap≤9223372036854775807:=by
        rcases kT.out.2 with ⟨h1,_⟩|⟨g',cap',cur,h1,_,_,h2,h3,_⟩
        ·cases h1
        ·injection h1 with _ _ h1;subst h1;exact ⟨h2,by unfold maxLen at h3;omega⟩
       have hgl:=JL kT.out g rfl
       have hgw:W.heap.size≤g:=by
        rcases kT.out.2 with ⟨h1,_⟩|⟨g',cap',cur,h1,h2,_⟩
        ·cases h1
        ·injection h1 with h1 _ _;injection h1 with h1;injection h1 with h1;omega
       have HJ0:Hid (J [] wr):=ae (HJ.out _ _ _ h0 V4.out.lo)
       rw [hs2]
       clear hs2 hj8 Qa hT hml
       gi_wp2_with fail
       gi_loopw [3] (fun m wx=>∃i a q cc o xs,i≤k∧q=64*(k - i)∧o=64*i∧m= .slice a q cc∧xs.map (·.bs)=upto (chunk ms) i∧J xs wx∧Iz W g r ms wx∧(i<k→a=some ⟨g,o,none⟩∧q≤cc∧cc≤9223372036854775807)) (fun m _=>match m with| .slice _ q _=>q|_=>0)
       case atStart=>exact ⟨0,some ⟨g,0,none⟩,r,cap,0,[],Nat.zero_le _,by rw [hk];rfl,rfl,rfl,rfl,HJ0.out,⟨hgl,hgw,XI,Fa.out⟩,fun _=>⟨rfl,hcap.1,hcap.2⟩⟩
       case round=>
        obtain ⟨i,a,q,cc,o,xs,hi,hq,ho,rfl,hxs,hjx,hbk,hlast⟩:=hrel
        have Fj:=ae hbk
        have vw:=ae hxs
        have VY:=ae hjx
        clear hbk hxs hjx
        by_cases hlt:i<k
        ·obtain ⟨rfl,hqc,hcm⟩:=hlast hlt
         have hq64:64≤q:=by omega
         have hxe:BB ⟨g,o,cc,chunk ms i⟩ wr:=Fj.out.el i o cc (chunk ms i) ho (by have:=WA.out;omega) rfl Sm.out
         obtain ⟨fn,tmps,assign,body,hy,hR⟩:=HY.out xs ⟨g,o,cc,chunk ms i⟩ wr VY.out Fj.out.ge hxe
         dsimp only [xK] at hy
         have hq0:(0:Int)<(q:Int):=by omega
         have We:=ae hq
         have qY:=ae ho
         clear hq ho hlast hxe
         gi_wp2_with fail
         refine hR.mono ?_
         rintro e W3 ⟨rfl,hJ3,hk3⟩
         have ZC:=ae hJ3
         have HB3:=ae (Fj.out.keep hk3)
         have wE:Hid ((xs++ [(⟨g,o,cc,chunk ms i⟩:KH)]).map (·.bs)=upto (chunk ms) (i+1)):=ae (by rw [List.map_append,vw.out,upto_succ];rfl)
         clear hJ3 hk3 hy hR VY Fj
         by_cases hcc:cc=64
         ·have yQ:=ae hcc
          have hqe:q=64:=by omega
          have hke:i+1=k:=by have:=We.out;omega
          have BD:=ae hke
          subst hcc
          subst hqe
          clear hke
          gi_wp2_with fail
          go_roundw
          case rel=>exact ⟨i+1,_,0,_,64*(i+1),_,by omega,by have:=BD.out;omega,rfl,rfl,wE.out,ZC.out,HB3.out,fun h=>by have:=BD.out;omega⟩
          case measure=>simp
         ·have hc64:64<cc:=by omega
          gi_wp2_with fail
          go_roundw
          case rel=>exact ⟨i+1,_,q - 64,cc - 64,o+64,_,hlt,by have:=We.out;omega,by have:=qY.out;omega,rfl,wE.out,ZC.out,HB3.out,fun _=>⟨rfl,by omega,by omega⟩⟩
          case measure=>simp;omega
        ·have hie:i=k:=by omega
         have hq0:q=0:=by omega
         have HIE:=ae hie
         subst hq0
         clear hie hlast
         gi_wp2_with fail
         go_end0
         refine ⟨⟨_,rfl⟩,xs,?_,VY.out⟩
         rw [vw.out,HIE.out,←jw.out,Sm.out,WA.out,Nat.mul_div_cancel_left _ (by decide)]
end Go.Proofs.YtdibbemgpikgjaaGreatDoor
namespace Go.Proofs.YtdibbemgpikgjaaGreatDoor
open Go Go.RowKit Go.Shelf
attribute [local go_sem] Oper.semAt_some
set_option maxRecDepth 100000 in
set_option maxHeartbeats 2000000 in
theorem Dh (KR:List Int) (hK:KR.length=64) (w:World) (hG:fA w 0 (aA KR)) (b1 b2 bs:List UInt8) (Jo:b1++b2=bs) (hb1:0<b1.length) (hb2:0<b2.length) (hlen:bs.length≤1000000000) (pb a1 f1 c1 a2 f2 c2:Nat) (hp:w.cell? ⟨pb,0,none⟩=some (.slice (some ⟨a1,f1,none⟩) b1.length c1)) (hp2:w.cell? ⟨pb,1,none⟩=some (.slice (some ⟨a2,f2,none⟩) b2.length c2)) (hlp:pb<w.heap.size) (hla1:a1<w.heap.size) (XK:a2<w.heap.size)
  (Gw:∀j,j<b1.length→w.cell? ⟨a1,f1+j,none⟩=some (Extern.Stop.cell (b1[j]?.getD 0))) (P6:∀j,j<b2.length→w.cell? ⟨a2,f2+j,none⟩=some (Extern.Stop.cell (b2[j]?.getD 0))):
  Calls Tryz.prog 31 #[.slice (some ⟨pb,0,none⟩) 2 2] w fun e w'=>e= .returned (.agg (cellsB (lI KR bs)))∧Below w.heap.size w w':=by
 refine (callsIn_wide (n:=3)).1 ?_
 have hro:Fence.wide.round=none:=rfl
 have h1:1≤3:=by omega
 have HK:=ae hK
 have HG:=ae hG
 have HBY1:=ae Gw
 have OC:=ae P6
 have HP:=ae hp
 have HP2:=ae hp2
 clear hK hG Gw P6 hp hp2
 refine callsIn_of_wp_marks Tryz.func31 rfl trivial ?_ hro
 simp only [Tryz.ntmps31,List.size_toArray,List.length_cons,List.length_nil,Nat.reduceAdd,Nat.reduceSub,Array.replicate_succ,Array.replicate_zero,List.push_toArray,List.append_toArray,List.nil_append,List.cons_append]
 gi_wp2_with (first
  |(refine eQ rfl _ rfl (cellsB z32) gB ?_)
  |(refine eQ rfl _ rfl (aA (List.replicate 8 0)) kH ?_;refine iY rfl 118 _ _ rfl (w.alloc (.cells (cellsB z32) 23)).heap.size (aA oq) rfl rfl 118 (aA (List.replicate 8 0)) (heap_alloc_last _ _) (by kernel_rfl) rfl (dD _) ?_)
  |(refine ⟨trivial,?_⟩;gi_at_call 50;refine (zK _ _ _ _).mono ?_;rintro e w3 ⟨rfl,hw3⟩;obtain ⟨hs3,hz3,P5⟩:=zV (KR:=KR) ⟨_,rfl⟩ hw3;have jy:=ae hs3;have wE:=ae P5;have HZ3:=ae hz3;clear hw3 hs3 P5 hz3))
 have hseq:∀W,Below w3.heap.size w3 W→rV Fence.wide (3 - 1) Tryz.prog 73 #[.pointer (some ⟨w.heap.size+1+1,0,none⟩)] xK BB (fun xs=>xs.map (·.bs)=upto (chunk (qZ bs)) ((qZ bs).length / 64)) W:=fun W hW=>by
  have hz:=HZ3.out
  have hsz:=hW.size
  have hlo:=jy.out.lo
  have kc:∀(p:Addr),p.block<w.heap.size→W.cell? p=w.cell? p:=fun p hp=>((hW.mono (by omega)).cell (p:=p) hp).trans (hlo.cell (p:=p) hp)
  exact BJ Fence.wide 2 trivial rfl (by omega) b1 b2 bs Jo hb1 hb2 hlen W (w.heap.size+1+1) pb a1 f1 c1 a2 f2 c2 ((hW.cell (p:=⟨w.heap.size+2,0,none⟩) (by show w.heap.size+2<w3.heap.size;omega)).trans wE.out)
   ((kc ⟨pb,0,none⟩ hlp).trans HP.out) ((kc ⟨pb,1,none⟩ hlp).trans HP2.out) (by omega) (by omega) (by omega) (fun j hj=>(kc ⟨a1,f1+j,none⟩ hla1).trans (HBY1.out j hj)) (by omega) (fun j hj=>(kc ⟨a2,f2+j,none⟩ XK).trans (OC.out j hj))
 have Wq:=ae hseq
 clear hseq
 refine pX hro h1 (gf:=73) (lb:= #[.pointer (some ⟨w.heap.size+1+1,0,none⟩)]) rfl trivial (enters_of Tryz.func73 (by kernel_rfl) rfl) Wq.out (fun _=>rfl)
  (fun (xs:List KH) W=>CJ w KR (xs.map (fun x:KH=>x.bs)) W) (fun xs A B h hb=>h.grow (hb.mono (by rw [HZ3.out];exact Nat.le_refl _))) jy.out
  (fun x=> {tmps:= #[.slice (some ⟨pb,0,none⟩) 2 2,undef, .pointer (some ⟨w.heap.size,0,none⟩), .pointer (some ⟨w.heap.size+1,0,none⟩),NI x,undef,undef, .agg (aA oq), .slice (some ⟨pb,0,none⟩) 2 2, .func (.func 73) #[] #[.pointer (some ⟨w.heap.size+1+1,0,none⟩)],NI x,undef,undef,undef,undef,undef,undef,undef,undef,undef,undef,undef,undef,undef,undef,undef,undef,undef,undef,undef],defers:= []})
  (fun x A l o o' h1 h2 h3=>h1.put h2 h3) ?assign ?body ?done
 case assign=>
  intro l x W K hK
  unfold xK
  gi_wp2
  exact hK
 case body=>
  intro l pre x W hI hsz hx
  have hGW:fA W 0 (aA KR):=⟨Nat.lt_of_lt_of_le HG.out.1 hI.lo.size,fun i=>(hI.lo.cell (p:=⟨0,i,none⟩) HG.out.1).trans (HG.out.2 i)⟩
  have HC:Hid (Calls Tryz.prog 51 #[.pointer (some ⟨w.heap.size+1,0,none⟩),NI x] W fun e w'=>e= .returned (.tuple #[])∧AV (w.heap.size+1) 118 (aA (I8 KR (qN KR oq (pre.map (fun x:KH=>x.bs))) x.bs)) w'∧KT (w.heap.size+1) W w'):=
   ae (add_any KR HK.out W hGW (w.heap.size+1) x.b x.off x.cap (qN KR oq (pre.map (fun x:KH=>x.bs))) x.bs (ng _ _ _ rfl) hI.st hx.len hx.lt hx.at_)
  have HI:=ae hI
  clear hGW hI hx
  gi_wp2_with (refine ⟨trivial,?_⟩;gi_at_call 51;refine (CallsIn.inRound l (callsIn_wide.2 HC.out)).mono ?_;rintro e W2 ⟨rfl,hav,hkp⟩)
  have hl:=HI.out.lo
  have hz3:=HZ3.out
  refine ⟨⟨⟨(hkp.block _ (by have:=hl.size;omega) (by omega)).trans HI.out.res.var⟩,?_,⟨hkp.os.trans hl.os,hkp.tape.trans hl.tape,hkp.output.trans hl.output,Nat.le_trans hl.size hkp.size,fun k hk=>(hkp.block k (by have:=hl.size;omega) (by omega)).trans (hl.block k hk)⟩⟩,⟨hkp.size,fun k h1 h2=>hkp.block k h2 (by omega)⟩⟩
  rw [zT]
  exact hav
 case done=>
  intro D xs W hD hS hI hD0
  rw [hS] at hI
  obtain ⟨st,hst⟩:∃st,qN KR oq (upto (chunk (qZ bs)) ((qZ bs).length / 64))=st:=⟨_,rfl⟩
  have hsl:st.length=8:=by rw [←hst];exact ng _ _ _ rfl
  have hI2:AV (w.heap.size+1) 118 (aA st) W:=by rw [←hst];exact hI.st
  have HI:=ae hI
  have HI2:=ae hI2
  have HD0:=ae hD0
  have HST:=ae hst
  have Rt:=ae hsl
  clear hI hI2 hD0 hst hsl hS
  have sV:=ae (AV.new W (cellsB (eF st 0)) 23)
  have HB0:=ae (ag W (.cells (cellsB (eF st 0)) 23))
  have XP:=HI2.out.lt
  have hdl:D<W.heap.size:=(Array.getElem?_eq_some_iff.1 HD0.out).1
  gi_wp2_with (refine eQ rfl _ rfl (cellsB z32) gB ?_)
  gi_loopw [13] (fun i wx=>∃k:Nat,k≤32∧i= .int .i64 (k:Int)∧AV W.heap.size 23 (cellsB (eF st k)) wx∧Below W.heap.size W wx) (fun i _=>32 - (intOf i).toNat)
  case atStart=>exact ⟨0,Nat.zero_le _,rfl,sV.out,HB0.out⟩
  case round=>
   obtain ⟨k,hk,rfl,hd,hb⟩:=hrel
   have OG:=ae hd
   have xy:=ae hb
   have IE:=ae (qC st k)
   clear hd hb sV HB0
   by_cases hlt:k<32
   ·have i1:(k:Int)<32:=by omega
    obtain ⟨q4,hq4⟩:∃q:Nat,k / 4=q:=⟨_,rfl⟩
    obtain ⟨r4,hr4⟩:∃q:Nat,k%4=q:=⟨_,rfl⟩
    obtain ⟨s4,hs4⟩:∃q:Nat,24 - 8*r4=q:=⟨_,rfl⟩
    obtain ⟨v,hv⟩:∃v,st[q4]?.getD 0=v:=⟨_,rfl⟩
    have cs:wr.cell? ⟨w.heap.size+1,q4,none⟩=some (.int .u32 v):=((xy.out.cell (p:=⟨w.heap.size+1,q4,none⟩) XP).trans (HI2.out.cell q4)).trans (by rw [dV _ _ (by rw [Rt.out];omega),hv])
    have cd:wr.cell? ⟨W.heap.size,k,none⟩=some (Extern.Stop.cell ((eF st k)[k]?.getD 0)):=(OG.out.cell k).trans (jV _ _ (by rw [IE.out];exact hlt))
    have cf:=OG.out.dK k
    obtain ⟨y,hy⟩:∃y,v / 2 ^ s4=y:=⟨_,rfl⟩
    have g4:(k:Int) / 4=(q4:Int):=by omega
    have g5:(k:Int)%4=(r4:Int):=by omega
    have g6:24 - 8*(r4:Int)=(s4:Int):=by omega
    have b4:(q4:Int)<8:=by omega
    have b5:(r4:Int)<4:=by omega
    have b6:(s4:Int)≤24:=by omega
    have hw8:IntKind.u8.wrap y=y%256:=by rw [IntKind.wrap_u8]
    have HN:Hid (AV W.heap.size 23 (cellsB (eF st (k+1))) (wr.setCell ⟨W.heap.size,k,none⟩ (.int .u8 (y%256)))):=ae (by
     have h:=OG.out.put k (Extern.Stop.cell (byteOf y))
     rw [qo,iF] at h
     have e:eF st (k+1)=(eF st k).set k (byteOf y):=by
      show (eF st k).set k (byteOf ((st[k / 4]?.getD 0) / 2 ^ (24 - 8*(k%4))))=_
      rw [hq4,hr4,hs4,hv,hy]
     rw [e]
     exact h)
    clear hq4 hr4 hs4 hv
    gi_wp2_with fail
    go_roundw
    case rel=>exact ⟨k+1,by omega,by go_num,HN.out,xy.out.setCell (p:=⟨W.heap.size,k,none⟩) (Nat.le_refl _) _⟩
    case measure=>simp [intOf];omega
   ·have BD:Hid (k=32):=ae (by omega)
    have i1:¬(k:Int)<32:=by omega
    have i2:((k:Int)<32)=False:=by simp;omega
    have HRW:Hid (fA wr W.heap.size (cellsB (eF st k))):=ae ⟨OG.out.lt,OG.out.cell⟩
    have eX:Hid ((Tryz.prog.info? 23).map (·.size)=some (cellsB (eF st k)).size):=ae (by rw [bD,IE.out];kernel_rfl)
    have qK:Hid ((cellsB z32).size=(cellsB (eF st k)).size):=ae (by rw [bD,bD,IE.out];rfl)
    have Oj:Hid (wr.heap[w.heap.size]? =some (.cells (cellsB z32) 23 (0,0))):=ae ((xy.out.block _ (by omega)).trans HI.out.res.var)
    have HDD:Hid ((wr.setRow w.heap.size (cellsB (eF st k))).heap[D]? =some (.deferred (some []))):=ae ((setRow_other _ _ _ _ (by have:=HZ3.out;omega)).trans ((xy.out.block _ hdl).trans HD0.out))
    clear hlt
    gi_wp2_with (first
     |(refine qc rfl _ _ rfl W.heap.size rfl (cellsB (eF st k)) HRW.out _ Tryz.underlying23 rfl eX.out ?_;refine iY rfl _ _ _ rfl w.heap.size (cellsB (eF st k)) rfl rfl 23 (cellsB z32) Oj.out eX.out qK.out (gJ _) ?_))
    have hz3:=HZ3.out
    have hlo:=HI.out.lo
    refine ⟨by simp, .inl ⟨_,_,rfl,run_takeDeferred HDD.out,?_⟩⟩
    refine ⟨_,results_cell_row rfl _ _ w.heap.size _ (cellsB (eF st k)) (0,0) _ rfl ((World.putObj_heap_other (by omega)).trans (setRow_heap _ _ _ _ _ _ Oj.out)) Tryz.underlying23 rfl eX.out,?_⟩
    refine ⟨?_,(aF (hlo.trans (xy.out.mono hlo.size)) (Nat.le_refl _) _).trans (pI (by omega))⟩
    rw [BD.out,←HST.out]
    rfl
end Go.Proofs.YtdibbemgpikgjaaGreatDoor
