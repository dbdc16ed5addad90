/- The texts DgB2, DgK2, DgM, Ea, in this order. -/
import Derived.Test.YtbaehbbonkljpaaGreatDoorT31
set_option maxRecDepth 10000
set_option maxHeartbeats 8000000
namespace Go.Proofs.YtbaehbbonkljpaaGreatDoor
open Go Go.RowKit Go.Shelf
attribute [local go_sem] iM
theorem SQ.cat {B n:Nat}{W0 wr w1:ae}{b1 b2 bs:ag au}{v v':ah}(h:SQ B W0 b1 v wr)(afL:b1++b2=bs)(hB:B<=W0.heap.size)(hn:n=bs.length)(hown:w1.ownsRow B 5 1 v' n (b1.map Extern.Stop.cell++b2.map Extern.Stop.cell))(hg:wr.grownBy w1 v.ownBlock):SQ B W0 bs v' w1:=by
 subst hn afL;have hs:=h.lo.size;have hz:=hg.size;rw[<-bY] at hown;exact⟨hown,⟨hg.os.trans h.lo.os,hg.tape.trans h.lo.tape,hg.output.trans h.lo.output,by omega,fun k hk=>by
  rw[hg.block k (by omega) (MV h.own k hk)];exact h.lo.block k hk⟩⟩
theorem aaW (F:Fence)(n:Nat)(h7:F.fn 117)(hro:F.round=none)(hn:1<=n)(b1 b2 bs:ag au)(afL:b1++b2=bs)(hb1:0<b1.length)(hb2:0<b2.length)(hlen:bs.length<=1000000000)(W:ae)(box pb a1 f1 c1 a2 f2 c2:Nat)(hbox:W.cell? ⟨box,0,none⟩=some (.slice (some ⟨pb,0,none⟩) 2 2))(hp:W.cell? ⟨pb,0,none⟩=some (.slice (some ⟨a1,f1,none⟩) b1.length c1))(hp2:W.cell? ⟨pb,1,none⟩=some (.slice (some ⟨a2,f2,none⟩) b2.length c2))
  (hlb:box<W.heap.size)(hlp:pb<W.heap.size)(awK:a1<W.heap.size)(adV:∀j,j<b1.length->W.cell? ⟨a1,f1+j,none⟩=some (Extern.Stop.cell (b1[j]?.getD 0)))(ar8:a2<W.heap.size)(akI:∀j,j<b2.length->W.cell? ⟨a2,f2+j,none⟩=some (Extern.Stop.cell (b2[j]?.getD 0))):
  U4 F n Tryz.prog 117 #[.pointer (some ⟨box,0,none⟩)] Ya aaP (fun xs=>xs.map (·.bs)=upto (chunk (Q4 bs)) ((Q4 bs).length / 64)) W:=by
 intro l J hl hJ hY h0;have HJ:=JJ hJ;have HY:=JJ hY;have HA1:=JJ adV;have HA2:=JJ akI;obtain⟨N,hN⟩:∃N,bs.length=N:=⟨_,rfl⟩;obtain⟨N1,hN1⟩:∃N,b1.length=N:=⟨_,rfl⟩;obtain⟨N2,hN2⟩:∃N,b2.length=N:=⟨_,rfl⟩;have hNN:N1+N2=N:=by rw[<-hN,<-hN1,<-hN2,<-afL,KN]
 rw[hN] at hlen;rw[hN1] at hp hb1;rw[hN2] at hp2 hb2;have HN:=JJ hN;have HN1:=JJ hN1;have HN2:=JJ hN2;have HNN:=JJ hNN;have ayO:=JJ afL;have HP2:=JJ hp2;have q1:N1<=1000000000:=by omega
 have q2:N2<=1000000000:=by omega
 have hb0:0<N:=by omega
 clear hJ hY adV akI hN hN1 hN2 hNN afL hp2;refine ik mQ rfl h7 ?_ hro;simp only[Tryz.ntmps117,bZ,bG,dE,Nat.reduceAdd,Nat.reduceSub,df,dh,dL,dw,bU,dn];obtain⟨i0,hi,hq0,hq1,hq2⟩:=dN Qb
 gi_wp2
 gi_loopw [3,10] (fun m i wr=>(i=.int .i64 0/\m=.slice none 0 0/\wr=W)\/(∃g cap,i=.int .i64 1/\m=.slice (some ⟨g,0,none⟩) N1 cap/\SQ W.heap.size W b1 m wr)\/(∃g cap,i=.int .i64 2/\m=.slice (some ⟨g,0,none⟩) N cap/\SQ W.heap.size W bs m wr)) (fun _ i _=>(2 - intOf i).toNat)
 case atStart=>exact .inl ⟨rfl,rfl,rfl⟩
 case round=>
  rcases hrel with h|h|h
  ·obtain⟨rfl,rfl,rfl⟩:=h;have hne:∀j u,(b1.map Extern.Stop.cell)[j]? =some u->wr.cell? ((⟨a1,f1,none⟩:Addr).add j)=some u:=fun j u hu=>by
    have hj:j<b1.length:=by have:=(MF.1 hu).1;simpa using this
    rw[jb,HA1.out j hj];rw[aJ,KL hj] at hu;rw[KL hj];simpa using hu
   have HNE:=JJ hne;clear hne
   gi_wp2_with (gi_at_builtin;refine gy _ rfl _ _ 55 rfl wr.heap.size 5 i0 (.int .u8 0) 1 1 bC hi hq0 hq1 hq2 rfl (by omega) _ _ _ rfl (dD _ _ _ _) ⟨a1,f1,none⟩ N1 c1 (b1.map Extern.Stop.cell) rfl (by rw[aI,HN1.out,fA]) HNE.out (Q5 b1) (by unfold maxLen;omega) (by omega) (ay _) ?_;intro v1 w1 hown1 hg1 _;rw[aT,bU] at hown1;obtain⟨gg,cap,rfl,_⟩:=LW hown1 hb1;have VS:=JJ hown1;have HG1:=JJ hg1;clear hown1 hg1)
   go_roundw
   case rel=>exact .inr (.inl ⟨gg,cap,by go_num,rfl,⟨by rw[HN1.out];exact VS.out,⟨HG1.out.os,HG1.out.tape,HG1.out.output,HG1.out.size,fun k hk=>HG1.out.block k hk (fun e=>nomatch e)⟩⟩⟩)
   case measure=>simp[intOf]
  ·obtain⟨g,cap,rfl,rfl,hm⟩:=h;have HM:=JJ hm;have HO:Hid (wr.ownsRow W.heap.size 5 1 (.slice (some ⟨g,0,none⟩) N1 cap) N1 (b1.map Extern.Stop.cell)):=JJ (by have h:=hm.own;rw[HN1.out] at h;exact h);have hge:=hm.lo.size;have p2:wr.cell? ⟨pb,1,none⟩=some (.slice (some ⟨a2,f2,none⟩) N2 c2):=(hm.lo.cell (p:=⟨pb,1,none⟩) hlp).trans HP2.out;have hne:∀j u,(b2.map Extern.Stop.cell)[j]? =some u->wr.cell? ((⟨a2,f2,none⟩:Addr).add j)=some u:=fun j u hu=>by
    have hj:j<b2.length:=by have:=(MF.1 hu).1;simpa using this
    rw[jb,(hm.lo.cell (p:=⟨a2,f2+j,none⟩) ar8),HA2.out j hj];rw[aJ,KL hj] at hu;rw[KL hj];simpa using hu
   have HNE:=JJ hne;clear hne hm
   gi_wp2_with (gi_at_builtin;refine gy _ rfl _ _ 55 rfl W.heap.size 5 i0 (.int .u8 0) 1 1 bC hi hq0 hq1 hq2 rfl (by omega) (.slice (some ⟨g,0,none⟩) N1 cap) N1 (b1.map Extern.Stop.cell) rfl HO.out ⟨a2,f2,none⟩ N2 c2 (b2.map Extern.Stop.cell) rfl (by rw[aI,HN2.out,fA]) HNE.out (Q5 b2) (by have:=HNN.out;unfold maxLen;omega) (by have:=HNN.out;omega) (by omega) ?_;intro v1 w1 hown1 hg1 _;have hm1:SQ W.heap.size W bs v1 w1:=HM.out.cat ayO.out (ay _) (by rw[HN.out];exact HNN.out) hown1 hg1;rw[HNN.out] at hown1;obtain⟨gg,cap1,rfl,_⟩:=LW hown1 hb0;have Xx:=JJ hm1;clear hown1 hg1 hm1)
   go_roundw
   case rel=>exact .inr (.inr ⟨gg,cap1,by go_num,rfl,Xx.out⟩)
   case measure=>simp[intOf]
  ·obtain⟨g,cap,rfl,rfl,hm⟩:=h;have HM:=JJ hm;have HO:Hid (wr.ownsRow W.heap.size 5 1 (.slice (some ⟨g,0,none⟩) N cap) N (bs.map Extern.Stop.cell)):=JJ (by have h:=hm.own;rw[HN.out] at h;exact h);have hge:=hm.lo.size;have UY:Hid (N+1=(bs++ [(128:au)]).length):=JJ (by rw[KN,HN.out];rfl);have HL2:Hid (bs.map Extern.Stop.cell++ [Extern.Stop.cell 128]=(bs++ [(128:au)]).map Extern.Stop.cell):=JJ (by simp);clear hm
   gi_wp2_with (gi_at_builtin;refine gy _ rfl _ _ 55 rfl W.heap.size 5 i0 (.int .u8 0) 1 1 bC hi hq0 hq1 hq2 rfl (by omega) (.slice (some ⟨g,0,none⟩) N cap) N (bs.map Extern.Stop.cell) rfl (HO.out.alloc _) ⟨wr.heap.size,0,none⟩ 1 1 [Extern.Stop.cell 128] rfl rfl (TK 128 _ rfl) (RQ 128) (by unfold maxLen;omega) (by omega) (by first|(simp;done)|(simp;omega)) ?_;intro v1 w1 hown1 hg1 _;have hm1:SQ W.heap.size W (bs++ [(128:au)]) v1 w1:=HM.out.app (ay _) UY.out HL2.out hown1 hg1;obtain⟨gg,cap1,rfl,_⟩:=LW hown1 (jl _);have Xx:=JJ hm1;clear hown1 hg1 hm1)
   gi_loopw [3] (fun m wx=>∃z g cap q,z<=Rt N/\q=N+1+z/\m=.slice (some ⟨g,0,none⟩) q cap/\SQ W.heap.size W (Ol bs z) m wx) (fun m _=>(N+1+Rt N) - (match m with| .slice _ q _=>q|_=>0))
   case atStart=>exact⟨0,gg,cap1,N+1,aG _,rfl,rfl,by have h:=Xx.out;simpa[Ol] using h⟩
   case round=>
    obtain⟨z,g,cap,q,hz,hq,rfl,hm⟩:=hrel;have HM2:=JJ hm;have HQ:=JJ hq;have hqb:q<=1000000200:=by have:Rt N<=63:=ahQ N;omega
    have ar1:=hm.lo.size;have hlq:(Ol bs z).length=q:=by rw[Qy,HN.out,hq]
    have SI:Hid (wr.ownsRow W.heap.size 5 1 (.slice (some ⟨g,0,none⟩) q cap) q ((Ol bs z).map Extern.Stop.cell)):=JJ (by have h:=hm.own;rw[hlq] at h;exact h);clear hm Xx HM HO UY HL2;by_cases hlt:z<Rt N
    ·have h56:((q:Int)%64 !=56)=true:=by rw[YX];exact aZ (by rw[hq];exact ahR hlt)
     have UY:Hid (q+1=(Ol bs z++ [(0:au)]).length):=JJ (by rw[KN,hlq];rfl);have HL2:Hid ((Ol bs z).map Extern.Stop.cell++ [Extern.Stop.cell 0]=(Ol bs z++ [(0:au)]).map Extern.Stop.cell):=JJ (by simp);clear hq hlq
     gi_wp2_with (gi_at_builtin;refine gy _ rfl _ _ 55 rfl W.heap.size 5 i0 (.int .u8 0) 1 1 bC hi hq0 hq1 hq2 rfl (by omega) (.slice (some ⟨g,0,none⟩) q cap) q ((Ol bs z).map Extern.Stop.cell) rfl (SI.out.alloc _) ⟨wr.heap.size,0,none⟩ 1 1 [Extern.Stop.cell 0] rfl rfl (TK 0 _ rfl) (RQ 0) (by unfold maxLen;omega) (by omega) (by first|(simp;done)|(simp;omega)) ?_;intro v2 w2 hown2 hg2 _;have hm2:SQ W.heap.size W (Ol bs z++ [(0:au)]) v2 w2:=HM2.out.app (ay _) UY.out HL2.out hown2 hg2;obtain⟨g2,cap2,rfl,_⟩:=LW hown2 (jl _);have HM3:=JJ hm2;clear hown2 hg2 hm2)
     go_roundw
     case rel=>exact⟨z+1,g2,cap2,q+1,hlt,by have:=HQ.out;omega,rfl,by rw[Z4];exact HM3.out⟩
     case measure=>have:=HQ.out;show N+1+Rt N - (q+1)<N+1+Rt N - q;omega
    ·have hze:z=Rt N:=by omega
     have h56:((q:Int)%64 !=56)=false:=by rw[YX];exact bT (by rw[hq,hze];have:=Y5 N;omega)
     have HZE:=JJ hze;clear hq hze hlq hlt hz;obtain⟨pm,hpm⟩:∃pm,Ol bs (Rt N)=pm:=⟨_,rfl⟩;have HPM:=JJ hpm;have HPL:Hid (pm.length=q):=JJ (by rw[<-hpm,Qy,HN.out];have:=HQ.out;have:=HZE.out;omega);have HM4:Hid (SQ W.heap.size W pm (.slice (some ⟨g,0,none⟩) q cap) wr):=JJ (by have h:=HM2.out;rw[HZE.out,hpm] at h;exact h);clear hpm HM2 SI
     gi_wp2_with fail
     gi_loopw [3,7] (fun m i wx=>∃j g cap r,j<=8/\r=q+j/\i=.int .i64 (56 - 8*(j:Int))/\m=.slice (some ⟨g,0,none⟩) r cap/\SQ W.heap.size W (pm++upto (fun j=>byteOf ((8*(N:Int)) / 2 ^ (56 - 8*j))) j) m wx) (fun _ i _=>(intOf i+8).toNat)
     case atStart=>exact⟨0,g,cap,q,aG _,rfl,by go_num,rfl,by have h:=HM4.out;simpa[upto] using h⟩
     case round=>
      obtain⟨j,g,cap,r,hj,hr,rfl,rfl,hm⟩:=hrel;have HM5:=JJ hm;have HR:=JJ hr;have ar2:=hm.lo.size;have hrb:r<=1000000300:=by omega
      obtain⟨ms,hms⟩:∃ms,pm++upto (fun j=>byteOf ((8*(N:Int)) / 2 ^ (56 - 8*j))) j=ms:=⟨_,rfl⟩;have hml:ms.length=r:=by rw[<-hms,KN,HPL.out,upto_length,hr]
      rw[hms] at HM5 hm;have HMS:=JJ hms;have RP:Hid (wr.ownsRow W.heap.size 5 1 (.slice (some ⟨g,0,none⟩) r cap) r (ms.map Extern.Stop.cell)):=JJ (by have h:=hm.own;rw[hml] at h;exact h);clear hm hr hms HM4;by_cases hlt:j<8
      ·obtain⟨s,hs⟩:∃s:Nat,56 - 8*j=s:=⟨_,rfl⟩;have hs2:56 - 8*(j:Int)=(s:Int):=by omega
       have hs0:(0:Int)<=(s:Int):=by omega
       have hs1:(s:Int)<=56:=by omega
       obtain⟨y,hy⟩:∃y:Int,(8*(N:Int)) / 2 ^ s=y:=⟨_,rfl⟩;have UY:Hid (r+1=(ms++ [byteOf y]).length):=JJ (by rw[KN,hml];rfl);have HL2:Hid (ms.map Extern.Stop.cell++ [Extern.Stop.cell (byteOf y)]=(ms++ [byteOf y]).map Extern.Stop.cell):=JJ (by simp);have HYY:=JJ hy;have RX:=JJ hs;have HS2:=JJ hs2;have aAj:IntKind.u8.wrap y=y%256:=by rw[lF]
       rw[hs2];clear hml hs hs2
       gi_wp2_with (gi_at_builtin;refine gy _ rfl _ _ 55 rfl W.heap.size 5 i0 (.int .u8 0) 1 1 bC hi hq0 hq1 hq2 rfl (by omega) (.slice (some ⟨g,0,none⟩) r cap) r (ms.map Extern.Stop.cell) rfl (RP.out.alloc _) ⟨wr.heap.size,0,none⟩ 1 1 [Extern.Stop.cell (byteOf y)] rfl rfl (TK (byteOf y) _ (LH y).symm) (RQ _) (by unfold maxLen;omega) (by omega) (by first|(simp;done)|(simp;omega)) ?_;intro v2 w2 hown2 hg2 _;have hm2:SQ W.heap.size W (ms++ [byteOf y]) v2 w2:=HM5.out.app (ay _) UY.out HL2.out hown2 hg2;obtain⟨g2,cap2,rfl,_⟩:=LW hown2 (jl _);have HM6:=JJ hm2;clear hown2 hg2 hm2)
       go_roundw
       case rel=>exact⟨j+1,g2,cap2,r+1,hlt,by have:=HR.out;omega,by have:=HS2.out;congr 1;omega,rfl,by rw[upto_succ,<-aH,HMS.out,RX.out,HYY.out];exact HM6.out⟩
       case measure=>have:=HS2.out;simp[intOf];omega
      ·have hj8:j=8:=by omega
       have hs2:56 - 8*(j:Int)= -8:=by omega
       have akP:ms=Q4 bs:=by
        rw[<-HMS.out,hj8,<-HPM.out];unfold Q4 aeq;rw[HN.out]
       have hT:r=q+8:=by have:=HR.out;omega
       obtain⟨k,hk⟩:∃k,r=64*k:=⟨r / 64,by have h1:=Y5 N;have h2:=HQ.out;have h3:=HZE.out;omega⟩;have HTT:=JJ hk;have Qc:=JJ akP;have HML:=JJ hml;have HC0:Hid (∀i,i<r->wr.cell? ⟨g,i,none⟩=some (Extern.Stop.cell (ms[i]?.getD 0))):=JJ fun i hi=>by
        have h:=RP.out.cells (g:=g) rfl i (Extern.Stop.cell (ms[i]?.getD 0)) (by rw[aJ,KL (by omega)];rfl);rw[addr_add] at h;exact h
       have hcap:r<=cap/\cap<=9223372036854775807:=by
        rcases RP.out.2 with ⟨h1,_⟩|⟨g',cap',cur,h1,_,_,h2,h3,_⟩
        ·cases h1
        ·injection h1 with _ _ h1;subst h1;exact⟨h2,by unfold maxLen at h3;omega⟩
       have hgl:=af2 RP.out g rfl;have hgw:W.heap.size<=g:=by
        rcases RP.out.2 with ⟨h1,_⟩|⟨g',cap',cur,h1,h2,_⟩
        ·cases h1
        ·injection h1 with h1 _ _;injection h1 with h1;injection h1 with h1;omega
       have HJ0:Hid (J [] wr):=JJ (HJ.out _ _ _ h0 HM5.out.lo);rw[hs2];clear hs2 hj8 akP hT hml
       gi_wp2_with fail
       gi_loopw [3] (fun m wx=>∃i a q cc o xs,i<=k/\q=64*(k - i)/\o=64*i/\m=.slice a q cc/\xs.map (·.bs)=upto (chunk ms) i/\J xs wx/\afb W g r ms wx/\(i<k->a=some ⟨g,o,none⟩/\q<=cc/\cc<=9223372036854775807)) (fun m _=>match m with| .slice _ q _=>q|_=>0)
       case atStart=>exact⟨0,some ⟨g,0,none⟩,r,cap,0,[],aG _,by rw[hk];rfl,rfl,rfl,rfl,HJ0.out,⟨hgl,hgw,ar2,HC0.out⟩,fun _=>⟨rfl,hcap.1,hcap.2⟩⟩
       case round=>
        obtain⟨i,a,q,cc,o,xs,hi,hq,ho,rfl,hxs,hjx,hbk,hlast⟩:=hrel;have HBK:=JJ hbk;have Ud:=JJ hxs;have HJX:=JJ hjx;clear hbk hxs hjx;by_cases hlt:i<k
        ·obtain⟨rfl,hqc,hcm⟩:=hlast hlt;have aAx:64<=q:=by omega
         have hxe:aaP ⟨g,o,cc,chunk ms i⟩ wr:=HBK.out.el i o cc (chunk ms i) ho (by have:=HTT.out;omega) rfl HML.out;obtain⟨fn,tmps,assign,body,hy,hR⟩:=HY.out xs ⟨g,o,cc,chunk ms i⟩ wr HJX.out HBK.out.ge hxe;dsimp only[Ya] at hy;have hq0:(0:Int)<(q:Int):=by omega
         have HQ6:=JJ hq;have Xy:=JJ ho;clear hq ho hlast hxe
         gi_wp2_with fail
         refine hR.mono ?_;rintro e W3 ⟨rfl,hJ3,hk3⟩;have HJ3:=JJ hJ3;have HB3:=JJ (HBK.out.keep hk3);have Xz:Hid ((xs++ [(⟨g,o,cc,chunk ms i⟩:ElD)]).map (·.bs)=upto (chunk ms) (i+1)):=JJ (by rw[bY,Ud.out,upto_succ];rfl);clear hJ3 hk3 hy hR HJX HBK;by_cases hcc:cc=64
         ·have HCC:=JJ hcc;have hqe:q=64:=by omega
          have hke:i+1=k:=by have:=HQ6.out;omega
          have Y9:=JJ hke;subst hcc;subst hqe;clear hke
          gi_wp2_with fail
          go_roundw
          case rel=>exact⟨i+1,_,0,_,64*(i+1),_,by omega,by have:=Y9.out;omega,rfl,rfl,Xz.out,HJ3.out,HB3.out,fun h=>by have:=Y9.out;omega⟩
          case measure=>simp
         ·have aAk:64<cc:=by omega
          gi_wp2_with fail
          go_roundw
          case rel=>exact⟨i+1,_,q - 64,cc - 64,o+64,_,hlt,by have:=HQ6.out;omega,by have:=Xy.out;omega,rfl,Xz.out,HJ3.out,HB3.out,fun _=>⟨rfl,by omega,by omega⟩⟩
          case measure=>simp;omega
        ·have hie:i=k:=by omega
         have hq0:q=0:=by omega
         have HIE:=JJ hie;subst hq0;clear hie hlast
         gi_wp2_with fail
         go_end0
         refine⟨⟨_,rfl⟩,xs,?_,HJX.out⟩;rw[Ud.out,HIE.out,<-Qc.out,HML.out,HTT.out,mr _ (by decide)]
end Go.Proofs.YtbaehbbonkljpaaGreatDoor
namespace Go.Proofs.YtbaehbbonkljpaaGreatDoor
open Go Go.RowKit Go.Shelf
attribute [local go_sem] iM
theorem abz (KR:ag Int)(hK:KR.length=64)(w:ae)(hG:MS w 0 (JP KR))(b1 b2 bs:ag au)(afL:b1++b2=bs)(hb1:0<b1.length)(hb2:0<b2.length)(hlen:bs.length<=1000000000)(pb a1 f1 c1 a2 f2 c2:Nat)(hp:w.cell? ⟨pb,0,none⟩=some (.slice (some ⟨a1,f1,none⟩) b1.length c1))(hp2:w.cell? ⟨pb,1,none⟩=some (.slice (some ⟨a2,f2,none⟩) b2.length c2))(hlp:pb<w.heap.size)(awK:a1<w.heap.size)(ar8:a2<w.heap.size)
  (adV:∀j,j<b1.length->w.cell? ⟨a1,f1+j,none⟩=some (Extern.Stop.cell (b1[j]?.getD 0)))(akI:∀j,j<b2.length->w.cell? ⟨a2,f2+j,none⟩=some (Extern.Stop.cell (b2[j]?.getD 0))):
  Calls Tryz.prog 73 #[.slice (some ⟨pb,0,none⟩) 2 2] w fun e w'=>e=.returned (.agg (cellsB (OE KR bs)))/\ai w.heap.size w w':=by
 refine(gX (n:=3)).1 ?_;have hro:Fence.wide.round=none:=rfl;have h1:1<=3:=by omega
 have HK:=JJ hK;have HG:=JJ hG;have ayM:=JJ adV;have ayN:=JJ akI;have HP:=JJ hp;have HP2:=JJ hp2;clear hK hG adV akI hp hp2;refine iK Tryz.func73 rfl trivial ?_ hro;simp only[Tryz.ntmps73,bZ,bG,dE,Nat.reduceAdd,Nat.reduceSub,df,dh,dL,dw,bU,dn]
 gi_wp2_with (first
  |(refine Nu rfl _ rfl (cellsB z32) NW ?_)
  |(refine Nu rfl _ rfl (JP (List.replicate 8 0)) Qh ?_;refine OX rfl 180 _ _ rfl (w.alloc (.cells (cellsB z32) 24)).heap.size (JP Ru) rfl rfl 180 (JP (List.replicate 8 0)) (aF _ _) (by kernel_rfl) rfl (KP _) ?_)
  |(refine⟨trivial,?_⟩;gi_at_call 93;refine(Zy _ _ _ _).mono ?_;rintro e w3 ⟨rfl,hw3⟩;obtain⟨hs3,hz3,akH⟩:=ZG (KR:=KR) ⟨_,rfl⟩ hw3;have Qi:=JJ hs3;have Xz:=JJ akH;have HZ3:=JJ hz3;clear hw3 hs3 akH hz3))
 have hseq:∀W,ai w3.heap.size w3 W->U4 Fence.wide (3 - 1) Tryz.prog 117 #[.pointer (some ⟨w.heap.size+1+1,0,none⟩)] Ya aaP (fun xs=>xs.map (·.bs)=upto (chunk (Q4 bs)) ((Q4 bs).length / 64)) W:=fun W hW=>by
  have hz:=HZ3.out;have hsz:=hW.size;have hlo:=Qi.out.lo;have kc:∀(p:Addr),p.block<w.heap.size->W.cell? p=w.cell? p:=fun p hp=>((hW.mono (by omega)).cell (p:=p) hp).trans (hlo.cell (p:=p) hp);exact aaW Fence.wide 2 trivial rfl (by omega) b1 b2 bs afL hb1 hb2 hlen W (w.heap.size+1+1) pb a1 f1 c1 a2 f2 c2 ((hW.cell (p:=⟨w.heap.size+2,0,none⟩) (by show w.heap.size+2<w3.heap.size;omega)).trans Xz.out)
   ((kc ⟨pb,0,none⟩ hlp).trans HP.out) ((kc ⟨pb,1,none⟩ hlp).trans HP2.out) (by omega) (by omega) (by omega) (fun j hj=>(kc ⟨a1,f1+j,none⟩ awK).trans (ayM.out j hj)) (by omega) (fun j hj=>(kc ⟨a2,f2+j,none⟩ ar8).trans (ayN.out j hj))
 have aqY:=JJ hseq;clear hseq;refine TY hro h1 (gf:=117) (lb:= #[.pointer (some ⟨w.heap.size+1+1,0,none⟩)]) rfl trivial (lK mQ (by kernel_rfl) rfl) aqY.out (fun _=>rfl)
  (fun (xs:ag ElD) W=>abh w KR (xs.map (fun x:ElD=>x.bs)) W) (fun xs A B h hb=>h.grow (hb.mono (by rw[HZ3.out];exact ay _))) Qi.out
  (fun x=> {tmps:= #[.slice (some ⟨pb,0,none⟩) 2 2,undef,.pointer (some ⟨w.heap.size,0,none⟩),.pointer (some ⟨w.heap.size+1,0,none⟩),aiR x,undef,undef,.agg (JP Ru),.slice (some ⟨pb,0,none⟩) 2 2,.func (.func 117) #[] #[.pointer (some ⟨w.heap.size+1+1,0,none⟩)],aiR x,undef,undef,undef,undef,undef,undef,undef,undef,undef,undef,undef,undef,undef,undef,undef,undef,undef,undef,undef],defers:= []})
  (fun x A l o o' h1 h2 h3=>h1.put h2 h3) ?assign ?body ?done
 case assign=>
  intro l x W K hK;unfold Ya
  gi_wp2
  exact hK
 case body=>
  intro l pre x W hI hsz hx;have hGW:MS W 0 (JP KR):=⟨LK HG.out.1 hI.lo.size,fun i=>(hI.lo.cell (p:=⟨0,i,none⟩) HG.out.1).trans (HG.out.2 i)⟩;have HC:Hid (Calls Tryz.prog 94 #[.pointer (some ⟨w.heap.size+1,0,none⟩),aiR x] W fun e w'=>e=.returned (.tuple #[])/\AV (w.heap.size+1) 180 (JP (Zr KR (TQ KR Ru (pre.map (fun x:ElD=>x.bs))) x.bs)) w'/\agV (w.heap.size+1) W w'):=
   JJ (add_any KR HK.out W hGW (w.heap.size+1) x.b x.off x.cap (TQ KR Ru (pre.map (fun x:ElD=>x.bs))) x.bs (RG _ _ _ rfl) hI.st hx.len hx.lt hx.at_)
  have HI:=JJ hI;clear hGW hI hx
  gi_wp2_with (refine⟨trivial,?_⟩;gi_at_call 94;refine(CallsIn.inRound l (gX.2 HC.out)).mono ?_;rintro e W2 ⟨rfl,hav,hkp⟩)
  have hl:=HI.out.lo;have hz3:=HZ3.out;refine⟨⟨⟨(hkp.block _ (by have:=hl.size;omega) (by omega)).trans HI.out.res.var⟩,?_,⟨hkp.os.trans hl.os,hkp.tape.trans hl.tape,hkp.output.trans hl.output,aO hl.size hkp.size,fun k hk=>(hkp.block k (by have:=hl.size;omega) (by omega)).trans (hl.block k hk)⟩⟩,⟨hkp.size,fun k h1 h2=>hkp.block k h2 (by omega)⟩⟩;rw[Wn];exact hav
 case done=>
  intro D xs W hD hS hI hD0;rw[hS] at hI;obtain⟨st,hst⟩:∃st,TQ KR Ru (upto (chunk (Q4 bs)) ((Q4 bs).length / 64))=st:=⟨_,rfl⟩;have hsl:st.length=8:=by rw[<-hst];exact RG _ _ _ rfl
  have hI2:AV (w.heap.size+1) 180 (JP st) W:=by rw[<-hst];exact hI.st
  have HI:=JJ hI;have HI2:=JJ hI2;have HD0:=JJ hD0;have HST:=JJ hst;have HSL:=JJ hsl;clear hI hI2 hD0 hst hsl hS;have WX:=JJ (AV.new W (cellsB (ML st 0)) 24);have HB0:=JJ (JM W (.cells (cellsB (ML st 0)) 24));have ase:=HI2.out.lt;have hdl:D<W.heap.size:=(KY.1 HD0.out).1
  gi_wp2_with (refine Nu rfl _ rfl (cellsB z32) NW ?_)
  gi_loopw [13] (fun i wx=>∃k:Nat,k<=32/\i=.int .i64 (k:Int)/\AV W.heap.size 24 (cellsB (ML st k)) wx/\ai W.heap.size W wx) (fun i _=>32 - (intOf i).toNat)
  case atStart=>exact⟨0,aG _,rfl,WX.out,HB0.out⟩
  case round=>
   obtain⟨k,hk,rfl,hd,hb⟩:=hrel;have HDV:=JJ hd;have HBL:=JJ hb;have HOL:=JJ (Uy st k);clear hd hb WX HB0;by_cases hlt:k<32
   ·have i1:(k:Int)<32:=by omega
    obtain⟨q4,hq4⟩:∃q:Nat,k / 4=q:=⟨_,rfl⟩;obtain⟨r4,hr4⟩:∃q:Nat,k%4=q:=⟨_,rfl⟩;obtain⟨s4,hs4⟩:∃q:Nat,24 - 8*r4=q:=⟨_,rfl⟩;obtain⟨v,hv⟩:∃v,st[q4]?.getD 0=v:=⟨_,rfl⟩;have cs:wr.cell? ⟨w.heap.size+1,q4,none⟩=some (.int .u32 v):=((HBL.out.cell (p:=⟨w.heap.size+1,q4,none⟩) ase).trans (HI2.out.cell q4)).trans (by rw[KT _ _ (by rw[HSL.out];omega),hv]);have cd:wr.cell? ⟨W.heap.size,k,none⟩=some (Extern.Stop.cell ((ML st k)[k]?.getD 0)):=(HDV.out.cell k).trans (Qe _ _ (by rw[HOL.out];exact hlt));have cf:=HDV.out.Oo k;obtain⟨y,hy⟩:∃y,v / 2 ^ s4=y:=⟨_,rfl⟩;have g4:(k:Int) / 4=(q4:Int):=by omega
    have g5:(k:Int)%4=(r4:Int):=by omega
    have g6:24 - 8*(r4:Int)=(s4:Int):=by omega
    have b4:(q4:Int)<8:=by omega
    have b5:(r4:Int)<4:=by omega
    have b6:(s4:Int)<=24:=by omega
    have hw8:IntKind.u8.wrap y=y%256:=by rw[lF]
    have HN:Hid (AV W.heap.size 24 (cellsB (ML st (k+1))) (wr.setCell ⟨W.heap.size,k,none⟩ (.int .u8 (y%256)))):=JJ (by
     have h:=HDV.out.put k (Extern.Stop.cell (byteOf y));rw[Ur,LH] at h;have e:ML st (k+1)=(ML st k).set k (byteOf y):=by
      show(ML st k).set k (byteOf ((st[k / 4]?.getD 0) / 2 ^ (24 - 8*(k%4))))=_;rw[hq4,hr4,hs4,hv,hy]
     rw[e];exact h)
    clear hq4 hr4 hs4 hv
    gi_wp2_with fail
    go_roundw
    case rel=>exact⟨k+1,by omega,by go_num,HN.out,HBL.out.setCell (p:=⟨W.heap.size,k,none⟩) (ay _) _⟩
    case measure=>simp[intOf];omega
   ·have Y9:Hid (k=32):=JJ (by omega);have i1:¬(k:Int)<32:=by omega
    have i2:((k:Int)<32)=False:=by simp;omega
    have HRW:Hid (MS wr W.heap.size (cellsB (ML st k))):=JJ ⟨HDV.out.lt,HDV.out.cell⟩;have L6:Hid ((Tryz.prog.info? 24).map (·.size)=some (cellsB (ML st k)).size):=JJ (by rw[KU,HOL.out];kernel_rfl);have HSO:Hid ((cellsB z32).size=(cellsB (ML st k)).size):=JJ (by rw[KU,KU,HOL.out];rfl);have HRS:Hid (wr.heap[w.heap.size]? =some (.cells (cellsB z32) 24 (0,0))):=JJ ((HBL.out.block _ (by omega)).trans HI.out.res.var);have HDD:Hid ((wr.setRow w.heap.size (cellsB (ML st k))).heap[D]? =some (.deferred (some []))):=JJ ((cZ _ _ _ _ (by have:=HZ3.out;omega)).trans ((HBL.out.block _ hdl).trans HD0.out));clear hlt
    gi_wp2_with (first
     |(refine Ua rfl _ _ rfl W.heap.size rfl (cellsB (ML st k)) HRW.out _ aK rfl L6.out ?_;refine OX rfl _ _ _ rfl w.heap.size (cellsB (ML st k)) rfl rfl 24 (cellsB z32) HRS.out L6.out HSO.out (O5 _) ?_))
    have hz3:=HZ3.out;have hlo:=HI.out.lo;refine⟨by simp,.inl ⟨_,_,rfl,jd HDD.out,?_⟩⟩;refine⟨_,dH rfl _ _ w.heap.size _ (cellsB (ML st k)) (0,0) _ rfl ((bQ (by omega)).trans (aQ _ _ _ _ _ _ HRS.out)) aK rfl L6.out,?_⟩;refine⟨?_,(JR (hlo.trans (HBL.out.mono hlo.size)) (ay _) _).trans (TJ (by omega))⟩;rw[Y9.out,<-HST.out];rfl
end Go.Proofs.YtbaehbbonkljpaaGreatDoor
namespace Go.Proofs.YtbaehbbonkljpaaGreatDoor
open Go Go.RowKit
def xb (m:Int)(x:au):au:=byteOf (bits BinOp.xor IntKind.u8 x.toNat m)
def OJ (m:Int)(bs:ag au):Nat->ag au
 |0=>bs
 |k+1=>(OJ m bs k).set k (xb m (bs[k]?.getD 0))
theorem RJ (m:Int)(bs:ag au)(k:Nat):(OJ m bs k).length=bs.length:=by
 induction k with
 |zero=>rfl
 |succ k ih=>simp[OJ,ih]
theorem abR (m:Int)(bs:ag au)(k:Nat):∀j,k<=j->(OJ m bs k)[j]? =bs[j]? :=by
 induction k with
 |zero=>exact fun _ _=>rfl
 |succ k ih=>
  intro j hj;show((OJ m bs k).set k _)[j]? =_;rw[gQ (by omega),ih j (by omega)]
def Np (key:ag au):ag au:=key++List.replicate 32 0
def QR (KR:ag Int)(key bs:ag au):ag au:=OE KR (OJ 92 (Np key) 64++OE KR (OJ 54 (Np key) 64++bs))
theorem Ql (KR:ag Int)(key bs:ag au):(QR KR key bs).length=32:=Nj _ _
theorem u8_xor (x:au)(m:Int):0<=bits BinOp.xor IntKind.u8 x.toNat m/\bits BinOp.xor IntKind.u8 x.toNat m<256:=by
 unfold bits;simp only[IntKind.wrap,IntKind.bits,IntKind.signed];constructor
 ·exact iL _ (by decide)
 ·exact gG _ (by decide)
theorem Y2 (m:Int)(x:au):Extern.Stop.cell (xb m x)=.int .u8 (bits BinOp.xor IntKind.u8 x.toNat m):=by
 obtain⟨h1,h2⟩:=u8_xor x m;unfold xb;rw[LH];congr 1;omega
theorem ac1:(Tryz.prog.info? 145).map (fun i=>(i.zero,i.size))=some (some (.agg (cellsB (List.replicate 64 0))),(cellsB (List.replicate 64 0)).size):=by kernel_rfl
structure YO (w:ae)(key xs ys:ag au)(W:ae):Prop where
 kv:AV w.heap.size 24 (cellsB key) W
 res:AV (w.heap.size+1) 24 (cellsB z32) W
 a:AV (w.heap.size+2) 145 (cellsB xs) W
 b:AV (w.heap.size+3) 145 (cellsB ys) W
 lo:ai w.heap.size w W
theorem YO.below {w W W':ae}{key xs ys:ag au}(h:YO w key xs ys W)(hb:ai W.heap.size W W'):YO w key xs ys W':=⟨h.kv.below hb,h.res.below hb,h.a.below hb,h.b.below hb,JL h.lo hb⟩
theorem YO.lt {w W:ae}{key xs ys:ag au}(h:YO w key xs ys W):w.heap.size+3<W.heap.size:=h.b.lt
theorem AV.P8 {b c:Nat}{t:TypeId}{cs ds:ax ah}{W:ae}(h:AV b t cs W)(hn:b≠c):AV b t cs (W.setRow c ds):=⟨(cZ _ _ b _ hn).trans h.var⟩
theorem AV.aht {b:Nat}{t:TypeId}{cs ds:ax ah}{W:ae}(h:AV b t cs W):AV b t ds (W.setRow b ds):=⟨aQ _ _ _ _ _ _ h.var⟩
theorem YO.aAW {w W:ae}{key xs ys:ag au}(h:YO w key xs ys W)(zs:ag au):YO w key zs ys (W.setRow (w.heap.size+2) (cellsB zs)):=
 ⟨h.kv.P8 (by omega),h.res.P8 (by omega),h.a.aht,h.b.P8 (by omega),JR h.lo (by omega) _⟩
theorem YO.setB {w W:ae}{key xs ys:ag au}(h:YO w key xs ys W)(zs:ag au):YO w key xs zs (W.setRow (w.heap.size+3) (cellsB zs)):=
 ⟨h.kv.P8 (by omega),h.res.P8 (by omega),h.a.P8 (by omega),h.b.aht,JR h.lo (by omega) _⟩
theorem YO.drew {w W:ae}{key xs ys:ag au}(h:YO w key xs ys W):YO w key xs ys W.drew:=⟨h.kv.drew,h.res.drew,h.a.drew,h.b.drew,h.lo.drew⟩
theorem YO.aAU {w W:ae}{key xs ys:ag au}(h:YO w key xs ys W)(o:Nat)(x:au):YO w key (xs.set o x) ys (W.setCell ⟨w.heap.size+2,o,none⟩ (Extern.Stop.cell x)):=
 ⟨h.kv.far (by omega) _ _,h.res.far (by omega) _ _,by have:=h.a.put o (Extern.Stop.cell x);rwa [Ur] at this,h.b.far (by omega) _ _,h.lo.setCell (p:=⟨w.heap.size+2,o,none⟩) (by show w.heap.size<=w.heap.size+2;omega) _⟩
theorem YO.asN {w W:ae}{key xs ys:ag au}(h:YO w key xs ys W)(o:Nat)(x:au):YO w key xs (ys.set o x) (W.setCell ⟨w.heap.size+3,o,none⟩ (Extern.Stop.cell x)):=
 ⟨h.kv.far (by omega) _ _,h.res.far (by omega) _ _,h.a.far (by omega) _ _,by have:=h.b.put o (Extern.Stop.cell x);rwa [Ur] at this,h.lo.setCell (p:=⟨w.heap.size+3,o,none⟩) (by show w.heap.size<=w.heap.size+3;omega) _⟩
theorem aiw (w:ae)(key:ag au):YO w key (List.replicate 64 0) (List.replicate 64 0) ((((w.alloc (.cells (cellsB key) 24)).alloc (.cells (cellsB z32) 24)).alloc (.cells (cellsB (List.replicate 64 0)) 145)).alloc (.cells (cellsB (List.replicate 64 0)) 145)):=by
 obtain⟨W1,h1⟩:∃W,w.alloc (.cells (cellsB key) 24)=W:=⟨_,rfl⟩;have a1:=AV.new w (cellsB key) 24;have b1:=JM w (.cells (cellsB key) 24);have s1:W1.heap.size=w.heap.size+1:=by rw[<-h1];simp
 rw[h1] at a1 b1⊢;obtain⟨W2,h2⟩:∃W,W1.alloc (.cells (cellsB z32) 24)=W:=⟨_,rfl⟩;have a2:=AV.new W1 (cellsB z32) 24;have b2:=JM W1 (.cells (cellsB z32) 24);have s2:W2.heap.size=w.heap.size+2:=by rw[<-h2];simp[s1]
 rw[h2] at a2 b2⊢;rw[s1] at a2;obtain⟨W3,h3⟩:∃W,W2.alloc (.cells (cellsB (List.replicate 64 0)) 145)=W:=⟨_,rfl⟩;have a3:=AV.new W2 (cellsB (List.replicate 64 0)) 145;have b3:=JM W2 (.cells (cellsB (List.replicate 64 0)) 145);have s3:W3.heap.size=w.heap.size+3:=by rw[<-h3];simp[s2]
 rw[h3] at a3 b3⊢;rw[s2] at a3;have a4:=AV.new W3 (cellsB (List.replicate 64 0)) 145;have b4:=JM W3 (.cells (cellsB (List.replicate 64 0)) 145);rw[s3] at a4;exact⟨((a1.below b2).below b3).below b4,(a2.below b3).below b4,a3.below b4,a4,JL (JL (JL b1 b2) b3) b4⟩
theorem af5 (key:ag au)(h:key.length=32):cellsB (Np key)=(splice (cellsB (List.replicate 64 0)).toList 0 (JO key)).toArray:=by
 unfold splice cellsB Np;simp[JO,h]
theorem afT (KR:ag Int)(hK:KR.length=64)(w:ae)(hG:MS w 0 (JP KR))(key bs:ag au)(hk:key.length=32)(hb0:0<bs.length)(hlen:bs.length<=900000000)(ab off c:Nat)(hla:ab<w.heap.size)(hby:∀j,j<bs.length->w.cell? ⟨ab,off+j,none⟩=some (Extern.Stop.cell (bs[j]?.getD 0))):
  Calls Tryz.prog 54 #[.agg (cellsB key),.slice (some ⟨ab,off,none⟩) bs.length c] w (Gives (.agg (cellsB (QR KR key bs))) w):=by
 have Uc:=JJ (aiw w key);have HK:=JJ hK;have HG:=JJ hG;have QJ:=JJ hk;have SY:=JJ hby;obtain⟨N,hN⟩:∃N,bs.length=N:=⟨_,rfl⟩;rw[hN] at hb0 hlen⊢;have HN:=JJ hN;clear hK hG hk hby hN;go_enter Tryz.func54,Tryz.ntmps54;go_wp2_with(first
  |(refine JW rfl _ rfl (cellsB z32) NW ?_)
  |(refine JW rfl _ rfl (cellsB (List.replicate 64 0)) ac1 ?_))
 simp only[dO,fE,Nat.reduceAdd];generalize (((w.alloc (.cells (cellsB key) 24)).alloc (.cells (cellsB z32) 24)).alloc (.cells (cellsB (List.replicate 64 0)) 145)).alloc (.cells (cellsB (List.replicate 64 0)) 145)=W0 at Uc⊢;have hl0:=Uc.out.lt;have Rj:Hid (∀j u,(JO key)[j]? =some u->W0.drew.cell? ((⟨w.heap.size,0,none⟩:Addr).add j)=some u):=JJ fun j u hu=>by
  rw[addr_add];exact(Uc.out.kv.cell j).trans (by simpa[cellsB] using hu)
 have HC2:Hid ((JO key).length=32):=JJ (by simp[JO,QJ.out]);have Wh:Hid ((cellsB (List.replicate 64 0)).size=64):=JJ (by rw[KU];rfl);have WT:=JJ (af5 key QJ.out)
 go_region_law (refine V7 (by rfl) _ _ _ _ (by rfl) 5 bC (by kernel_rfl) (w.heap.size+2) 0 64 64 ⟨w.heap.size,0,none⟩ 32 32 (by rfl) (by rfl) (cellsB (List.replicate 64 0)) 145 Uc.out.a.drew.var (JO key) (by rw[HC2.out];rfl) Rj.out (by rw[HC2.out,Wh.out];decide) (aeg key) (cellsB (Np key)) WT.out ?_)
 have PT:=JJ (Uc.out.drew.aAW (Np key));generalize W0.drew.setRow (w.heap.size+2) (cellsB (Np key))=W1 at PT⊢;have hl1:=PT.out.lt;have HPL:Hid ((Np key).length=64):=JJ (by simp[Np,QJ.out]);have ave:Hid (∀zs:ag au,zs.length=64->(Tryz.prog.info? 145).map (·.size)=some (cellsB zs).size):=JJ fun zs hz=>by rw[KU,hz];kernel_rfl
 have HRA:Hid (MS W1 (w.heap.size+2) (cellsB (Np key))):=JJ ⟨by omega,PT.out.a.cell⟩;have HSO:Hid ((cellsB (List.replicate 64 0)).size=(cellsB (Np key)).size):=JJ (by rw[KU,KU,HPL.out];rfl);have HS2:=JJ (PT.out.setB (Np key));clear Rj HC2 Wh WT hl0;go_wp2_with(first
  |(with_reducible refine Nb 145 ?_;refine J3 rfl _ _ rfl (w.heap.size+2) rfl (cellsB (Np key)) HRA.out _ Tryz.underlying145 rfl (ave.out _ HPL.out) ?_)
  |(with_reducible refine Lj 145 ?_;refine aB rfl _ _ _ rfl (w.heap.size+3) (cellsB (Np key)) rfl rfl 145 (cellsB (List.replicate 64 0)) PT.out.b.var (ave.out _ HPL.out) HSO.out (O5 _) ?_))
 go_loopw [13] (fun i wr=>∃k:Nat,k<=64/\i=.int .i64 (k:Int)/\YO w key (OJ 54 (Np key) k) (OJ 92 (Np key) k) wr) (fun i _=>64 - (intOf i).toNat)
 case atStart=>exact⟨0,aG _,rfl,HS2.out⟩
 case round=>
  obtain⟨k,hk,rfl,hs⟩:=hrel;have HS:=JJ hs;have hl:=hs.lt;clear hs PT HS2 hl1 HRA HSO;by_cases hlt:k<64
  ·have i0:(0:Int)<=(k:Int):=by omega
   have i1:(k:Int)<64:=by omega
   obtain⟨x,hx⟩:∃x,(Np key)[k]?.getD 0=x:=⟨_,rfl⟩;have hxa:(OJ 54 (Np key) k)[k]?.getD 0=x:=by rw[abR _ _ _ _ (ay _),hx]
   have hxb:(OJ 92 (Np key) k)[k]?.getD 0=x:=by rw[abR _ _ _ _ (ay _),hx]
   have ca:wr.cell? ⟨w.heap.size+2,k,none⟩=some (Extern.Stop.cell x):=(HS.out.a.cell k).trans (by rw[Qe _ _ (by rw[RJ,HPL.out];exact hlt),hxa]);have cb:wr.cell? ⟨w.heap.size+3,k,none⟩=some (Extern.Stop.cell x):=(HS.out.b.cell k).trans (by rw[Qe _ _ (by rw[RJ,HPL.out];exact hlt),hxb]);have fa:=HS.out.a.Oo k;have fb:=HS.out.b.Oo k;have HN3:Hid (YO w key (OJ 54 (Np key) (k+1)) (OJ 92 (Np key) (k+1)) ((wr.setCell ⟨w.heap.size+2,k,none⟩ (Extern.Stop.cell (xb 54 x))).setCell ⟨w.heap.size+3,k,none⟩ (Extern.Stop.cell (xb 92 x)))):=JJ (by
    have h:=(HS.out.aAU k (xb 54 x)).asN k (xb 92 x);have e1:OJ 54 (Np key) (k+1)=(OJ 54 (Np key) k).set k (xb 54 x):=by show(OJ 54 (Np key) k).set k (xb 54 ((Np key)[k]?.getD 0))=_;rw[hx]
    have e2:OJ 92 (Np key) (k+1)=(OJ 92 (Np key) k).set k (xb 92 x):=by show(OJ 92 (Np key) k).set k (xb 92 ((Np key)[k]?.getD 0))=_;rw[hx]
    rw[e1,e2];exact h)
   rw[Y2 54 x,Y2 92 x] at HN3;simp only[Extern.Stop.cell] at ca cb;clear hx hxa hxb;go_wp2_with fail;go_roundw
   case rel=>exact⟨k+1,by omega,by go_num,HN3.out⟩
   case measure=>simp[intOf];omega
  ·have afM:k=64:=by omega
   have i1:¬(k:Int)<64:=by omega
   obtain⟨A,hA⟩:∃A,OJ 54 (Np key) 64=A:=⟨_,rfl⟩;obtain⟨B,hB⟩:∃B,OJ 92 (Np key) 64=B:=⟨_,rfl⟩;have hAl:A.length=64:=by rw[<-hA,RJ,HPL.out]
   have hBl:B.length=64:=by rw[<-hB,RJ,HPL.out]
   have hS:=HS.out;rw[afM,hA,hB] at hS;have RX:=JJ hS;have HAB:Hid (QR KR key bs=OE KR (B++OE KR (A++bs))):=JJ (by unfold QR;rw[hA,hB]);have hlo:=hS.lo;obtain⟨W2,hW2⟩:∃W,wr.alloc (.cells #[.slice (some ⟨w.heap.size+2,0,none⟩) 64 64,.slice (some ⟨ab,off,none⟩) N c] 55)=W:=⟨_,rfl⟩;have hb2:ai wr.heap.size wr W2:=by rw[<-hW2];exact JM wr _
   have hr2:W2.heap[wr.heap.size]? =some (.cells #[.slice (some ⟨w.heap.size+2,0,none⟩) 64 64,.slice (some ⟨ab,off,none⟩) N c] 55 (0,0)):=by rw[<-hW2];exact aF wr _
   have hsz2:W2.heap.size=wr.heap.size+1:=by rw[<-hW2];simp
   have hlow2:ai w.heap.size w W2:=JL hlo hb2;have hG2:MS W2 0 (JP KR):=⟨LK HG.out.1 hlow2.size,fun i=>(hlow2.cell (p:=⟨0,i,none⟩) HG.out.1).trans (HG.out.2 i)⟩;have HC:Hid (Calls Tryz.prog 73 #[.slice (some ⟨wr.heap.size,0,none⟩) 2 2] W2 fun e w'=>e=.returned (.agg (cellsB (OE KR (A++bs))))/\ai W2.heap.size W2 w'):=
    JJ (abz KR HK.out W2 hG2 A bs (A++bs) rfl (by omega) (by rw[HN.out];exact hb0) (by rw[KN,hAl,HN.out];omega) wr.heap.size (w.heap.size+2) 0 64 ab off c
     ((aC W2 _ 0 _ _ _ hr2).trans (by rw[hAl];rfl)) ((aC W2 _ 1 _ _ _ hr2).trans (by rw[HN.out];rfl)) (by omega) (by omega) (by omega)
     (fun j hj=>(hb2.cell (p:=⟨w.heap.size+2,0+j,none⟩) (by show w.heap.size+2<wr.heap.size;omega)).trans ((hS.a.cell (0+j)).trans (by rw[aT,Qe _ _ hj])))
     (fun j hj=>(hlow2.cell (p:=⟨ab,off+j,none⟩) hla).trans (SY.out j hj)))
   have HS2:=JJ (hS.below hb2);have HW2:=JJ hW2;have Yw:=JJ hAl;have HBL:=JJ hBl;have SL:=JJ hsz2;clear hb2 hr2 hsz2 hlow2 hG2 hS hlo hW2 hA hB hAl hBl afM hlt;go_wp2_with fail;rw[HW2.out];refine HC.out.mono ?_;rintro e W3 ⟨rfl,hb3⟩;have Qi:=JJ (HS2.out.below hb3);obtain⟨D1,hD1⟩:∃D,OE KR (A++bs)=D:=⟨_,rfl⟩;have hDl:D1.length=32:=by rw[<-hD1];exact Nj _ _
   rw[hD1];have HD1:=JJ hD1;have HDL:=JJ hDl;have aq0:Hid (∀zs:ag au,zs.length=32->(Tryz.prog.info? 24).map (·.size)=some (cellsB zs).size):=JJ fun zs hz=>by rw[KU,hz];kernel_rfl
   have avf:Hid (∀zs:ag au,zs.length=32->(cellsB z32).size=(cellsB zs).size):=JJ fun zs hz=>by rw[KU,KU,hz];rfl
   have HA3:=JJ (aF W3 (.cells (cellsB z32) 24));have aua:=JJ (JM W3 (.cells (cellsB z32) 24));have hl3:=Qi.out.lt;clear hb3 hD1 hDl HC HW2;go_wp2_with(first
    |(refine JW rfl _ rfl (cellsB z32) NW ?_)
    |(with_reducible refine Lj 24 ?_;refine aB rfl _ _ _ rfl W3.heap.size (cellsB D1) rfl rfl 24 (cellsB z32) HA3.out (aq0.out _ HDL.out) (avf.out _ HDL.out) (O5 _) ?_))
   have hS4:YO w key A B ((W3.alloc (.cells (cellsB z32) 24)).setRow W3.heap.size (cellsB D1)):=by
    have h:=Qi.out.below aua.out;exact⟨h.kv.P8 (by omega),h.res.P8 (by omega),h.a.P8 (by omega),h.b.P8 (by omega),JR h.lo (by omega) _⟩
   have hd4:AV W3.heap.size 24 (cellsB D1) ((W3.alloc (.cells (cellsB z32) 24)).setRow W3.heap.size (cellsB D1)):=⟨aQ _ _ _ _ _ _ HA3.out⟩;have hz4:((W3.alloc (.cells (cellsB z32) 24)).setRow W3.heap.size (cellsB D1)).heap.size=W3.heap.size+1:=by simp[World.setRow]
   generalize (W3.alloc (.cells (cellsB z32) 24)).setRow W3.heap.size (cellsB D1)=W4 at hS4 hd4 hz4⊢;obtain⟨W5,hW5⟩:∃W,(W4.alloc (.cells #[.slice (some ⟨w.heap.size+3,0,none⟩) 64 64,.slice (some ⟨W3.heap.size,0,none⟩) 32 32] 55)).drew=W:=⟨_,rfl⟩;have hb5:ai W4.heap.size W4 W5:=by rw[<-hW5];exact(JM W4 _).drew
   have VX:W5.heap[W4.heap.size]? =some (.cells #[.slice (some ⟨w.heap.size+3,0,none⟩) 64 64,.slice (some ⟨W3.heap.size,0,none⟩) 32 32] 55 (0,0)):=by rw[<-hW5];exact aF W4 _
   have hsz5:W5.heap.size=W4.heap.size+1:=by rw[<-hW5];simp
   have hS5:=hS4.below hb5;have hd5:=hd4.below hb5;have hG5:MS W5 0 (JP KR):=⟨LK HG.out.1 hS5.lo.size,fun i=>(hS5.lo.cell (p:=⟨0,i,none⟩) HG.out.1).trans (HG.out.2 i)⟩;have HC5:Hid (Calls Tryz.prog 73 #[.slice (some ⟨W4.heap.size,0,none⟩) 2 2] W5 fun e w'=>e=.returned (.agg (cellsB (OE KR (B++D1))))/\ai W5.heap.size W5 w'):=
    JJ (abz KR HK.out W5 hG5 B D1 (B++D1) rfl (by rw[HBL.out];decide) (by rw[HDL.out];decide) (by rw[KN,HBL.out,HDL.out];decide) W4.heap.size (w.heap.size+3) 0 64 W3.heap.size 0 32
     ((aC W5 _ 0 _ _ _ VX).trans (by rw[HBL.out];rfl)) ((aC W5 _ 1 _ _ _ VX).trans (by rw[HDL.out];rfl)) (by omega) (by omega) (by omega)
     (fun j hj=>(hS5.b.cell (0+j)).trans (by rw[aT,Qe _ _ hj]))
     (fun j hj=>(hd5.cell (0+j)).trans (by rw[aT,Qe _ _ hj])))
   have UO:=JJ hS5;have HW5:=JJ hW5;clear hb5 VX hsz5 hG5 hS5 hd5 hW5 hS4 hd4 HA3 aua hz4;go_still_tail 2,(by kernel_rfl);go_wp2_with fail;rw[HW5.out];refine HC5.out.mono ?_;rintro e W6 ⟨rfl,hb6⟩;have HS6:=JJ (UO.out.below hb6);have hE:OE KR (B++D1)=QR KR key bs:=by rw[HAB.out,HD1.out]
   rw[hE];have HML:=JJ (Ql KR key bs);clear hb6 hE;go_wp2_with(with_reducible refine Lj 24 ?_;refine aB rfl _ _ _ rfl (w.heap.size+1) (cellsB (QR KR key bs)) rfl rfl 24 (cellsB z32) HS6.out.res.var (aq0.out _ HML.out) (avf.out _ HML.out) (O5 _) ?_);refine aX (v:=.agg (cellsB (QR KR key bs))) (dH rfl _ _ (w.heap.size+1) _ (cellsB (QR KR key bs)) (0,0) _ rfl (aQ _ _ _ _ _ _ HS6.out.res.var) aK rfl (aq0.out _ HML.out)) rfl ?_;exact⟨rfl,JR HS6.out.lo (bV _) _⟩
end Go.Proofs.YtbaehbbonkljpaaGreatDoor
namespace Go.Proofs.YtbaehbbonkljpaaGreatDoor
open Go Go.RowKit
theorem aeF (x y:Int):bits BinOp.or IntKind.u32 x y=bits BinOp.or IntKind.u32 y x:=by simp only[bits,BitVec.or_comm]
theorem P9 (x n s:Int)(h:amt (-n)=s)(hs:s=32 - n):MC x n=Qg x (amt (-n)):=by
 rw[h];subst hs;unfold MC Qg;rw[aeF,show(32:Int) - (32 - n)=n by omega]
theorem tr7 (x:Int):MC x 7=Qg x (amt (-7)):=P9 x 7 25 (by decide+kernel) (by decide)
theorem aA2 (x:Int):MC x 18=Qg x (amt (-18)):=P9 x 18 14 (by decide+kernel) (by decide)
theorem aA1 (x:Int):MC x 17=Qg x (amt (-17)):=P9 x 17 15 (by decide+kernel) (by decide)
theorem aA3 (x:Int):MC x 19=Qg x (amt (-19)):=P9 x 19 13 (by decide+kernel) (by decide)
theorem tr6 (x:Int):MC x 6=Qg x (amt (-6)):=P9 x 6 26 (by decide+kernel) (by decide)
theorem aAZ (x:Int):MC x 11=Qg x (amt (-11)):=P9 x 11 21 (by decide+kernel) (by decide)
theorem aA5 (x:Int):MC x 25=Qg x (amt (-25)):=P9 x 25 7 (by decide+kernel) (by decide)
theorem tr2 (x:Int):MC x 2=Qg x (amt (-2)):=P9 x 2 30 (by decide+kernel) (by decide)
theorem aA0 (x:Int):MC x 13=Qg x (amt (-13)):=P9 x 13 19 (by decide+kernel) (by decide)
theorem aA4 (x:Int):MC x 22=Qg x (amt (-22)):=P9 x 22 10 (by decide+kernel) (by decide)
theorem acx (a b i m:Nat)(hm:m=2 ^ i)(h:b<m):(a*m) ||| b=a*m+b:=by
 subst hm;rw[<-Nat.shiftLeft_eq,kZ h]
theorem al2 (x0 x1 x2 x3:Int)(a0:0<=x0)(b0:x0<256)(a1:0<=x1)(b1:x1<256)(a2:0<=x2)(b2:x2<256)(a3:0<=x3)(b3:x3<256):
  ai8 x0 x1 x2 x3=x0*16777216+x1*65536+x2*256+x3:=by
 obtain⟨n0,rfl⟩:=iG a0;obtain⟨n1,rfl⟩:=iG a1;obtain⟨n2,rfl⟩:=iG a2;obtain⟨n3,rfl⟩:=iG a3;have w:∀n:Nat,n<4294967296->IntKind.u32.wrap (n:Int)=(n:Int):=fun n h=>by rw[lV];omega
 unfold ai8;rw[w n0 (by omega),w n1 (by omega),w n2 (by omega),w n3 (by omega)];rw[show(n0:Int)*16777216=((n0*16777216:Nat):Int) by omega,show(n1:Int)*65536=((n1*65536:Nat):Int) by omega,show(n2:Int)*256=((n2*256:Nat):Int) by omega];rw[w _ (by omega),w _ (by omega),w _ (by omega)];rw[u32_or_nat _ _ (by omega) (by omega),acx n0 (n1*65536) 24 16777216 (by decide) (by omega)];rw[u32_or_nat _ _ (by omega) (by omega),show n0*16777216+n1*65536=(n0*256+n1)*65536 by omega,acx _ (n2*256) 16 65536 (by decide) (by omega)];rw[u32_or_nat _ _ (by omega) (by omega),show(n0*256+n1)*65536+n2*256=((n0*256+n1)*256+n2)*256 by omega,acx _ n3 8 256 (by decide) (by omega)];omega
theorem aoM (e:Int)(h0:0<=e)(h1:e<4294967296):bits BinOp.xor IntKind.u32 (if IntKind.u32.signed=true then -1 else IntKind.u32.max) e=4294967295 - e:=by
 obtain⟨n,rfl⟩:=iG h0;rw[show(if IntKind.u32.signed=true then (-1:Int) else IntKind.u32.max)=((4294967295:Nat):Int) from by decide,u32_xor_nat _ _ (by decide) (by omega)];have h2:4294967295 ^^^ n=4294967295 - n:=by
  have h:=dA BitVec.toNat (BitVec.allOnes_xor (x:=BitVec.ofNat 32 n));rw[BitVec.toNat_xor,BitVec.toNat_not,BitVec.toNat_allOnes,BitVec.toNat_ofNat,Nat.mod_eq_of_lt (by omega)] at h;exact h
 rw[h2];omega
end Go.Proofs.YtbaehbbonkljpaaGreatDoor
