/- The texts Vf, in this order. -/
import Derived.Test.YtbaehbbonkljpaaGreatDoorT14
import Derived.Test.YtbaehbbonkljpaaGreatDoorT20
set_option maxRecDepth 10000
set_option maxHeartbeats 8000000
namespace Go.Proofs.YtbaehbbonkljpaaGreatDoor
open Go Go.RowKit
theorem aek (z:Zn)(s:Zs)(w:ae)(hy:z.J6= []):Calls Tryz.prog 76 #[.agg (JV z s)] w (anv w (VF z) (Me (VF z) (Nr z*1440))):=by
 have e1:VF z= []:=by unfold VF;rw[hy]
 rw[e1];obtain⟨⟨ep,mo,lp,ru⟩,st,tr,ho,yr⟩:=z;obtain⟨A0,a,R0,r,C0,c0,D0,d0⟩:=s;simp only at hy;subst hy;unfold JV;simp only[dE];obtain⟨n0,hn0⟩:∃n,mo.length=n:=⟨_,rfl⟩;obtain⟨n1,hn1⟩:∃n,ru.length=n:=⟨_,rfl⟩;obtain⟨n2,hn2⟩:∃n,tr.length=n:=⟨_,rfl⟩;rw[hn0,hn1,hn2];clear hn0 hn1 hn2 e1;go_enter Tryz.func76,Tryz.ntmps76;go_wp2_with fail;go_ret2;refine⟨_,0,_,rfl,rfl,?_,JL (JM w _) (JM _ _)⟩;have h:=NI (w.alloc (.cells #[I ep,.slice A0 n0 a,I lp,.slice R0 n1 r,I st,.slice C0 n2 c0,I ho,.slice D0 0 d0] 69)) 108 2;refine Om.lower (lo:=w.heap.size+1) ?_ (bV _);simpa[Om] using h
theorem aiN (z:Zn)(s:Zs)(w:ae)(hc:MR z.cal)(h:N7 w w.heap.size s z)(hy:SV z)(hlt:z.trans.length<=1000):Calls Tryz.prog 76 #[.agg (JV z s)] w (anv w (VF z) (Me (VF z) (Nr z*1440))):=by
 rcases hy with hy|⟨r0,r1,hy,h0,h1⟩
 ·exact aek z s w hy
 ·exact ael z s r0 r1 w hc h hy h0 h1 hlt
theorem Zt (ts:ag Tr)(sz t:Int):(MH ts sz t).2=decide (ts.length≠0):=by
 unfold MH;by_cases h:ts.length=0
 ·rw[bD h];simp[h]
 ·rw[bP h,aZ h];split<;>rfl
theorem ah9 {ts:ag Tr}{size t:Int}(h:Rz ts)(hs:1440<=size)(hs2:size<=2644992000)(ht0: -2251799813685248<=t)(ht:t<=2251799813685248): -10000000000<=(MH ts size t).1.at_/\(MH ts size t).1.at_<=4000000000000000:=by
 obtain⟨q,hq⟩:∃q,TU ts size t=q:=⟨_,rfl⟩;have hb:=aal hq hs (QT 0 h).1 ht0 ht;have h0:=QT 0 h;unfold MH;split
 ·simp
 ·rw[hq];split
  ·rename_i j _;have hj:=QT j h;simp only;omega
  ·simp only;omega
theorem aas {n l:Int}(h:wiB n l=true): -l<=n/\n<=l:=by
 unfold wiB at h;rw[eX,eP,eP] at h;exact h
theorem acR {n l:Int}(h:wiB n l=false):¬(-l<=n/\n<=l):=fun hh=>by
 rw[Tn hh] at h;cases h
theorem Q7 (n l:Int)(b:Bool)(w:ae)(hb:wiB n l=b)(hl:0<=l)(hl2:l<=4000000000000000):Calls Tryz.prog 75 #[I n,I l] w fun e w'=>e=.returned (.bool b)/\w'=w:=by
 rw[<-hb];exact ags n l w hl hl2
theorem ao7 {z:Zn}(h:512<z.trans.length):VH z=2:=bD h
theorem ao6 {z:Zn}(h:z.trans.length<=512)(hn:¬YR z):VH z=1:=by
 unfold VH;rw[bP (by omega),Sr hn,bP (by simp)]
theorem amw {z:Zn}(h:YR z):VH z=0:=by
 unfold VH;rw[bP (by have:=h.trl;omega),acw h,bD rfl]
theorem als (lo n c:Nat)(A:aj Addr)(ts:ag Tr)(cyc t:Int)(w:ae)(hl:ts.length=n)(hn1:n<=10000000)(hO:Om lo w A n c ts)(htb:Rz ts)(hc1:1<=cyc)(hc2:cyc<=1836800)(ht0: -2251799813685248<=t)(ht:t<=2251799813685248):
  Calls Tryz.prog 77 #[.slice A n c,I cyc,I t] w (Gives (.tuple #[.agg #[I (MH ts (cyc*1440) t).1.at_,I (MH ts (cyc*1440) t).1.off],.bool (MH ts (cyc*1440) t).2]) w):=by
 obtain⟨sz,hsz⟩:∃v,cyc*1440=v:=⟨_,rfl⟩;rw[hsz];have hs1:1440<=sz:=by omega
 have hs2:sz<=2644992000:=by omega
 have HL:=JJ hl;rcases jJ n with hn0|hn0
 ·subst hn0;have e1:MH ts sz t=(⟨0,0⟩,false):=by unfold MH;rw[bD hl]
  rw[e1];clear hO htb hl e1 hsz;go_enter Tryz.func77,Tryz.ntmps77;go_wp2_with fail;refine aX (v:=.tuple #[.agg #[I 0,I 0],.bool false]) (Ko rfl _ _ w.heap.size _ #[I 0,I 0] (0,0) _ rfl (aF w _) jK rfl (by kernel_rfl) _ rfl) rfl ?_;exact⟨rfl,JM w _⟩
 ·obtain⟨g,cap,hgv,hgl⟩:=LW hO hn0;injection hgv with hA hB hC;subst hA hC;clear hB;have HO:=JJ (fO hO (.cells #[I 0,I 0] 108));have XD:=JJ (fun k=>QT k htb);clear hO hl htb;obtain⟨res,hres⟩:∃r,MH ts sz t=r:=⟨_,rfl⟩;rw[hres];have Uh:=JJ hres;clear hres;obtain⟨q,hq⟩:∃v,TU ts sz t=v:=⟨_,rfl⟩;obtain⟨q0,q1,p0,p1,ht2,he⟩:=aal hq hs1 (XD.out 0).1 ht0 ht;have HQ:=JJ hq;unfold TU at hq;obtain⟨p,hp⟩:∃v,q*sz=v:=⟨_,rfl⟩;rw[hp] at p0 p1 he;have HP:=JJ hp;have hb0:=XD.out 0;have x0:=UB HO.out HL.out 0 hn0;have y0:=VC HO.out HL.out 0 hn0;rw[gU] at x0 y0;rw[aT] at y0;obtain⟨a0,ha0⟩:∃v,Nz ts 0=v:=⟨_,rfl⟩;obtain⟨o0,ho0⟩:∃v,Pn ts 0=v:=⟨_,rfl⟩;rw[ha0] at x0 hq hb0 ht2;rw[ho0] at y0;have WX:=JJ ha0;have Zb:=JJ ho0;clear ha0 ho0;have hnn:((n:Int)==0)=false:=by simp;omega
  have i2:(0:Int)<(n:Int):=by omega
  have hs0:sz≠0:=by omega
  have hs3:sz≠ -1:=by omega
  have hcut:(a0<t/\(t - a0).tdiv sz=q)\/(¬a0<t/\q=0):=by
   by_cases h:a0<t
   ·rw[bD h] at hq;exact .inl ⟨h,hq⟩
   ·rw[bP h] at hq;exact .inr ⟨h,hq.symm⟩
  clear hq;rcases hcut with ⟨hat,hq⟩|⟨hat,hq⟩
  ·have ht3:t<=a0+(p+sz):=by omega
   have aEa:decide (a0<t)=true:=aZ hat;have hw1:IntKind.i64.wrap p=p:=by rw[aA];omega
   have hw2:IntKind.i64.wrap (p+sz)=p+sz:=by rw[aA];omega
   have hw3:IntKind.i64.wrap (a0+(p+sz))=a0+(p+sz):=by rw[aA];omega
   have hw4:IntKind.i64.wrap (q+1)=q+1:=by rw[aA];omega
   go_enter Tryz.func77,Tryz.ntmps77;go_wp2_with fail;refine jU 2 ?_;rw[ig];go_wp2_with fail;clear x0 y0;have HR:Hid ((w.alloc (.cells #[I 0,I 0] 108)).heap[w.heap.size]? =some (.cells #[I 0,I 0] 108 (0,0))/\ai w.heap.size w (w.alloc (.cells #[I 0,I 0] 108))):=JJ ⟨aF w _,JM w _⟩;generalize w.alloc (.cells #[I 0,I 0] 108)=W0 at HR HO⊢
   go_loopw [11] (fun i wr=>∃k:Nat,k<=n/\i=.int .i64 k/\(∀j,j<k->Nz ts j+p<t)/\W0=wr) (fun i _=>n - (intOf i).toNat)
   case atStart=>exact⟨0,aG _,by go_num,(fun _ h=>absurd h (fD _)),rfl⟩
   case round=>
    obtain⟨k,hk,rfl,hall,rfl⟩:=hrel;have Ox:=JJ hall;clear hall;by_cases hlt:k<n
    ·have x1:=UB HO.out HL.out k hlt;have y1:=VC HO.out HL.out k hlt;have hb1:=XD.out k;obtain⟨a1,ha1⟩:∃v,Nz ts k=v:=⟨_,rfl⟩;obtain⟨o1,ho1⟩:∃v,Pn ts k=v:=⟨_,rfl⟩;rw[ha1] at x1 hb1;rw[ho1] at y1;have HA1:=JJ ha1;have VS:=JJ ho1;clear ha1 ho1;have i0:(0:Int)<=(k:Int):=by omega
     have i1:(k:Int)<(n:Int):=by omega
     have hw5:IntKind.i64.wrap (a1+p)=a1+p:=by rw[aA];omega
     have hw6:IntKind.i64.wrap 0=0:=by rw[aA];omega
     by_cases hge:t<=a1+p
     ·have HE:Hid (res=(⟨a1+p,o1⟩,true)):=JJ (by
       have h:=XK HQ.out HL.out hlt (by rw[HP.out];exact Ox.out) (by rw[HP.out,HA1.out];exact hge);rw[<-Uh.out,h,HA1.out,VS.out,HP.out])
      go_wp2_with fail;have r0:W0.cell? ⟨w.heap.size,0,none⟩=some (I 0):=aC _ _ 0 _ _ _ HR.out.1;have r1:W0.cell? ⟨w.heap.size,1,none⟩=some (I 0):=aC _ _ 1 _ _ _ HR.out.1;have f0:∀i,W0.frozen? ⟨w.heap.size,i,none⟩=false:=fun i=>aP _ _ i _ _ HR.out.1;go_still_tail 15,(by kernel_rfl);change wpList _ _ _ _ _ W0.drew;go_wp2_with fail;have hh:(((W0.setCell ⟨w.heap.size,0,none⟩ (I (a1+p))).setCell ⟨w.heap.size,1,none⟩ (I o1)).drew).heap[w.heap.size]? =some (.cells #[I (a1+p),I o1] 108 (0,0)):=bJ _ w.heap.size 1 _ _ _ (bJ _ w.heap.size 0 _ _ _ HR.out.1);refine aX (v:=.tuple #[.agg #[I (a1+p),I o1],.bool true]) (Ko rfl _ _ w.heap.size _ #[I (a1+p),I o1] (0,0) _ rfl hh jK rfl (by kernel_rfl) _ rfl) rfl ?_;exact⟨by rw[HE.out],((HR.out.2.setCell (p:=⟨w.heap.size,0,none⟩) (ay _) _).setCell (p:=⟨w.heap.size,1,none⟩) (ay _) _).drew⟩
     ·go_wp2_with fail;go_roundw
      case rel=>exact⟨k+1,by omega,by go_num,(fun j hj=>by rcases fG.1 hj with h|rfl;exact Ox.out j h;rw[HA1.out];omega),by first|trivial|rfl⟩
      case measure=>simp[intOf];omega
    ·have hnl:¬(k:Int)<(n:Int):=by omega
     have HE:Hid (res=(⟨a0+(p+sz),o0⟩,true)):=JJ (by
      have h:=Zu HQ.out HL.out hn0 (by rw[HP.out];exact fun j hj=>Ox.out j (by omega));rw[<-Uh.out,h,WX.out,Zb.out,he])
     go_wp2_with fail;rw[ig];have x0:=UB HO.out HL.out 0 hn0;have y0:=VC HO.out HL.out 0 hn0;rw[gU] at x0 y0;rw[aT] at y0;rw[WX.out] at x0;rw[Zb.out] at y0;have hw6:IntKind.i64.wrap 0=0:=by rw[aA];omega
     go_wp2_with fail;refine jU 1 ?_;rw[ig];go_wp2_with fail;have r0:W0.cell? ⟨w.heap.size,0,none⟩=some (I 0):=aC _ _ 0 _ _ _ HR.out.1;have r1:W0.cell? ⟨w.heap.size,1,none⟩=some (I 0):=aC _ _ 1 _ _ _ HR.out.1;have f0:∀i,W0.frozen? ⟨w.heap.size,i,none⟩=false:=fun i=>aP _ _ i _ _ HR.out.1;go_still_tail 15,(by kernel_rfl);change wpList _ _ _ _ _ W0.drew;go_wp2_with fail;have hh:(((W0.setCell ⟨w.heap.size,0,none⟩ (I (a0+(p+sz)))).setCell ⟨w.heap.size,1,none⟩ (I o0)).drew).heap[w.heap.size]? =some (.cells #[I (a0+(p+sz)),I o0] 108 (0,0)):=bJ _ w.heap.size 1 _ _ _ (bJ _ w.heap.size 0 _ _ _ HR.out.1);refine aX (v:=.tuple #[.agg #[I (a0+(p+sz)),I o0],.bool true]) (Ko rfl _ _ w.heap.size _ #[I (a0+(p+sz)),I o0] (0,0) _ rfl hh jK rfl (by kernel_rfl) _ rfl) rfl ?_;exact⟨by rw[HE.out],((HR.out.2.setCell (p:=⟨w.heap.size,0,none⟩) (ay _) _).setCell (p:=⟨w.heap.size,1,none⟩) (ay _) _).drew⟩
  ·subst hq;rw[lI] at hp;subst hp;clear he p0 p1 q0 q1 ht2;go_enter Tryz.func77,Tryz.ntmps77;go_wp2_with fail;refine jU 2 ?_;rw[ig];go_wp2_with fail;clear x0 y0;have HR:Hid ((w.alloc (.cells #[I 0,I 0] 108)).heap[w.heap.size]? =some (.cells #[I 0,I 0] 108 (0,0))/\ai w.heap.size w (w.alloc (.cells #[I 0,I 0] 108))):=JJ ⟨aF w _,JM w _⟩;generalize w.alloc (.cells #[I 0,I 0] 108)=W0 at HR HO⊢
   go_loopw [11] (fun i wr=>∃k:Nat,k<=n/\i=.int .i64 k/\(∀j,j<k->Nz ts j+0<t)/\W0=wr) (fun i _=>n - (intOf i).toNat)
   case atStart=>exact⟨0,aG _,by go_num,(fun _ h=>absurd h (fD _)),rfl⟩
   case round=>
    obtain⟨k,hk,rfl,hall,rfl⟩:=hrel;have Ox:=JJ hall;clear hall;by_cases hlt:k<n
    ·have x1:=UB HO.out HL.out k hlt;have y1:=VC HO.out HL.out k hlt;have hb1:=XD.out k;obtain⟨a1,ha1⟩:∃v,Nz ts k=v:=⟨_,rfl⟩;obtain⟨o1,ho1⟩:∃v,Pn ts k=v:=⟨_,rfl⟩;rw[ha1] at x1 hb1;rw[ho1] at y1;have HA1:=JJ ha1;have VS:=JJ ho1;clear ha1 ho1;have i0:(0:Int)<=(k:Int):=by omega
     have i1:(k:Int)<(n:Int):=by omega
     have hw5:IntKind.i64.wrap (a1)=a1:=by rw[aA];omega
     have hw6:IntKind.i64.wrap 0=0:=by rw[aA];omega
     by_cases hge:t<=a1
     ·have HE:Hid (res=(⟨a1,o1⟩,true)):=JJ (by
       have h:=XK HQ.out HL.out hlt (by rw[lI];exact Ox.out) (by rw[lI,HA1.out];omega);rw[<-Uh.out,h,HA1.out,VS.out,lI,kM])
      go_wp2_with fail;have r0:W0.cell? ⟨w.heap.size,0,none⟩=some (I 0):=aC _ _ 0 _ _ _ HR.out.1;have r1:W0.cell? ⟨w.heap.size,1,none⟩=some (I 0):=aC _ _ 1 _ _ _ HR.out.1;have f0:∀i,W0.frozen? ⟨w.heap.size,i,none⟩=false:=fun i=>aP _ _ i _ _ HR.out.1;go_still_tail 15,(by kernel_rfl);change wpList _ _ _ _ _ W0.drew;go_wp2_with fail;have hh:(((W0.setCell ⟨w.heap.size,0,none⟩ (I (a1))).setCell ⟨w.heap.size,1,none⟩ (I o1)).drew).heap[w.heap.size]? =some (.cells #[I (a1),I o1] 108 (0,0)):=bJ _ w.heap.size 1 _ _ _ (bJ _ w.heap.size 0 _ _ _ HR.out.1);refine aX (v:=.tuple #[.agg #[I (a1),I o1],.bool true]) (Ko rfl _ _ w.heap.size _ #[I (a1),I o1] (0,0) _ rfl hh jK rfl (by kernel_rfl) _ rfl) rfl ?_;exact⟨by rw[HE.out],((HR.out.2.setCell (p:=⟨w.heap.size,0,none⟩) (ay _) _).setCell (p:=⟨w.heap.size,1,none⟩) (ay _) _).drew⟩
     ·go_wp2_with fail;go_roundw
      case rel=>exact⟨k+1,by omega,by go_num,(fun j hj=>by rcases fG.1 hj with h|rfl;exact Ox.out j h;rw[HA1.out];omega),by first|trivial|rfl⟩
      case measure=>simp[intOf];omega
    ·exact absurd (Ox.out 0 (by omega)) (by rw[WX.out];omega)
end Go.Proofs.YtbaehbbonkljpaaGreatDoor
