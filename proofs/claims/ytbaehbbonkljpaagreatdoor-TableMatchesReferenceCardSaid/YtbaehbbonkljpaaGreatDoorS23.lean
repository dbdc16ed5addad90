/- The texts Vf, in this order. -/
import Derived.Test.YtbaehbbonkljpaaGreatDoorS00
import Derived.Test.YtbaehbbonkljpaaGreatDoorS10
import Derived.Test.YtbaehbbonkljpaaGreatDoorS13
import Derived.Test.YtbaehbbonkljpaaGreatDoorS16
import Derived.Test.YtbaehbbonkljpaaGreatDoorS22
set_option maxRecDepth 10000
set_option maxHeartbeats 8000000
namespace Go.Proofs.YtbaehbbonkljpaaGreatDoor
open Go Go.RowKit
theorem Jz (z:Zn) (s:Zs) (w:World) (hy:z.aH= []):Calls Tryz.prog 76 #[.agg (ay z s)] w (Xv w (uZ z) (eH (uZ z) (gy z*1440))):=by
 have e1:uZ z= []:=by unfold uZ;rw [hy]
 rw [e1];obtain ⟨⟨ep,mo,lp,ru⟩,st,tr,ho,yr⟩:=z;obtain ⟨A0,a,R0,r,C0,c0,D0,d0⟩:=s;simp only at hy;subst hy;unfold ay;simp only [List.length_nil];obtain ⟨n0,hn0⟩:∃n,mo.length=n:=⟨_,rfl⟩;obtain ⟨n1,hn1⟩:∃n,ru.length=n:=⟨_,rfl⟩;obtain ⟨n2,hn2⟩:∃n,tr.length=n:=⟨_,rfl⟩;rw [hn0,hn1,hn2];clear hn0 hn1 hn2 e1;go_enter Tryz.func76,Tryz.ntmps76;go_wp2_with fail;go_ret2;refine ⟨_,0,_,rfl,rfl,?_,ah (ag w _) (ag _ _)⟩;have h:=iZ (w.alloc (.cells #[I ep, .slice A0 n0 a,I lp, .slice R0 n1 r,I st, .slice C0 n2 c0,I ho, .slice D0 0 d0] 69)) 108 2;refine iO.lower (lo:=w.heap.size+1) ?_ (Nat.le_succ _);simpa [iO] using h
theorem QD (z:Zn) (s:Zs) (w:World) (hc:fJ z.cal) (h:iP w w.heap.size s z) (hy:qw z) (hlt:z.trans.length<=1000):Calls Tryz.prog 76 #[.agg (ay z s)] w (Xv w (uZ z) (eH (uZ z) (gy z*1440))):=by
 rcases hy with hy|⟨r0,r1,hy,h0,h1⟩
 ·exact Jz z s w hy
 ·exact JA z s r0 r1 w hc h hy h0 h1 hlt
theorem BA (ts:List Tr) (sz t:Int):(eY ts sz t).2=decide (ts.length≠0):=by
 unfold eY;by_cases h:ts.length=0
 ·rw [if_pos h];simp [h]
 ·rw [if_neg h,decide_eq_true h];split<;>rfl
theorem P6 {ts:List Tr} {size t:Int} (h:oG ts) (hs:1440<=size) (hs2:size<=2644992000) (ht0: -2251799813685248<=t) (ht:t<=2251799813685248): -10000000000<=(eY ts size t).1.at_/\(eY ts size t).1.at_<=4000000000000000:=by
 obtain ⟨q,hq⟩:∃q,rf ts size t=q:=⟨_,rfl⟩;have hb:=CW hq hs (nG 0 h).1 ht0 ht;have h0:=nG 0 h;unfold eY;split
 ·simp
 ·rw [hq];split
  ·rename_i j _;have hj:=nG j h;simp only;omega
  ·simp only;omega
theorem Dh {n l:Int} (h:En n l=true): -l<=n/\n<=l:=by
 unfold En at h;rw [Bool.and_eq_true,decide_eq_true_eq,decide_eq_true_eq] at h;exact h
theorem G9 {n l:Int} (h:En n l=false):¬(-l<=n/\n<=l):=fun hh=>by
 rw [qG hh] at h;cases h
theorem nS (n l:Int) (b:Bool) (w:World) (hb:En n l=b) (hl:0<=l) (hl2:l<=4000000000000000):Calls Tryz.prog 75 #[I n,I l] w fun e w'=>e= .returned (.bool b)/\w'=w:=by
 rw [<-hb];exact NM n l w hl hl2
theorem Za {z:Zn} (h:512<z.trans.length):vg z=2:=if_pos h
theorem Y9 {z:Zn} (h:z.trans.length<=512) (hn:¬Ag z):vg z=1:=by
 unfold vg;rw [if_neg (by omega),pI hn,if_neg (by simp)]
theorem VQ {z:Zn} (h:Ag z):vg z=0:=by
 unfold vg;rw [if_neg (by have:=h.QS;omega),Gy h,if_pos rfl]
theorem UK (lo n c:Nat) (A:Option Addr) (ts:List Tr) (Mc t:Int) (w:World) (hl:ts.length=n) (hn1:n<=10000000) (hO:iO lo w A n c ts) (htb:oG ts) (hc1:1<=Mc) (hc2:Mc<=1836800) (ht0: -2251799813685248<=t) (ht:t<=2251799813685248):
  Calls Tryz.prog 77 #[.slice A n c,I Mc,I t] w (Gives (.tuple #[.agg #[I (eY ts (Mc*1440) t).1.at_,I (eY ts (Mc*1440) t).1.off], .bool (eY ts (Mc*1440) t).2]) w):=by
 obtain ⟨sz,hsz⟩:∃v,Mc*1440=v:=⟨_,rfl⟩;rw [hsz];have hs1:1440<=sz:=by omega
 have hs2:sz<=2644992000:=by omega
 have HL:=ae hl;rcases Nat.eq_zero_or_pos n with hn0|hn0
 ·subst hn0;have e1:eY ts sz t=(⟨0,0⟩,false):=by unfold eY;rw [if_pos hl]
  rw [e1];clear hO htb hl e1 hsz;go_enter Tryz.func77,Tryz.ntmps77;go_wp2_with fail;refine bodyPost_ret (v:= .tuple #[.agg #[I 0,I 0], .bool false]) (aV rfl _ _ w.heap.size _ #[I 0,I 0] (0,0) _ rfl (heap_alloc_last w _) Tryz.underlying108 rfl (by kernel_rfl) _ rfl) rfl ?_;exact ⟨rfl,ag w _⟩
 ·obtain ⟨g,cap,hgv,hgl⟩:=gG hO hn0;injection hgv with hA hB hC;subst hA hC;clear hB;have HO:=ae (World.ownsRow.alloc hO (.cells #[I 0,I 0] 108));have DU:=ae (fun k=>nG k htb);clear hO hl htb;obtain ⟨res,hres⟩:∃r,eY ts sz t=r:=⟨_,rfl⟩;rw [hres];have rF:=ae hres;clear hres;obtain ⟨q,hq⟩:∃v,rf ts sz t=v:=⟨_,rfl⟩;obtain ⟨q0,q1,p0,p1,ht2,he⟩:=CW hq hs1 (DU.out 0).1 ht0 ht;have HQ:=ae hq;unfold rf at hq;obtain ⟨p,hp⟩:∃v,q*sz=v:=⟨_,rfl⟩;rw [hp] at p0 p1 he;have HP:=ae hp;have hb0:=DU.out 0;have x0:=rX HO.out HL.out 0 hn0;have y0:=uV HO.out HL.out 0 hn0;rw [Nat.zero_mul] at x0 y0;rw [Nat.zero_add] at y0;obtain ⟨a0,ha0⟩:∃v,gU ts 0=v:=⟨_,rfl⟩;obtain ⟨o0,ho0⟩:∃v,jI ts 0=v:=⟨_,rfl⟩;rw [ha0] at x0 hq hb0 ht2;rw [ho0] at y0;have yV:=ae ha0;have AO:=ae ho0;clear ha0 ho0;have hnn:((n:Int)==0)=false:=by simp;omega
  have i2:(0:Int)<(n:Int):=by omega
  have hs0:sz≠0:=by omega
  have hs3:sz≠ -1:=by omega
  have hcut:(a0<t/\(t - a0).tdiv sz=q)\/(¬a0<t/\q=0):=by
   by_cases h:a0<t
   ·rw [if_pos h] at hq;exact .inl ⟨h,hq⟩
   ·rw [if_neg h] at hq;exact .inr ⟨h,hq.symm⟩
  clear hq;rcases hcut with ⟨hat,hq⟩|⟨hat,hq⟩
  ·have ht3:t<=a0+(p+sz):=by omega
   have hatd:decide (a0<t)=true:=decide_eq_true hat;have hw1:IntKind.i64.wrap p=p:=by rw [IntKind.wrap_i64];omega
   have hw2:IntKind.i64.wrap (p+sz)=p+sz:=by rw [IntKind.wrap_i64];omega
   have hw3:IntKind.i64.wrap (a0+(p+sz))=a0+(p+sz):=by rw [IntKind.wrap_i64];omega
   have hw4:IntKind.i64.wrap (q+1)=q+1:=by rw [IntKind.wrap_i64];omega
   go_enter Tryz.func77,Tryz.ntmps77;go_wp2_with fail;refine wp_loop_rounds 2 ?_;rw [rounds_succ];go_wp2_with fail;clear x0 y0;have HR:Hid ((w.alloc (.cells #[I 0,I 0] 108)).heap[w.heap.size]? =some (.cells #[I 0,I 0] 108 (0,0))/\Below w.heap.size w (w.alloc (.cells #[I 0,I 0] 108))):=ae ⟨heap_alloc_last w _,ag w _⟩;generalize w.alloc (.cells #[I 0,I 0] 108)=W0 at HR HO ⊢
   go_loopw [11] (fun i wr=>∃k:Nat,k<=n/\i= .int .i64 k/\(∀j,j<k->gU ts j+p<t)/\W0=wr) (fun i _=>n - (intOf i).toNat)
   case atStart=>exact ⟨0,Nat.zero_le _,by go_num,(fun _ h=>absurd h (Nat.not_lt_zero _)),rfl⟩
   case round=>
    obtain ⟨k,hk,rfl,hall,rfl⟩:=hrel;have iq:=ae hall;clear hall;by_cases hlt:k<n
    ·have x1:=rX HO.out HL.out k hlt;have y1:=uV HO.out HL.out k hlt;have hb1:=DU.out k;obtain ⟨a1,ha1⟩:∃v,gU ts k=v:=⟨_,rfl⟩;obtain ⟨o1,ho1⟩:∃v,jI ts k=v:=⟨_,rfl⟩;rw [ha1] at x1 hb1;rw [ho1] at y1;have HA1:=ae ha1;have FQ:=ae ho1;clear ha1 ho1;have i0:(0:Int)<=(k:Int):=by omega
     have i1:(k:Int)<(n:Int):=by omega
     have hw5:IntKind.i64.wrap (a1+p)=a1+p:=by rw [IntKind.wrap_i64];omega
     have hw6:IntKind.i64.wrap 0=0:=by rw [IntKind.wrap_i64];omega
     by_cases hge:t<=a1+p
     ·have HE:Hid (res=(⟨a1+p,o1⟩,true)):=ae (by
       have h:=yA HQ.out HL.out hlt (by rw [HP.out];exact iq.out) (by rw [HP.out,HA1.out];exact hge);rw [<-rF.out,h,HA1.out,FQ.out,HP.out])
      go_wp2_with fail;have r0:W0.cell? ⟨w.heap.size,0,none⟩=some (I 0):=cell_of_row _ _ 0 _ _ _ HR.out.1;have r1:W0.cell? ⟨w.heap.size,1,none⟩=some (I 0):=cell_of_row _ _ 1 _ _ _ HR.out.1;have f0:∀i,W0.frozen? ⟨w.heap.size,i,none⟩=false:=fun i=>frozen_of_row _ _ i _ _ HR.out.1;go_still_tail 15,(by kernel_rfl);change wpList _ _ _ _ _ W0.drew;go_wp2_with fail;have hh:(((W0.setCell ⟨w.heap.size,0,none⟩ (I (a1+p))).setCell ⟨w.heap.size,1,none⟩ (I o1)).drew).heap[w.heap.size]? =some (.cells #[I (a1+p),I o1] 108 (0,0)):=heap_setCell_same _ w.heap.size 1 _ _ _ (heap_setCell_same _ w.heap.size 0 _ _ _ HR.out.1);refine bodyPost_ret (v:= .tuple #[.agg #[I (a1+p),I o1], .bool true]) (aV rfl _ _ w.heap.size _ #[I (a1+p),I o1] (0,0) _ rfl hh Tryz.underlying108 rfl (by kernel_rfl) _ rfl) rfl ?_;exact ⟨by rw [HE.out],((HR.out.2.setCell (p:=⟨w.heap.size,0,none⟩) (Nat.le_refl _) _).setCell (p:=⟨w.heap.size,1,none⟩) (Nat.le_refl _) _).drew⟩
     ·go_wp2_with fail;go_roundw
      case rel=>exact ⟨k+1,by omega,by go_num,(fun j hj=>by rcases Nat.lt_succ_iff_lt_or_eq.1 hj with h|rfl;exact iq.out j h;rw [HA1.out];omega),by first|trivial|rfl⟩
      case measure=>simp [intOf];omega
    ·have hnl:¬(k:Int)<(n:Int):=by omega
     have HE:Hid (res=(⟨a0+(p+sz),o0⟩,true)):=ae (by
      have h:=BB HQ.out HL.out hn0 (by rw [HP.out];exact fun j hj=>iq.out j (by omega));rw [<-rF.out,h,yV.out,AO.out,he])
     go_wp2_with fail;rw [rounds_succ];have x0:=rX HO.out HL.out 0 hn0;have y0:=uV HO.out HL.out 0 hn0;rw [Nat.zero_mul] at x0 y0;rw [Nat.zero_add] at y0;rw [yV.out] at x0;rw [AO.out] at y0;have hw6:IntKind.i64.wrap 0=0:=by rw [IntKind.wrap_i64];omega
     go_wp2_with fail;refine wp_loop_rounds 1 ?_;rw [rounds_succ];go_wp2_with fail;have r0:W0.cell? ⟨w.heap.size,0,none⟩=some (I 0):=cell_of_row _ _ 0 _ _ _ HR.out.1;have r1:W0.cell? ⟨w.heap.size,1,none⟩=some (I 0):=cell_of_row _ _ 1 _ _ _ HR.out.1;have f0:∀i,W0.frozen? ⟨w.heap.size,i,none⟩=false:=fun i=>frozen_of_row _ _ i _ _ HR.out.1;go_still_tail 15,(by kernel_rfl);change wpList _ _ _ _ _ W0.drew;go_wp2_with fail;have hh:(((W0.setCell ⟨w.heap.size,0,none⟩ (I (a0+(p+sz)))).setCell ⟨w.heap.size,1,none⟩ (I o0)).drew).heap[w.heap.size]? =some (.cells #[I (a0+(p+sz)),I o0] 108 (0,0)):=heap_setCell_same _ w.heap.size 1 _ _ _ (heap_setCell_same _ w.heap.size 0 _ _ _ HR.out.1);refine bodyPost_ret (v:= .tuple #[.agg #[I (a0+(p+sz)),I o0], .bool true]) (aV rfl _ _ w.heap.size _ #[I (a0+(p+sz)),I o0] (0,0) _ rfl hh Tryz.underlying108 rfl (by kernel_rfl) _ rfl) rfl ?_;exact ⟨by rw [HE.out],((HR.out.2.setCell (p:=⟨w.heap.size,0,none⟩) (Nat.le_refl _) _).setCell (p:=⟨w.heap.size,1,none⟩) (Nat.le_refl _) _).drew⟩
  ·subst hq;rw [Int.zero_mul] at hp;subst hp;clear he p0 p1 q0 q1 ht2;go_enter Tryz.func77,Tryz.ntmps77;go_wp2_with fail;refine wp_loop_rounds 2 ?_;rw [rounds_succ];go_wp2_with fail;clear x0 y0;have HR:Hid ((w.alloc (.cells #[I 0,I 0] 108)).heap[w.heap.size]? =some (.cells #[I 0,I 0] 108 (0,0))/\Below w.heap.size w (w.alloc (.cells #[I 0,I 0] 108))):=ae ⟨heap_alloc_last w _,ag w _⟩;generalize w.alloc (.cells #[I 0,I 0] 108)=W0 at HR HO ⊢
   go_loopw [11] (fun i wr=>∃k:Nat,k<=n/\i= .int .i64 k/\(∀j,j<k->gU ts j+0<t)/\W0=wr) (fun i _=>n - (intOf i).toNat)
   case atStart=>exact ⟨0,Nat.zero_le _,by go_num,(fun _ h=>absurd h (Nat.not_lt_zero _)),rfl⟩
   case round=>
    obtain ⟨k,hk,rfl,hall,rfl⟩:=hrel;have iq:=ae hall;clear hall;by_cases hlt:k<n
    ·have x1:=rX HO.out HL.out k hlt;have y1:=uV HO.out HL.out k hlt;have hb1:=DU.out k;obtain ⟨a1,ha1⟩:∃v,gU ts k=v:=⟨_,rfl⟩;obtain ⟨o1,ho1⟩:∃v,jI ts k=v:=⟨_,rfl⟩;rw [ha1] at x1 hb1;rw [ho1] at y1;have HA1:=ae ha1;have FQ:=ae ho1;clear ha1 ho1;have i0:(0:Int)<=(k:Int):=by omega
     have i1:(k:Int)<(n:Int):=by omega
     have hw5:IntKind.i64.wrap (a1)=a1:=by rw [IntKind.wrap_i64];omega
     have hw6:IntKind.i64.wrap 0=0:=by rw [IntKind.wrap_i64];omega
     by_cases hge:t<=a1
     ·have HE:Hid (res=(⟨a1,o1⟩,true)):=ae (by
       have h:=yA HQ.out HL.out hlt (by rw [Int.zero_mul];exact iq.out) (by rw [Int.zero_mul,HA1.out];omega);rw [<-rF.out,h,HA1.out,FQ.out,Int.zero_mul,Int.add_zero])
      go_wp2_with fail;have r0:W0.cell? ⟨w.heap.size,0,none⟩=some (I 0):=cell_of_row _ _ 0 _ _ _ HR.out.1;have r1:W0.cell? ⟨w.heap.size,1,none⟩=some (I 0):=cell_of_row _ _ 1 _ _ _ HR.out.1;have f0:∀i,W0.frozen? ⟨w.heap.size,i,none⟩=false:=fun i=>frozen_of_row _ _ i _ _ HR.out.1;go_still_tail 15,(by kernel_rfl);change wpList _ _ _ _ _ W0.drew;go_wp2_with fail;have hh:(((W0.setCell ⟨w.heap.size,0,none⟩ (I (a1))).setCell ⟨w.heap.size,1,none⟩ (I o1)).drew).heap[w.heap.size]? =some (.cells #[I (a1),I o1] 108 (0,0)):=heap_setCell_same _ w.heap.size 1 _ _ _ (heap_setCell_same _ w.heap.size 0 _ _ _ HR.out.1);refine bodyPost_ret (v:= .tuple #[.agg #[I (a1),I o1], .bool true]) (aV rfl _ _ w.heap.size _ #[I (a1),I o1] (0,0) _ rfl hh Tryz.underlying108 rfl (by kernel_rfl) _ rfl) rfl ?_;exact ⟨by rw [HE.out],((HR.out.2.setCell (p:=⟨w.heap.size,0,none⟩) (Nat.le_refl _) _).setCell (p:=⟨w.heap.size,1,none⟩) (Nat.le_refl _) _).drew⟩
     ·go_wp2_with fail;go_roundw
      case rel=>exact ⟨k+1,by omega,by go_num,(fun j hj=>by rcases Nat.lt_succ_iff_lt_or_eq.1 hj with h|rfl;exact iq.out j h;rw [HA1.out];omega),by first|trivial|rfl⟩
      case measure=>simp [intOf];omega
    ·exact absurd (iq.out 0 (by omega)) (by rw [yV.out];omega)
end Go.Proofs.YtbaehbbonkljpaaGreatDoor
