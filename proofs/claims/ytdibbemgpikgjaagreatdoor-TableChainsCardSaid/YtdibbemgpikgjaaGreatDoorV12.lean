/- The texts Ke, Kf, Oc, Ng1, Ng2, in this order. -/
import Derived.Test.YtdibbemgpikgjaaGreatDoorV00
import Derived.Test.YtdibbemgpikgjaaGreatDoorV04
import Derived.Test.YtdibbemgpikgjaaGreatDoorV05
import Derived.Test.YtdibbemgpikgjaaGreatDoorV11
namespace Go.Proofs.YtdibbemgpikgjaaGreatDoor
open Go Go.RowKit
def lG (ts:List Tr) (i:Nat):Int:=(ts[i]?.map (·.off)).getD 0
def pW (ts:List Tr) (size t:Int):Int:=if iH ts 0<t then (t - iH ts 0).tdiv size else 0
def dP (ts:List Tr) (size t:Int):Tr×Bool:=
 if ts.length=0 then (⟨0,0⟩,false)
 else match (List.range ts.length).find? (fun j=>decide (t≤iH ts j+pW ts size t*size)) with
  |some j=>(⟨iH ts j+pW ts size t*size,lG ts j⟩,true)
  |none=>(⟨iH ts 0+(pW ts size t+1)*size,lG ts 0⟩,true)
theorem wO {ts:List Tr} {size t q:Int} {n k:Nat} (hq:pW ts size t=q) (hl:ts.length=n) (hk:k<n) (h:∀j,j<k→iH ts j+q*size<t) (h1:t≤iH ts k+q*size):dP ts size t=(⟨iH ts k+q*size,lG ts k⟩,true):=by
 have hf:(List.range ts.length).find? (fun j=>decide (t≤iH ts j+q*size))=some k:=by
  rw [List.find?_range_eq_some]
  exact ⟨decide_eq_true h1,List.mem_range.2 (by omega),fun j hj=>by have:=h j hj;simp;omega⟩
 unfold dP
 rw [if_neg (by omega),hq,hf]
theorem zH {ts:List Tr} {size t q:Int} {n:Nat} (hq:pW ts size t=q) (hl:ts.length=n) (hk:0<n) (h:∀j,j<n→iH ts j+q*size<t):dP ts size t=(⟨iH ts 0+(q+1)*size,lG ts 0⟩,true):=by
 have hf:(List.range ts.length).find? (fun j=>decide (t≤iH ts j+q*size))=none:=by
  rw [List.find?_range_eq_none]
  intro j hj
  have:=h j (by omega)
  simp
  omega
 unfold dP
 rw [if_neg (by omega),hq,hf]
theorem tH {lo g n cp:Nat} {W:World} {ts:List Tr} (h:fD lo W (some ⟨g,0,none⟩) n cp ts) (hl:ts.length=n) (k:Nat) (hk:k<n):W.cell? ⟨g,k*2+1,none⟩=some (I (lG ts k)):=by
 have hx:ts[k]? =some ts[k]:=List.getElem?_eq_getElem (by omega)
 rw [World.ownsRow.cellAt h (k*2+1) (by omega),flat_get (s:=2) Tr.cells ts (fun _ _=>rfl) k 1 _ hx (by omega)]
 unfold lG
 rw [hx]
 rfl
theorem EN {ts:List Tr} {sz t q:Int} (hq:pW ts sz t=q) (hs:1440≤sz) (ha: -10000000≤iH ts 0) (ht0:0≤t) (ht:t≤1000000):0≤q∧q≤100000000∧0≤q*sz∧q*sz≤11000000∧t≤iH ts 0+(q+1)*sz∧(q+1)*sz=q*sz+sz:=by
 have e1:(q+1)*sz=q*sz+sz:=by rw [Int.add_mul,Int.one_mul]
 unfold pW at hq
 split at hq
 ·rename_i h
  rw [Int.tdiv_eq_ediv_of_nonneg (by omega)] at hq
  have h1:=Int.emod_add_mul_ediv (t - iH ts 0) sz
  have h2:=Int.emod_nonneg (t - iH ts 0) (show sz≠0 by omega)
  have h3:=Int.emod_lt_of_pos (t - iH ts 0) (show 0<sz by omega)
  have h4:0≤(t - iH ts 0) / sz:=Int.ediv_nonneg (by omega) (by omega)
  rw [hq] at h1 h4
  rw [Int.mul_comm] at h1
  have h5:q*1440≤q*sz:=Int.mul_le_mul_of_nonneg_left hs h4
  generalize q*sz=p at*
  refine ⟨h4,?_,?_,?_,?_,e1⟩<;>omega
 ·subst hq
  rw [Int.zero_mul] at*
  refine ⟨?_,?_,?_,?_,?_,e1⟩<;>omega
set_option maxRecDepth 10000 in
set_option maxHeartbeats 1000000 in
theorem Kq (n l:Int) (w:World) (hl:0≤l) (hl2:l≤4000000000000000):Calls Tryz.prog 77 #[I n,I l] w fun e w'=>e= .returned (.bool (decide (-l≤n)&&decide (n≤l)))∧w'=w:=by
 by_cases h: -l≤n
 ·have HH:=ae h
  go_enter Tryz.func77,Tryz.ntmps77
  go_wp2_with fail
  go_ret
  exact ⟨by simp [HH.out],rfl⟩
 ·have HH:=ae h
  go_enter Tryz.func77,Tryz.ntmps77
  go_wp2_with fail
  go_ret
  exact ⟨by rw [decide_eq_false (show¬ -l≤n by have:=HH.out;omega)];rfl,rfl⟩
set_option maxRecDepth 10000 in
set_option maxHeartbeats 1000000 in
theorem Kv (z:Zn) (s:Zs) (w:World) (hy:z.aB= []):Calls Tryz.prog 78 #[.agg (ay z s)] w (Pg w (qi z) (jA (qi z) (jl z*1440))):=by
 have e1:qi z= []:=by unfold qi;rw [hy]
 rw [e1]
 obtain ⟨⟨ep,mo,lp,ru⟩,st,tr,ho,yr⟩:=z
 obtain ⟨A0,a,R0,r,C0,c0,D0,d0⟩:=s
 simp only at hy
 subst hy
 unfold ay
 simp only [List.length_nil]
 obtain ⟨n0,hn0⟩:∃n,mo.length=n:=⟨_,rfl⟩
 obtain ⟨n1,hn1⟩:∃n,ru.length=n:=⟨_,rfl⟩
 obtain ⟨n2,hn2⟩:∃n,tr.length=n:=⟨_,rfl⟩
 rw [hn0,hn1,hn2]
 clear hn0 hn1 hn2 e1
 go_enter Tryz.func78,Tryz.ntmps78
 go_wp2_with fail
 go_ret2
 refine ⟨_,0,_,rfl,rfl,?_,ah (ag w _) (ag _ _)⟩
 have h:=iK (w.alloc (.cells #[I ep, .slice A0 n0 a,I lp, .slice R0 n1 r,I st, .slice C0 n2 c0,I ho, .slice D0 0 d0] 67)) 127 2
 refine fD.lower (lo:=w.heap.size+1) ?_ (Nat.le_succ _)
 simpa [fD] using h
set_option maxRecDepth 10000 in
set_option maxHeartbeats 2000000 in
theorem CS (lo n c:Nat) (A:Option Addr) (ts:List Tr) (yA t:Int) (w:World) (hl:ts.length=n) (hn1:n≤1000) (hO:fD lo w A n c ts) (htb:Iq ts) (hc1:1≤yA) (hc2:yA≤1400) (ht0:0≤t) (ht:t≤1000000):
  Calls Tryz.prog 79 #[.slice A n c,I yA,I t] w (Gives (.tuple #[.agg #[I (dP ts (yA*1440) t).1.at_,I (dP ts (yA*1440) t).1.off], .bool (dP ts (yA*1440) t).2]) w):=by
 obtain ⟨sz,hsz⟩:∃v,yA*1440=v:=⟨_,rfl⟩
 rw [hsz]
 have hs1:1440≤sz:=by omega
 have hs2:sz≤2016000:=by omega
 have HL:=ae hl
 rcases Nat.eq_zero_or_pos n with hn0|hn0
 ·subst hn0
  have e1:dP ts sz t=(⟨0,0⟩,false):=by unfold dP;rw [if_pos hl]
  rw [e1]
  clear hO htb hl e1 hsz
  go_enter Tryz.func79,Tryz.ntmps79
  go_wp2_with fail
  refine bodyPost_ret (v:= .tuple #[.agg #[I 0,I 0], .bool false]) (bK rfl _ _ w.heap.size _ #[I 0,I 0] (0,0) _ rfl (heap_alloc_last w _) Tryz.underlying127 rfl (by kernel_rfl) _ rfl) rfl ?_
  exact ⟨rfl,ag w _⟩
 ·obtain ⟨g,cap,hgv,hgl⟩:=dw hO hn0
  injection hgv with hA hB hC
  subst hA hC
  clear hB
  have HO:=ae (World.ownsRow.alloc hO (.cells #[I 0,I 0] 127))
  have FH:=ae (fun k=>pq k htb)
  clear hO hl htb
  obtain ⟨res,hres⟩:∃r,dP ts sz t=r:=⟨_,rfl⟩
  rw [hres]
  have ja:=ae hres
  clear hres
  obtain ⟨q,hq⟩:∃v,pW ts sz t=v:=⟨_,rfl⟩
  obtain ⟨q0,q1,p0,p1,ht2,he⟩:=EN hq hs1 (FH.out 0).1 ht0 ht
  have HQ:=ae hq
  unfold pW at hq
  obtain ⟨p,hp⟩:∃v,q*sz=v:=⟨_,rfl⟩
  rw [hp] at p0 p1 he
  have HP:=ae hp
  have hb0:=FH.out 0
  have x0:=qH HO.out HL.out 0 hn0
  have y0:=tH HO.out HL.out 0 hn0
  rw [Nat.zero_mul] at x0 y0
  rw [Nat.zero_add] at y0
  obtain ⟨a0,ha0⟩:∃v,iH ts 0=v:=⟨_,rfl⟩
  obtain ⟨o0,ho0⟩:∃v,lG ts 0=v:=⟨_,rfl⟩
  rw [ha0] at x0 hq hb0 ht2
  rw [ho0] at y0
  have sV:=ae ha0
  have HO0:=ae ho0
  clear ha0 ho0
  have hnn:((n:Int)==0)=false:=by simp;omega
  have i2:(0:Int)<(n:Int):=by omega
  have hs0:sz≠0:=by omega
  have hs3:sz≠ -1:=by omega
  have hcut:(a0<t∧(t - a0).tdiv sz=q)∨(¬a0<t∧q=0):=by
   by_cases h:a0<t
   ·rw [if_pos h] at hq;exact .inl ⟨h,hq⟩
   ·rw [if_neg h] at hq;exact .inr ⟨h,hq.symm⟩
  clear hq
  rcases hcut with ⟨hat,hq⟩|⟨hat,hq⟩
  ·have ht3:t≤a0+(p+sz):=by omega
   have hatd:decide (a0<t)=true:=decide_eq_true hat
   have hw1:IntKind.i64.wrap p=p:=by rw [IntKind.wrap_i64];omega
   have hw2:IntKind.i64.wrap (p+sz)=p+sz:=by rw [IntKind.wrap_i64];omega
   have hw3:IntKind.i64.wrap (a0+(p+sz))=a0+(p+sz):=by rw [IntKind.wrap_i64];omega
   have hw4:IntKind.i64.wrap (q+1)=q+1:=by rw [IntKind.wrap_i64];omega
   go_enter Tryz.func79,Tryz.ntmps79
   go_wp2_with fail
   refine wp_loop_rounds 2 ?_
   rw [rounds_succ]
   go_wp2_with fail
   clear x0 y0
   have HR:Hid ((w.alloc (.cells #[I 0,I 0] 127)).heap[w.heap.size]? =some (.cells #[I 0,I 0] 127 (0,0))∧Below w.heap.size w (w.alloc (.cells #[I 0,I 0] 127))):=ae ⟨heap_alloc_last w _,ag w _⟩
   generalize w.alloc (.cells #[I 0,I 0] 127)=W0 at HR HO ⊢
   go_loopw [11] (fun i wr=>∃k:Nat,k≤n∧i= .int .i64 k∧(∀j,j<k→iH ts j+p<t)∧W0=wr) (fun i _=>n - (intOf i).toNat)
   case atStart=>exact ⟨0,Nat.zero_le _,by go_num,(fun _ h=>absurd h (Nat.not_lt_zero _)),rfl⟩
   case round=>
    obtain ⟨k,hk,rfl,hall,rfl⟩:=hrel
    have kP:=ae hall
    clear hall
    by_cases hlt:k<n
    ·have x1:=qH HO.out HL.out k hlt
     have y1:=tH HO.out HL.out k hlt
     have hb1:=FH.out k
     obtain ⟨a1,ha1⟩:∃v,iH ts k=v:=⟨_,rfl⟩
     obtain ⟨o1,ho1⟩:∃v,lG ts k=v:=⟨_,rfl⟩
     rw [ha1] at x1 hb1
     rw [ho1] at y1
     have HA1:=ae ha1
     have IB:=ae ho1
     clear ha1 ho1
     have i0:(0:Int)≤(k:Int):=by omega
     have i1:(k:Int)<(n:Int):=by omega
     have hw5:IntKind.i64.wrap (a1+p)=a1+p:=by rw [IntKind.wrap_i64];omega
     have hw6:IntKind.i64.wrap 0=0:=by rw [IntKind.wrap_i64];omega
     by_cases hge:t≤a1+p
     ·have HE:Hid (res=(⟨a1+p,o1⟩,true)):=ae (by
       have h:=wO HQ.out HL.out hlt (by rw [HP.out];exact kP.out) (by rw [HP.out,HA1.out];exact hge)
       rw [←ja.out,h,HA1.out,IB.out,HP.out])
      go_wp2_with fail
      have r0:W0.cell? ⟨w.heap.size,0,none⟩=some (I 0):=cell_of_row _ _ 0 _ _ _ HR.out.1
      have r1:W0.cell? ⟨w.heap.size,1,none⟩=some (I 0):=cell_of_row _ _ 1 _ _ _ HR.out.1
      have f0:∀i,W0.frozen? ⟨w.heap.size,i,none⟩=false:=fun i=>frozen_of_row _ _ i _ _ HR.out.1
      go_still_tail 15,(by kernel_rfl)
      change wpList _ _ _ _ _ W0.drew
      go_wp2_with fail
      have hh:(((W0.setCell ⟨w.heap.size,0,none⟩ (I (a1+p))).setCell ⟨w.heap.size,1,none⟩ (I o1)).drew).heap[w.heap.size]? =some (.cells #[I (a1+p),I o1] 127 (0,0)):=heap_setCell_same _ w.heap.size 1 _ _ _ (heap_setCell_same _ w.heap.size 0 _ _ _ HR.out.1)
      refine bodyPost_ret (v:= .tuple #[.agg #[I (a1+p),I o1], .bool true]) (bK rfl _ _ w.heap.size _ #[I (a1+p),I o1] (0,0) _ rfl hh Tryz.underlying127 rfl (by kernel_rfl) _ rfl) rfl ?_
      exact ⟨by rw [HE.out],((HR.out.2.setCell (p:=⟨w.heap.size,0,none⟩) (Nat.le_refl _) _).setCell (p:=⟨w.heap.size,1,none⟩) (Nat.le_refl _) _).drew⟩
     ·go_wp2_with fail
      go_roundw
      case rel=>exact ⟨k+1,by omega,by go_num,(fun j hj=>by rcases Nat.lt_succ_iff_lt_or_eq.1 hj with h|rfl;exact kP.out j h;rw [HA1.out];omega),by first|trivial|rfl⟩
      case measure=>simp [intOf];omega
    ·have hnl:¬(k:Int)<(n:Int):=by omega
     have HE:Hid (res=(⟨a0+(p+sz),o0⟩,true)):=ae (by
      have h:=zH HQ.out HL.out hn0 (by rw [HP.out];exact fun j hj=>kP.out j (by omega))
      rw [←ja.out,h,sV.out,HO0.out,he])
     go_wp2_with fail
     rw [rounds_succ]
     have x0:=qH HO.out HL.out 0 hn0
     have y0:=tH HO.out HL.out 0 hn0
     rw [Nat.zero_mul] at x0 y0
     rw [Nat.zero_add] at y0
     rw [sV.out] at x0
     rw [HO0.out] at y0
     have hw6:IntKind.i64.wrap 0=0:=by rw [IntKind.wrap_i64];omega
     go_wp2_with fail
     refine wp_loop_rounds 1 ?_
     rw [rounds_succ]
     go_wp2_with fail
     have r0:W0.cell? ⟨w.heap.size,0,none⟩=some (I 0):=cell_of_row _ _ 0 _ _ _ HR.out.1
     have r1:W0.cell? ⟨w.heap.size,1,none⟩=some (I 0):=cell_of_row _ _ 1 _ _ _ HR.out.1
     have f0:∀i,W0.frozen? ⟨w.heap.size,i,none⟩=false:=fun i=>frozen_of_row _ _ i _ _ HR.out.1
     go_still_tail 15,(by kernel_rfl)
     change wpList _ _ _ _ _ W0.drew
     go_wp2_with fail
     have hh:(((W0.setCell ⟨w.heap.size,0,none⟩ (I (a0+(p+sz)))).setCell ⟨w.heap.size,1,none⟩ (I o0)).drew).heap[w.heap.size]? =some (.cells #[I (a0+(p+sz)),I o0] 127 (0,0)):=heap_setCell_same _ w.heap.size 1 _ _ _ (heap_setCell_same _ w.heap.size 0 _ _ _ HR.out.1)
     refine bodyPost_ret (v:= .tuple #[.agg #[I (a0+(p+sz)),I o0], .bool true]) (bK rfl _ _ w.heap.size _ #[I (a0+(p+sz)),I o0] (0,0) _ rfl hh Tryz.underlying127 rfl (by kernel_rfl) _ rfl) rfl ?_
     exact ⟨by rw [HE.out],((HR.out.2.setCell (p:=⟨w.heap.size,0,none⟩) (Nat.le_refl _) _).setCell (p:=⟨w.heap.size,1,none⟩) (Nat.le_refl _) _).drew⟩
  ·subst hq
   rw [Int.zero_mul] at hp
   subst hp
   clear he p0 p1 q0 q1 ht2
   go_enter Tryz.func79,Tryz.ntmps79
   go_wp2_with fail
   refine wp_loop_rounds 2 ?_
   rw [rounds_succ]
   go_wp2_with fail
   clear x0 y0
   have HR:Hid ((w.alloc (.cells #[I 0,I 0] 127)).heap[w.heap.size]? =some (.cells #[I 0,I 0] 127 (0,0))∧Below w.heap.size w (w.alloc (.cells #[I 0,I 0] 127))):=ae ⟨heap_alloc_last w _,ag w _⟩
   generalize w.alloc (.cells #[I 0,I 0] 127)=W0 at HR HO ⊢
   go_loopw [11] (fun i wr=>∃k:Nat,k≤n∧i= .int .i64 k∧(∀j,j<k→iH ts j+0<t)∧W0=wr) (fun i _=>n - (intOf i).toNat)
   case atStart=>exact ⟨0,Nat.zero_le _,by go_num,(fun _ h=>absurd h (Nat.not_lt_zero _)),rfl⟩
   case round=>
    obtain ⟨k,hk,rfl,hall,rfl⟩:=hrel
    have kP:=ae hall
    clear hall
    by_cases hlt:k<n
    ·have x1:=qH HO.out HL.out k hlt
     have y1:=tH HO.out HL.out k hlt
     have hb1:=FH.out k
     obtain ⟨a1,ha1⟩:∃v,iH ts k=v:=⟨_,rfl⟩
     obtain ⟨o1,ho1⟩:∃v,lG ts k=v:=⟨_,rfl⟩
     rw [ha1] at x1 hb1
     rw [ho1] at y1
     have HA1:=ae ha1
     have IB:=ae ho1
     clear ha1 ho1
     have i0:(0:Int)≤(k:Int):=by omega
     have i1:(k:Int)<(n:Int):=by omega
     have hw5:IntKind.i64.wrap (a1)=a1:=by rw [IntKind.wrap_i64];omega
     have hw6:IntKind.i64.wrap 0=0:=by rw [IntKind.wrap_i64];omega
     by_cases hge:t≤a1
     ·have HE:Hid (res=(⟨a1,o1⟩,true)):=ae (by
       have h:=wO HQ.out HL.out hlt (by rw [Int.zero_mul];exact kP.out) (by rw [Int.zero_mul,HA1.out];omega)
       rw [←ja.out,h,HA1.out,IB.out,Int.zero_mul,Int.add_zero])
      go_wp2_with fail
      have r0:W0.cell? ⟨w.heap.size,0,none⟩=some (I 0):=cell_of_row _ _ 0 _ _ _ HR.out.1
      have r1:W0.cell? ⟨w.heap.size,1,none⟩=some (I 0):=cell_of_row _ _ 1 _ _ _ HR.out.1
      have f0:∀i,W0.frozen? ⟨w.heap.size,i,none⟩=false:=fun i=>frozen_of_row _ _ i _ _ HR.out.1
      go_still_tail 15,(by kernel_rfl)
      change wpList _ _ _ _ _ W0.drew
      go_wp2_with fail
      have hh:(((W0.setCell ⟨w.heap.size,0,none⟩ (I (a1))).setCell ⟨w.heap.size,1,none⟩ (I o1)).drew).heap[w.heap.size]? =some (.cells #[I (a1),I o1] 127 (0,0)):=heap_setCell_same _ w.heap.size 1 _ _ _ (heap_setCell_same _ w.heap.size 0 _ _ _ HR.out.1)
      refine bodyPost_ret (v:= .tuple #[.agg #[I (a1),I o1], .bool true]) (bK rfl _ _ w.heap.size _ #[I (a1),I o1] (0,0) _ rfl hh Tryz.underlying127 rfl (by kernel_rfl) _ rfl) rfl ?_
      exact ⟨by rw [HE.out],((HR.out.2.setCell (p:=⟨w.heap.size,0,none⟩) (Nat.le_refl _) _).setCell (p:=⟨w.heap.size,1,none⟩) (Nat.le_refl _) _).drew⟩
     ·go_wp2_with fail
      go_roundw
      case rel=>exact ⟨k+1,by omega,by go_num,(fun j hj=>by rcases Nat.lt_succ_iff_lt_or_eq.1 hj with h|rfl;exact kP.out j h;rw [HA1.out];omega),by first|trivial|rfl⟩
      case measure=>simp [intOf];omega
    ·exact absurd (kP.out 0 (by omega)) (by rw [sV.out];omega)
end Go.Proofs.YtdibbemgpikgjaaGreatDoor
namespace Go.Proofs.YtdibbemgpikgjaaGreatDoor
open Go Go.RowKit
structure vG (z:Zn):Prop where
 cal:fO z.cal
 start: -1080≤z.start∧z.start≤1080
 hor:0≤z.hor∧z.hor≤1000000
 Uw:z.trans.length≤3
 tr:∀x∈z.trans,(-1080≤x.off∧x.off≤1080)∧0≤x.at_∧x.at_<z.hor
 gap:∀i,i+1<z.trans.length→iH z.trans i+2160≤iH z.trans (i+1)
 yr:z.aB= []∨∃r0 r1,z.aB= [r0,r1]∧xH r0∧xH r1
def pK (z:Zn):Bool:=
 let a:=dP (qi z) (jl z*1440) z.hor
 a.2&&(decide (0<z.trans.length)&&decide (a.1.at_ - iH z.trans (z.trans.length - 1)<2160))
def wV (z:Zn):Int:=if jA (qi z) (jl z*1440)=false then 1 else if pK z=true then 1 else 0
theorem LY (c:Cal) (bg y:Int) (r r':Yr) (ts:List Tr):(DD c bg y r r' ts).length≤ts.length+1:=by
 unfold DD
 split
 ·rw [vM];exact Nat.le_refl _
 ·omega
theorem Hz (c:Cal) (r0 r1:Yr) (ep stop:Int) (hc:fO c) (hr0:xH r0) (hr1:xH r1) (hs:stop≤1500) (he:0≤ep):∀(f:Nat) (bg y:Int) (ts:List Tr),Iq ts→1≤y→ep+12*(y - 1)≤bg→bg≤stop+100→(ts.length:Int)≤2*(y - 1)→Iq (lu c r0 r1 stop f bg y ts)∧(lu c r0 r1 stop f bg y ts).length≤1000:=by
 intro f
 induction f with
 |zero=>intro bg y ts h1 h2 h3 h4 h5;exact ⟨h1,by show ts.length≤1000;omega⟩
 |succ f ih=>
  intro bg y ts h1 h2 h3 h4 h5
  unfold lu
  split
  ·rename_i hlt
   have h6:=oW c y hc
   have h7:=iZ c y hc
   have l1:=LY c bg y r0 r1 ts
   have l2:=LY c bg y r1 r0 (DD c bg y r0 r1 ts)
   exact ih _ _ _ (vV (vV h1 hc hr0 hr1 (by omega) (by omega)) hc hr1 hr0 (by omega) (by omega)) (by omega) (by omega) (by omega) (by omega)
  ·exact ⟨h1,by omega⟩
theorem DC (z:Zn) (h:vG z):Iq (qi z)∧(qi z).length≤1000:=by
 have hz:=o7 z h.cal
 have he:=h.cal.ep
 rcases h.yr with hy|⟨r0,r1,hy,h0,h1⟩
 ·unfold qi
  rw [hy]
  exact ⟨fun _ h=>(nomatch h),by simp⟩
 ·unfold qi
  rw [hy]
  exact Hz z.cal r0 r1 z.cal.aK _ h.cal h0 h1 (by omega) he.1 1400 _ _ _ (fun _ h=>(nomatch h)) (by omega) (by omega) (by omega) (by simp)
theorem Bc (z:Zn) (s:Zs) (w:World) (hm:vG z) (h:jb w w.heap.size s z):Calls Tryz.prog 78 #[.agg (ay z s)] w (Pg w (qi z) (jA (qi z) (jl z*1440))):=by
 rcases hm.yr with hy|⟨r0,r1,hy,h0,h1⟩
 ·exact Kv z s w hy
 ·exact Kw z s r0 r1 w hm.cal h hy h0 h1 (by have:=hm.Uw;omega)
theorem gQ (n l:Int) (w:World) (hl:0≤l) (hl2:l≤4000000000000000) (h: -l≤n∧n≤l):Calls Tryz.prog 77 #[I n,I l] w fun e w'=>e= .returned (.bool true)∧w'=w:=
 (Kq n l w hl hl2).mono fun e w' ⟨h1,h2⟩=>⟨by rw [h1,decide_eq_true h.1,decide_eq_true h.2];rfl,h2⟩
theorem wo (z:Zn) (h:fO z.cal):1≤jl z:=by
 have h1:=oW z.cal 1 h
 have h2:=oW z.cal 2 h
 unfold jl Gs qx
 split
 ·omega
 ·split<;>split<;>omega
def VRel (w:World) (cs:Array Value) (m:Nat) (i:Value) (wr:World):Prop:=∃k:Nat,k≤m∧i= .int .i64 k∧jD w cs wr
theorem ou {w W:World} {C:Option Addr} {ts:List Tr} (h:az w w.heap.size C (ts.flatMap Tr.cells)) (hb:Below w.heap.size w W) (h0:0<ts.length):∃b off,C=some ⟨b,off,none⟩∧∀k,k<ts.length→W.cell? ⟨b,off+k*2,none⟩=some (I (iH ts k))∧W.cell? ⟨b,off+k*2+1,none⟩=some (I (lG ts k)):=by
 obtain ⟨b,off,e,hb1,hcl⟩:=h.there (by rw [dZ (s:=2) Tr.cells _ fun _ _=>rfl];omega)
 refine ⟨b,off,e,fun k hk=>?_⟩
 have hx:ts[k]? =some ts[k]:=List.getElem?_eq_getElem hk
 have hr:=aO (az.elem (s:=2) (fun _ _=>rfl) hcl k _ hx) hb hb1
 have e1:iH ts k=ts[k].at_:=by unfold iH;rw [hx];rfl
 have e2:lG ts k=ts[k].off:=by unfold lG;rw [hx];rfl
 rw [e1,e2]
 exact ⟨hr 0 _ rfl,hr 1 _ rfl⟩
theorem vG.zJ {z:Zn} (h:vG z) (k:Nat) (hk:k<z.trans.length):(-1080≤lG z.trans k∧lG z.trans k≤1080)∧0≤iH z.trans k∧iH z.trans k<z.hor:=by
 have hx:z.trans[k]? =some z.trans[k]:=List.getElem?_eq_getElem hk
 have e1:iH z.trans k=z.trans[k].at_:=by unfold iH;rw [hx];rfl
 have e2:lG z.trans k=z.trans[k].off:=by unfold lG;rw [hx];rfl
 rw [e1,e2]
 exact h.tr _ (List.getElem_mem hk)
theorem FY {ts:List Tr} {size t:Int} (h:Iq ts) (hs:1440≤size) (hs2:size≤3000000) (ht0:0≤t) (ht:t≤1000000): -10000000000≤(dP ts size t).1.at_∧(dP ts size t).1.at_≤10000000000:=by
 obtain ⟨q,hq⟩:∃q,pW ts size t=q:=⟨_,rfl⟩
 have hb:=EN hq hs (pq 0 h).1 ht0 ht
 have h0:=pq 0 h
 unfold dP
 split
 ·simp
 ·rw [hq]
  split
  ·rename_i j _
   have hj:=pq j h
   simp only
   omega
  ·simp only
   omega
end Go.Proofs.YtdibbemgpikgjaaGreatDoor
namespace Go.Proofs.YtdibbemgpikgjaaGreatDoor
open Go Go.RowKit
attribute [local go_sem] lL lS lM lT pM pR lJ lN lK lQ
def Je (c:Cal):List UInt8:=le c.aK 4++((le c.au.length 1++cO c.au)++(le (c.bz+1) 1++(le c.rules.length 1++c.rules.flatMap lX)))
def znB (z:Zn):List UInt8:=Je z.cal++(le z.start 2++((le z.trans.length 2++z.trans.flatMap jT)++(le z.hor 8++(le z.aB.length 1++z.aB.flatMap l7))))
def YK (e:Ze):List UInt8:=(le e.name.size 1++e.name.data.toList)++znB e.z
theorem F9 {c:Cal} (h:fO c):(Je c).length≤14:=by
 unfold Je
 simp only [List.length_append,aN,gZ,uJ lX 5 xM]
 have:=h.mo
 have:=h.ru
 omega
theorem UD {e:Ze} (h:vG e.z) (hs:e.name.size≤32):(YK e).length≤140:=by
 have h1:=F9 h.cal
 have h2:=h.Uw
 have h3:e.z.aB.length≤2:=by rcases h.yr with hy|⟨r0,r1,hy,_⟩<;>rw [hy]<;>simp
 have h4:e.name.data.toList.length=e.name.size:=by rw [Array.length_toList];rfl
 unfold YK znB
 simp only [List.length_append,aN,uJ jT 10 sK,uJ l7 7 yf,h4]
 omega
set_option maxRecDepth 10000 in
set_option maxHeartbeats 2000000 in
theorem AO (w:World) (g cb co:Nat) (c:Cal) (A:Option Addr) (a:Nat) (B:Option Addr) (b:Nat) (v:Value) (bs:List UInt8) (hc:fO c) (hr:w.rangeAt cb co (aG c A a B b).toList) (hfz:w.frozen? ⟨cb,co+2,none⟩=false) (hcb:cb<g) (hA:dY w g A c.au) (hB:az w g B (c.rules.flatMap Lr.cells))
  (hl:bs.length≤10000000) (hst:dS w g v bs):
  Calls Tryz.prog 68 #[.iface 77 (pt g), .pointer (some ⟨cb,co,none⟩)] w (dU w g v (bs++Je c)):=by
 have hgl:=hst.lt
 have c0:w.cell? ⟨cb,co,none⟩=some (I c.aK):=hr 0 _ rfl
 have c1:w.cell? ⟨cb,co+1,none⟩=some (.slice A c.au.length a):=hr 1 _ rfl
 have c2:w.cell? ⟨cb,co+2,none⟩=some (I c.bz):=hr 2 _ rfl
 have c3:w.cell? ⟨cb,co+3,none⟩=some (.slice B c.rules.length b):=hr 3 _ rfl
 obtain ⟨lp,hlp⟩:∃l,c.bz=l:=⟨_,rfl⟩
 obtain ⟨n1,hn1⟩:∃n,c.rules.length=n:=⟨_,rfl⟩
 rw [hlp] at c2
 rw [hn1] at c3
 have hlb:=hc.le
 rw [hlp] at hlb
 have hrb:=hc.ru
 rw [hn1] at hrb
 have FB:=ae hlp
 have Yw:=ae hn1
 have yu:=ae hB
 have HRF:Hid (∀z∈c.rules,xN z):=ae (fun z hz=>by have:=hc.rl z hz;unfold xN kR;omega)
 clear hB hlp hn1
 obtain ⟨n,hn⟩:∃n,c.au.length=n:=⟨_,rfl⟩
 rw [hn] at c1
 have hn2:n≤16:=by have:=hc.mo;omega
 have hN1:(bs++le c.aK 4).length≤10000004:=by rw [List.length_append,aN];omega
 have HE:=ae hc.ep
 have HN:=ae hn
 have HM:Hid (∀z∈c.au,fits z):=ae fun z hz=>by have:=hc.all z hz;unfold fits;omega
 have nH:=ae (bF w.drew g ⟨cb,co,none⟩ v bs c.aK 4 (by have:=hc.ep;omega) (by have:=hc.ep;omega) (by omega) (by omega) hst.lt hst.drew c0)
 have HST:=ae hst
 have HA:=ae hA
 clear hc hr hst hA hn
 go_enter Tryz.func68,Tryz.ntmps68
 go_wp2_with fail
 go_still_tail 7,(by kernel_rfl)
 go_wp2_with fail
 refine nH.out.mono ?_
 rintro e w1 ⟨rfl,v1,hs1,hk1⟩
 have hb1:=aZ HST.out (aH hk1)
 have HB1:=ae hb1
 have iR:=ae hs1
 have gY:=ae (aH hk1)
 have d1:w1.cell? ⟨cb,co+1,none⟩=some (.slice A n a):=(hb1.cell (p:=⟨cb,co+1,none⟩) hcb).trans c1
 have hcb1:cb<w1.heap.size:=by have:=hs1.lt;omega
 have HL:=ae (vX w1 g cb (co+1) A n a c.au v1 _ HN.out (by omega) d1 hcb (HA.out.keep hb1) HM.out (by omega) hs1)
 have RG:(bs++le c.aK 4++(le (n:Int) 1++cO c.au)).length≤10000040:=by
  simp only [List.length_append,aN,gZ,HN.out];omega
 clear hs1 hk1 hb1 nH c0 d1
 go_wp2_with fail
 refine HL.out.mono ?_
 rintro e w2 ⟨rfl,v2,hs2,hk2⟩
 have hb2:=HB1.out.trans (aZ iR.out hk2)
 have HB2:=ae hb2
 have HS2:=ae hs2
 have iO:=ae (gY.out.trans hk2)
 have d2:w2.cell? ⟨cb,co+2,none⟩=some (I lp):=(hb2.cell (p:=⟨cb,co+2,none⟩) hcb).trans c2
 obtain ⟨h1,h2⟩:=hs2.grow (ag w2 (.cells #[I (lp+1)] 3))
 have Fv:=ae h1
 have HG2:=ae h2
 have KJ:=ae hs2.new_ne
 have xy:=ae (heap_alloc_last w2 (.cells #[I (lp+1)] 3))
 have HC2:=ae (bF (w2.alloc (.cells #[I (lp+1)] 3)) g ⟨w2.heap.size,0,none⟩ v2 _ (lp+1) 1 (by omega) (by omega) (by omega) (by omega) h1.lt h1 ((Row.new w2 #[I (lp+1)] 3).2 0))
 clear hs2 hk2 hb2 HL h1 h2
 go_wp2_with fail
 refine HC2.out.mono ?_
 rintro e w3 ⟨rfl,v3,hs3,hk3⟩
 have hb3:=aZ Fv.out hk3
 have d3:w3.cell? ⟨w2.heap.size,0,none⟩=some (I (lp+1)):=cell_of_row w3 _ 0 _ _ _ ((Fv.out.far hk3 w2.heap.size (by simp) KJ.out.1 KJ.out.2).trans xy.out)
 have yB:Below g w w3:=(HB2.out.trans ((ag w2 (.cells #[I (lp+1)] 3)).mono (by have:=HS2.out.lt;omega))).trans hb3
 have HB3:=ae yB
 have e3:w3.cell? ⟨cb,co+2,none⟩=some (I lp):=(yB.cell (p:=⟨cb,co+2,none⟩) hcb).trans c2
 have f3:w3.frozen? ⟨cb,co+2,none⟩=false:=(yB.frozen (p:=⟨cb,co+2,none⟩) hcb).trans hfz
 have e4:w3.cell? ⟨cb,co+3,none⟩=some (.slice B n1 b):=(yB.cell (p:=⟨cb,co+3,none⟩) hcb).trans c3
 have hsame:=iM e3
 have jy:=ae hs3
 have lV:=ae ((iO.out.trans HG2.out).trans hk3)
 have hN3:(bs++le c.aK 4++(le (n:Int) 1++cO c.au)++le (lp+1) 1).length≤10000041:=by rw [List.length_append];simp only [aN];omega
 have ZJ:=ae (BZ w3 g cb (co+3) B n1 b c.rules v3 _ Yw.out (by omega) e4 hcb (yu.out.keep yB) HRF.out (by omega) hs3)
 clear hs3 hk3 hb3 yB HC2 d2 xy
 go_wp2_with fail
 refine ZJ.out.mono ?_
 rintro e w4 ⟨rfl,v4,hs4,hk4⟩
 have II:=ae hs4
 have Fz:=ae (lV.out.trans hk4)
 clear hs4 hk4 ZJ hsame d3 e3 f3 e4
 go_wp2_with fail
 go_end0
 exact ⟨rfl,v4,by unfold Je;rw [HN.out,Yw.out,FB.out];have h:=II.out;simpa only [List.append_assoc] using h,Fz.out⟩
set_option maxRecDepth 10000 in
set_option maxHeartbeats 2000000 in
theorem Hq (w:World) (g eb eo:Nat) (x:cZ) (v:Value) (bs:List UInt8) (h:vG x.e.z) (hs:x.e.name.size≤32) (hr:w.rangeAt eb eo x.cells.toList) (hfz:w.frozen? ⟨eb,eo+1+2,none⟩=false) (heb:eb<g) (hA:jb w g x.s x.e.z)
  (hl:bs.length≤9000000) (hst:dS w g v bs):
  Calls Tryz.prog 49 #[.iface 77 (pt g), .pointer (some ⟨eb,eo,none⟩)] w (dU w g v (bs++YK x.e)):=by
 have hgl:=hst.lt
 have c0:w.cell? ⟨eb,eo,none⟩=some (.string x.e.name):=hr 0 _ rfl
 have MB:Hid (w.rangeAt eb (eo+1) (aG x.e.z.cal x.s.A x.s.a x.s.B x.s.b).toList):=ae fun j u hu=>by
  have hj:j<4:=(List.getElem?_eq_some_iff.1 hu).1
  rw [show eo+1+j=eo+(j+1) by omega]
  refine hr (j+1) u ?_
  match j,hj with
  |0,_=>exact hu
  |1,_=>exact hu
  |2,_=>exact hu
  |3,_=>exact hu
 have c5:w.cell? ⟨eb,eo+1+4,none⟩=some (I x.e.z.start):=hr 5 _ rfl
 have c6:w.cell? ⟨eb,eo+1+5,none⟩=some (.slice x.s.C x.e.z.trans.length x.s.c):=hr 6 _ rfl
 have c7:w.cell? ⟨eb,eo+1+6,none⟩=some (I x.e.z.hor):=hr 7 _ rfl
 have c8:w.cell? ⟨eb,eo+1+7,none⟩=some (.slice x.s.D x.e.z.aB.length x.s.d):=hr 8 _ rfl
 have hnl:x.e.name.data.toList.length=x.e.name.size:=by rw [Array.length_toList];rfl
 have hcl:=F9 h.cal
 have htl:=h.Uw
 have hyl:x.e.z.aB.length≤2:=by rcases h.yr with hy|⟨r0,r1,hy,_⟩<;>rw [hy]<;>simp
 have U8:=ae htl
 have pg:=ae hyl
 have Oo:Hid (∀z∈x.e.z.trans,xY z):=ae (fun z hz=>by have:=h.tr z hz;have:=h.hor;unfold xY kR;omega)
 have HYF:Hid (∀z∈x.e.z.aB,oZ z):=ae (fun z hz=>by
  have hz2:xH z:=by
   rcases h.yr with hy|⟨r0,r1,hy,h0,h1⟩
   ·rw [hy] at hz;cases hz
   ·rw [hy] at hz
    rcases List.mem_cons.1 hz with rfl|hz
    ·exact h0
    ·rw [List.mem_singleton.1 hz];exact h1
  have a:=hz2.mo
  have b:=hz2.wk
  have c:=hz2.wd
  have d:=hz2.mi
  have e:=hz2.of
  unfold oZ kR
  omega)
 clear htl hyl
 have nH:=ae (Dx w.drew g ⟨eb,eo,none⟩ v bs x.e.name (by omega) (by omega) hst.drew c0 (by show eb≠g;omega) (dN hst.2 eb (by omega)) (by show eb<w.heap.size;omega))
 have HST:=ae hst
 have HF:=ae h
 have HA:=ae hA
 have yQ:Hid (∀j u,Below g w u→u.cell? ⟨eb,j,none⟩=w.cell? ⟨eb,j,none⟩):=ae fun j u hb=>hb.cell (p:=⟨eb,j,none⟩) heb
 have HL:Hid (x.e.name.data.toList.length=x.e.name.size∧(Je x.e.z.cal).length≤14∧x.e.name.size≤32∧bs.length≤9000000):=ae ⟨hnl,hcl,hs,hl⟩
 clear h hr hst hA hnl hcl hs hl
 go_enter Tryz.func49,Tryz.ntmps49
 go_wp2_with fail
 go_still_tail 7,(by kernel_rfl)
 go_wp2_with fail
 refine nH.out.mono ?_
 rintro e w1 ⟨rfl,v1,hs1,hk1⟩
 obtain ⟨B1,hB1⟩:∃B,bs++(le x.e.name.size 1++x.e.name.data.toList)=B:=⟨_,rfl⟩
 have hl1:B1.length≤9000040:=by rw [←hB1];have:=HL.out;simp only [List.length_append,aN];omega
 rw [hB1] at hs1
 have hb1:=aZ HST.out (aH hk1)
 have HB1:=ae hb1
 have iR:=ae hs1
 have gY:=ae (aH hk1)
 have oJ:=ae hB1
 have HC2:=ae (AO w1 g eb (eo+1) x.e.z.cal x.s.A x.s.a x.s.B x.s.b v1 B1 HF.out.cal (fun j u hu=>(hb1.cell (p:=⟨eb,eo+1+j,none⟩) heb).trans (MB.out j u hu)) ((hb1.frozen (p:=⟨eb,eo+1+2,none⟩) heb).trans hfz) heb (HA.out.au.ints.keep hb1) (HA.out.rules.keep hb1) (by omega) hs1)
 clear hs1 hk1 hb1 nH hB1 c0
 go_wp2_with fail
 refine HC2.out.mono ?_
 rintro e w2 ⟨rfl,v2,hs2,hk2⟩
 obtain ⟨B2,hB2⟩:∃B,B1++Je x.e.z.cal=B:=⟨_,rfl⟩
 have hl2:B2.length≤9000070:=by rw [←hB2];have:=HL.out;simp only [List.length_append];omega
 rw [hB2] at hs2
 have hb2:=HB1.out.trans (aZ iR.out hk2)
 have HB2:=ae hb2
 have HS2:=ae hs2
 have iO:=ae (gY.out.trans hk2)
 have lH:=ae hB2
 have Qc:=HF.out.start
 have rD:=ae (oQ w2.drew g ⟨eb,eo+1+4,none⟩ v2 B2 x.e.z.start (by omega) (by omega) (by omega) hs2.drew ((yQ.out _ _ hb2).trans c5))
 clear hs2 hk2 hb2 HC2 hB2 c5 Qc
 go_wp2_with fail
 go_still_tail 7,(by kernel_rfl)
 go_wp2_with fail
 refine rD.out.mono ?_
 rintro e w3 ⟨rfl,v3,hs3,hk3⟩
 obtain ⟨B3,hB3⟩:∃B,B2++le x.e.z.start 2=B:=⟨_,rfl⟩
 have hl3:B3.length≤9000080:=by rw [←hB3];simp only [List.length_append,aN];omega
 rw [hB3] at hs3
 have hb3:=HB2.out.trans (aZ HS2.out (aH hk3))
 have HB3:=ae hb3
 have jy:=ae hs3
 have lV:=ae (iO.out.trans (aH hk3))
 have yR:=ae hB3
 have qX:=ae (AQ w3 g eb (eo+1+5) x.s.C x.e.z.trans.length x.s.c x.e.z.trans v3 B3 rfl (by have:=U8.out;omega) ((yQ.out _ _ hb3).trans c6) heb (HA.out.trans.keep hb3) Oo.out (by omega) hs3)
 clear hs3 hk3 hb3 rD hB3 c6
 go_wp2_with fail
 refine qX.out.mono ?_
 rintro e w4 ⟨rfl,v4,hs4,hk4⟩
 obtain ⟨B4,hB4⟩:∃B,B3++(le x.e.z.trans.length 2++x.e.z.trans.flatMap jT)=B:=⟨_,rfl⟩
 have hl4:B4.length≤9000150:=by rw [←hB4];simp only [List.length_append,aN,uJ jT 10 sK];have:=U8.out;omega
 rw [hB4] at hs4
 have hb4:=HB3.out.trans (aZ jy.out hk4)
 have HB4:=ae hb4
 have II:=ae hs4
 have Fz:=ae (lV.out.trans hk4)
 have V9:=ae hB4
 have hh0:=HF.out.hor
 have xA:=ae (bF w4.drew g ⟨eb,eo+1+6,none⟩ v4 B4 x.e.z.hor 8 (by omega) (by omega) (by omega) (by omega) hs4.lt hs4.drew ((yQ.out _ _ hb4).trans c7))
 clear hs4 hk4 hb4 qX hB4 c7 hh0
 go_wp2_with fail
 go_still_tail 7,(by kernel_rfl)
 go_wp2_with fail
 refine xA.out.mono ?_
 rintro e w5 ⟨rfl,v5,hs5,hk5⟩
 obtain ⟨B5,Fe⟩:∃B,B4++le x.e.z.hor 8=B:=⟨_,rfl⟩
 have hl5:B5.length≤9000160:=by rw [←Fe];simp only [List.length_append,aN];omega
 rw [Fe] at hs5
 have hb5:=HB4.out.trans (aZ II.out (aH hk5))
 have uh:=ae hs5
 have wC:=ae (Fz.out.trans (aH hk5))
 have Yx:=ae Fe
 have Fp:=ae (Cc w5 g eb (eo+1+7) x.s.D x.e.z.aB.length x.s.d x.e.z.aB v5 B5 rfl (by have:=pg.out;omega) ((yQ.out _ _ hb5).trans c8) heb (HA.out.aB.keep hb5) HYF.out (by omega) hs5)
 clear hs5 hk5 hb5 xA Fe c8
 go_wp2_with fail
 refine Fp.out.mono ?_
 rintro e w6 ⟨rfl,v6,hs6,hk6⟩
 have IJ:=ae hs6
 have VZ:=ae (wC.out.trans hk6)
 clear hs6 hk6 Fp
 go_wp2_with fail
 go_end0
 refine ⟨rfl,v6,?_,VZ.out⟩
 have h:=IJ.out
 rw [←Yx.out,←V9.out,←yR.out,←lH.out,←oJ.out] at h
 unfold YK znB
 simpa only [List.append_assoc] using h
end Go.Proofs.YtdibbemgpikgjaaGreatDoor
namespace Go.Proofs.YtdibbemgpikgjaaGreatDoor
open Go Go.RowKit
theorem scan_skip (wd wk:Int) (n:Nat):∀(j:Nat) (d cn la:Int),(∀i:Nat,i<j→(d+i)%7≠wd)→fM wd wk (j+n) d cn la=fM wd wk n (d+j) cn la:=by
 intro j
 induction j with
 |zero=>intro d cn la _;rw [Nat.zero_add];congr 1;omega
 |succ j ih=>
  intro d cn la h
  have h0:¬d%7=wd:=by have:=h 0 (by omega);simpa using this
  rw [show j+1+n=(j+n)+1 by omega]
  show (if d%7=wd then _ else fM wd wk (j+n) (d+1) cn la)=_
  rw [if_neg h0,ih (d+1) cn la (fun i hi=>by have:=h (i+1) (by omega);rw [show d+1+(i:Int)=d+((i+1:Nat):Int) by omega];exact this)]
  congr 1
  omega
theorem Ar (wd wk:Int) (n:Nat) (d cn la:Int) (h:∀i:Nat,i<n→(d+i)%7≠wd):fM wd wk n d cn la=(la,wk==5&&decide (0≤la)):=by
 have:=scan_skip wd wk 0 n d cn la h
 rw [Nat.add_zero] at this
 rw [this]
 rfl
theorem G7 (wd wk:Int) (n:Nat) (d cn la:Int) (h:d%7=wd):fM wd wk (n+1) d cn la=if cn+1=wk∧wk<5 then (d,true) else fM wd wk n (d+1) (cn+1) d:=by
 show (if d%7=wd then _ else _)=_
 rw [if_pos h]
def Ed (wd wk first m:Int):Int×Bool:=
 if wk=5 then (first+m - 1 - (first+m - 1 - wd)%7,decide (first≤first+m - 1 - (first+m - 1 - wd)%7))
 else (first+(wd - first)%7+7*(wk - 1),decide (first+(wd - first)%7+7*(wk - 1)<first+m))
def RJ (c:Cal) (bg y:Int) (r:Yr):Int×Bool:=Ed r.dm r.df (nP c bg y r.month) (cu c y r.month)
theorem PG (wd wk d:Int) (m:Nat) (hm:m≤9) (h1:0≤wd∧wd≤6) (h2:1≤wk∧wk≤5) (hd:0≤d):
  (Ed wd wk d m).2=(fM wd wk m d 0 (-1)).2∧((fM wd wk m d 0 (-1)).2=true→(Ed wd wk d m).1=(fM wd wk m d 0 (-1)).1):=by
 obtain ⟨j,hj⟩:∃j:Nat,(wd - d)%7=j:=⟨((wd - d)%7).toNat,by omega⟩
 have hj7:j<7:=by omega
 have hjd:(d+j)%7=wd:=by omega
 have hjn:∀i:Nat,i<j→(d+i)%7≠wd:=fun i hi=>by omega
 by_cases hmj:m≤j
 ·rw [Ar wd wk m d 0 (-1) (fun i hi=>hjn i (by omega))]
  have e:(wk==5&&decide ((0:Int)≤ -1))=false:=by simp
  rw [e]
  refine ⟨?_,fun h=>by cases h⟩
  unfold Ed
  split
  ·exact decide_eq_false (by omega)
  ·exact decide_eq_false (by rw [hj];omega)
 ·obtain ⟨n,hn⟩:∃n,m=j+(n+1):=⟨m - j - 1,by omega⟩
  rw [show fM wd wk m d 0 (-1)=fM wd wk (n+1) (d+j) 0 (-1) by rw [hn];exact scan_skip wd wk (n+1) j d 0 (-1) hjn,G7 wd wk n (d+j) 0 (-1) hjd]
  by_cases hw1:(0:Int)+1=wk∧wk<5
  ·rw [if_pos hw1]
   unfold Ed
   rw [if_neg (by omega),hj]
   exact ⟨decide_eq_true (by omega),fun _=>by show d+(j:Int)+7*(wk - 1)=d+j;omega⟩
  ·rw [if_neg hw1]
   by_cases h6:n≤6
   ·rw [Ar wd wk n (d+j+1) (0+1) (d+j) (fun i hi=>by omega)]
    unfold Ed
    split
    ·rename_i h5
     subst h5
     have e:(((5:Int)==5)&&decide (0≤d+(j:Int)))=true:=by simp;omega
     rw [e]
     exact ⟨decide_eq_true (by omega),fun _=>by show d+(m:Int) - 1 - (d+m - 1 - wd)%7=d+j;omega⟩
    ·rename_i h5
     have e:(wk==5&&decide (0≤d+(j:Int)))=false:=by simp [h5]
     rw [e]
     exact ⟨decide_eq_false (by rw [hj];omega),fun h=>by cases h⟩
   ·obtain ⟨q,hq⟩:∃q,n=6+(q+1):=⟨n - 7,by omega⟩
    rw [show fM wd wk n (d+j+1) (0+1) (d+j)=fM wd wk (q+1) (d+j+1+(6:Nat)) (0+1) (d+j) by rw [hq];exact scan_skip wd wk (q+1) 6 (d+j+1) (0+1) (d+j) (fun i hi=>by omega),G7 wd wk q _ (0+1) (d+j) (by omega)]
    by_cases hw2:(0:Int)+1+1=wk∧wk<5
    ·rw [if_pos hw2]
     unfold Ed
     rw [if_neg (by omega),hj]
     exact ⟨decide_eq_true (by omega),fun _=>by show d+(j:Int)+7*(wk - 1)=d+j+1+(6:Nat);omega⟩
    ·rw [if_neg hw2]
     rw [Ar wd wk q _ _ _ (fun i hi=>by omega)]
     unfold Ed
     split
     ·rename_i h5
      subst h5
      have e:(((5:Int)==5)&&decide (0≤d+(j:Int)+1+(6:Nat)))=true:=by simp;omega
      rw [e]
      exact ⟨decide_eq_true (by omega),fun _=>by show d+(m:Int) - 1 - (d+m - 1 - wd)%7=d+j+1+(6:Nat);omega⟩
     ·rename_i h5
      have e:(wk==5&&decide (0≤d+(j:Int)+1+(6:Nat)))=false:=by simp [h5]
      rw [e]
      exact ⟨decide_eq_false (by rw [hj];omega),fun h=>by cases h⟩
theorem EZ (c:Cal) (bg y:Int) (r:Yr) (hc:fO c) (hr:xH r) (hb:0≤bg):(RJ c bg y r).2=(findF c bg y r).2∧((findF c bg y r).2=true→(RJ c bg y r).1=(findF c bg y r).1):=by
 have hm:=jH c y r.month hc hr.mo
 have h1:=jH c y 1 hc (.inl rfl)
 have hf:0≤nP c bg y r.month:=by
  unfold nP
  split<;>omega
 have h:=PG r.dm r.df (nP c bg y r.month) (cu c y r.month).toNat (by omega) hr.wd hr.wk hf
 rw [show (((cu c y r.month).toNat:Nat):Int)=cu c y r.month by omega] at h
 exact h
end Go.Proofs.YtdibbemgpikgjaaGreatDoor
namespace Go.Proofs.YtdibbemgpikgjaaGreatDoor
open Go Go.RowKit
theorem Nj (ts:List Tr) (t:Tr):(tX ts t).Perm (ts++ [t]):=by
 unfold tX
 refine (List.perm_middle).trans ?_
 rw [List.take_append_drop]
 exact (List.perm_append_comm (l₁:= [t]) (l₂:=ts))
theorem JD {ts us:List Tr} (t:Tr) (h:ts.Perm us):(tX ts t).Perm (us++ [t]):=(Nj ts t).trans (List.Perm.append_right [t] h)
def uo (c:Cal) (bg y:Int) (r r':Yr) (out:List Tr):List Tr:=if (RJ c bg y r).2=true then out++ [⟨(RJ c bg y r).1*1440+r.minute - r'.off,r.off⟩] else out
def uq (c:Cal) (r0 r1:Yr) (stop:Int):Nat→Int→Int→List Tr→List Tr
 |0,_,_,out=>out
 |n+1,bg,y,out=>if bg<stop then uq c r0 r1 stop n (bg+dB c y) (y+1) (uo c bg y r1 r0 (uo c bg y r0 r1 out)) else out
theorem Dq {c:Cal} {bg y:Int} {r r':Yr} {ts us:List Tr} (hc:fO c) (hr:xH r) (hb:0≤bg) (h:ts.Perm us):(DD c bg y r r' ts).Perm (uo c bg y r r' us):=by
 obtain ⟨h1,h2⟩:=EZ c bg y r hc hr hb
 unfold DD uo
 rw [h1]
 by_cases hf:(findF c bg y r).2=true
 ·rw [if_pos hf,if_pos hf,h2 hf]
  exact JD _ h
 ·rw [if_neg hf,if_neg hf]
  exact h
theorem NC {c:Cal} {r0 r1:Yr} {stop:Int} (hc:fO c) (hr0:xH r0) (hr1:xH r1):∀(f:Nat) (bg y:Int) (ts us:List Tr),0≤bg→ts.Perm us→(lu c r0 r1 stop f bg y ts).Perm (uq c r0 r1 stop f bg y us):=by
 intro f
 induction f with
 |zero=>intro bg y ts us _ h;exact h
 |succ f ih=>
  intro bg y ts us hb h
  unfold lu uq
  split
  ·have:=iZ c y hc
   exact ih _ _ _ _ (by omega) (Dq hc hr1 hb (Dq hc hr0 hb h))
  ·exact h
def Uh (z:Zn) (r0 r1:Yr):List Tr:=uq z.cal r0 r1 (z.cal.aK+jl z) 1400 z.cal.aK 1 []
theorem Qz {z:Zn} {r0 r1:Yr} (hc:fO z.cal) (hy:z.aB= [r0,r1]) (hr0:xH r0) (hr1:xH r1):(qi z).Perm (Uh z r0 r1):=by
 unfold qi Uh
 rw [hy]
 exact NC hc hr0 hr1 _ _ _ _ _ hc.ep.1 (List.Perm.refl _)
theorem Ef {ts:List Tr} {size:Int} (h:jA ts size=true) (i:Nat) (hi:i<ts.length):2160≤nS ts size i:=by
 unfold jA at h
 rw [List.all_eq_true] at h
 exact of_decide_eq_true (h i (List.mem_range.2 hi))
theorem Tu {ts:List Tr} {size:Int} (h:jA ts size=true):∀(k i:Nat),i+k+1<ts.length→iH ts i<iH ts (i+k+1):=by
 intro k
 induction k with
 |zero=>
  intro i hi
  have:=Ef h i (by omega)
  unfold nS at this
  rw [if_pos (by omega)] at this
  rw [Nat.add_zero]
  omega
 |succ k ih=>
  intro i hi
  have h1:=ih i (by omega)
  have h2:=Ef h (i+k+1) (by omega)
  unfold nS at h2
  rw [if_pos (by omega)] at h2
  rw [show i+(k+1)+1=i+k+1+1 by omega]
  omega
theorem D6 {ts:List Tr} {i:Nat} (hi:i<ts.length):iH ts i=ts[i].at_:=by
 unfold iH
 rw [List.getElem?_eq_getElem hi]
 rfl
theorem Na {ts:List Tr} {size:Int} (h:jA ts size=true):ts.Pairwise (fun a b=>a.at_<b.at_):=by
 rw [List.pairwise_iff_getElem]
 intro i j hi hj hij
 have:=Tu h (j - i - 1) i (by omega)
 rw [show i+(j - i - 1)+1=j by omega,D6 hi,D6 hj] at this
 exact this
theorem NK {ts us:List Tr} {size:Int} (h:jA ts size=true) (hp:us.Perm ts) (hs:us.Pairwise (fun a b=>a.at_≤b.at_)):us=ts:=by
 have hw:=Na h
 refine List.Perm.eq_of_pairwise (le:=fun a b=>a.at_≤b.at_) ?_ hs (hw.imp (fun h=>by omega)) hp
 intro a b ha hb h1 h2
 obtain ⟨i,hi,rfl⟩:=List.mem_iff_getElem.1 (hp.mem_iff.1 ha)
 obtain ⟨j,hj,rfl⟩:=List.mem_iff_getElem.1 hb
 rw [List.pairwise_iff_getElem] at hw
 rcases Nat.lt_trichotomy i j with h3|h3|h3
 ·have:=hw i j hi hj h3;omega
 ·subst h3;rfl
 ·have:=hw j i hj hi h3;omega
end Go.Proofs.YtdibbemgpikgjaaGreatDoor
