/- The texts Ke, Kf, Oc, Ng1, Ng2, in this order. -/
import Derived.Test.YtdibbemgpikgjaaGreatDoorY00
import Derived.Test.YtdibbemgpikgjaaGreatDoorY04
import Derived.Test.YtdibbemgpikgjaaGreatDoorY05
import Derived.Test.YtdibbemgpikgjaaGreatDoorY10
set_option maxRecDepth 10000
set_option maxHeartbeats 8000000
namespace Go.Proofs.YtdibbemgpikgjaaGreatDoor
open Go Go.RowKit
def lZ (ts:List Tr) (i:Nat):Int:=(ts[i]?.map (·.off)).getD 0
def qV (ts:List Tr) (size t:Int):Int:=if iT ts 0<t then (t - iT ts 0).tdiv size else 0
def eP (ts:List Tr) (size t:Int):Tr×Bool:=
 if ts.length=0 then (⟨0,0⟩,false)
 else match (List.range ts.length).find? (fun j=>decide (t≤iT ts j+qV ts size t*size)) with
  |some j=>(⟨iT ts j+qV ts size t*size,lZ ts j⟩,true)
  |none=>(⟨iT ts 0+(qV ts size t+1)*size,lZ ts 0⟩,true)
theorem yj {ts:List Tr} {size t q:Int} {n k:Nat} (hq:qV ts size t=q) (hl:ts.length=n) (hk:k<n) (h:∀j,j<k→iT ts j+q*size<t) (h1:t≤iT ts k+q*size):eP ts size t=(⟨iT ts k+q*size,lZ ts k⟩,true):=by
 have hf:(List.range ts.length).find? (fun j=>decide (t≤iT ts j+q*size))=some k:=by
  rw [List.find?_range_eq_some];exact ⟨decide_eq_true h1,List.mem_range.2 (by omega),fun j hj=>by have:=h j hj;simp;omega⟩
 unfold eP;rw [if_neg (by omega),hq,hf]
theorem BA {ts:List Tr} {size t q:Int} {n:Nat} (hq:qV ts size t=q) (hl:ts.length=n) (hk:0<n) (h:∀j,j<n→iT ts j+q*size<t):eP ts size t=(⟨iT ts 0+(q+1)*size,lZ ts 0⟩,true):=by
 have hf:(List.range ts.length).find? (fun j=>decide (t≤iT ts j+q*size))=none:=by
  rw [List.find?_range_eq_none];intro j hj;have:=h j (by omega);simp;omega
 unfold eP;rw [if_neg (by omega),hq,hf]
theorem uM {lo g n cp:Nat} {W:World} {ts:List Tr} (h:iE lo W (some ⟨g,0,none⟩) n cp ts) (hl:ts.length=n) (k:Nat) (hk:k<n):W.cell? ⟨g,k*2+1,none⟩=some (I (lZ ts k)):=by
 have hx:ts[k]? =some ts[k]:=bZ (by omega);rw [World.ownsRow.cellAt h (k*2+1) (by omega),flat_get (s:=2) Tr.cells ts (fun _ _=>rfl) k 1 _ hx (by omega)];unfold lZ;rw [hx];rfl
theorem GL {ts:List Tr} {sz t q:Int} (hq:qV ts sz t=q) (hs:1440≤sz) (ha: -10000000≤iT ts 0) (ht0:0≤t) (ht:t≤1000000):0≤q∧q≤100000000∧0≤q*sz∧q*sz≤11000000∧t≤iT ts 0+(q+1)*sz∧(q+1)*sz=q*sz+sz:=by
 have e1:(q+1)*sz=q*sz+sz:=by rw [Int.add_mul,Int.one_mul]
 unfold qV at hq;split at hq
 ·rename_i h;rw [Int.tdiv_eq_ediv_of_nonneg (by omega)] at hq;have h1:=Int.emod_add_mul_ediv (t - iT ts 0) sz;have h2:=Int.emod_nonneg (t - iT ts 0) (show sz≠0 by omega);have h3:=Int.emod_lt_of_pos (t - iT ts 0) (show 0<sz by omega);have h4:0≤(t - iT ts 0) / sz:=Int.ediv_nonneg (by omega) (by omega);rw [hq] at h1 h4;rw [Int.mul_comm] at h1;have h5:q*1440≤q*sz:=Int.mul_le_mul_of_nonneg_left hs h4;generalize q*sz=p at*;refine ⟨h4,?_,?_,?_,?_,e1⟩<;>omega
 ·subst hq;rw [Int.zero_mul] at*;refine ⟨?_,?_,?_,?_,?_,e1⟩<;>omega
theorem Nk (n l:Int) (w:World) (hl:0≤l) (hl2:l≤4000000000000000):Calls Tryz.prog 77 #[I n,I l] w fun e w'=>e= .returned (.bool (decide (-l≤n)&&decide (n≤l)))∧w'=w:=by
 by_cases h: -l≤n
 ·have HH:=ae h;go_enter Tryz.func77,Tryz.ntmps77;go_wp2_with fail;go_ret;exact ⟨by simp [HH.out],rfl⟩
 ·have HH:=ae h;go_enter Tryz.func77,Tryz.ntmps77;go_wp2_with fail;go_ret;exact ⟨by rw [decide_eq_false (show¬ -l≤n by have:=HH.out;omega)];rfl,rfl⟩
theorem Nr (z:Zn) (s:Zs) (w:World) (hy:z.aN= []):Calls Tryz.prog 78 #[.agg (ay z s)] w (RI w (rf z) (jS (rf z) (jL z*1440))):=by
 have e1:rf z= []:=by unfold rf;rw [hy]
 rw [e1];obtain ⟨⟨ep,mo,lp,ru⟩,st,tr,ho,yr⟩:=z;obtain ⟨A0,a,R0,r,C0,c0,D0,d0⟩:=s;simp only at hy;subst hy;unfold ay;simp only [List.length_nil];obtain ⟨n0,hn0⟩:∃n,mo.length=n:=⟨_,rfl⟩;obtain ⟨n1,hn1⟩:∃n,ru.length=n:=⟨_,rfl⟩;obtain ⟨n2,hn2⟩:∃n,tr.length=n:=⟨_,rfl⟩;rw [hn0,hn1,hn2];clear hn0 hn1 hn2 e1;go_enter Tryz.func78,Tryz.ntmps78;go_wp2_with fail;go_ret2;refine ⟨_,0,_,rfl,rfl,?_,ah (ag w _) (ag _ _)⟩;have h:=gm (w.alloc (.cells #[I ep, .slice A0 n0 a,I lp, .slice R0 n1 r,I st, .slice C0 n2 c0,I ho, .slice D0 0 d0] 67)) 127 2;refine iE.lower (lo:=w.heap.size+1) ?_ (Nat.le_succ _);simpa [iE] using h
theorem EC (lo n c:Nat) (A:Option Addr) (ts:List Tr) (zI t:Int) (w:World) (hl:ts.length=n) (hn1:n≤1000) (hO:iE lo w A n c ts) (htb:J3 ts) (hc1:1≤zI) (hc2:zI≤1400) (ht0:0≤t) (ht:t≤1000000):
  Calls Tryz.prog 79 #[.slice A n c,I zI,I t] w (Gives (.tuple #[.agg #[I (eP ts (zI*1440) t).1.at_,I (eP ts (zI*1440) t).1.off], .bool (eP ts (zI*1440) t).2]) w):=by
 obtain ⟨sz,hsz⟩:∃v,zI*1440=v:=⟨_,rfl⟩;rw [hsz];have hs1:1440≤sz:=by omega
 have hs2:sz≤2016000:=by omega
 have HL:=ae hl;rcases Nat.eq_zero_or_pos n with hn0|hn0
 ·subst hn0;have e1:eP ts sz t=(⟨0,0⟩,false):=by unfold eP;rw [if_pos hl]
  rw [e1];clear hO htb hl e1 hsz;go_enter Tryz.func79,Tryz.ntmps79;go_wp2_with fail;refine bodyPost_ret (v:= .tuple #[.agg #[I 0,I 0], .bool false]) (bK rfl _ _ w.heap.size _ #[I 0,I 0] (0,0) _ rfl (heap_alloc_last w _) Tryz.underlying127 rfl (by kernel_rfl) _ rfl) rfl ?_;exact ⟨rfl,ag w _⟩
 ·obtain ⟨g,cap,hgv,hgl⟩:=dE hO hn0;injection hgv with hA hB hC;subst hA hC;clear hB;have HO:=ae (World.ownsRow.alloc hO (.cells #[I 0,I 0] 127));have Ia:=ae (fun k=>qx k htb);clear hO hl htb;obtain ⟨res,hres⟩:∃r,eP ts sz t=r:=⟨_,rfl⟩;rw [hres];have jD:=ae hres;clear hres;obtain ⟨q,hq⟩:∃v,qV ts sz t=v:=⟨_,rfl⟩;obtain ⟨q0,q1,p0,p1,ht2,he⟩:=GL hq hs1 (Ia.out 0).1 ht0 ht;have HQ:=ae hq;unfold qV at hq;obtain ⟨p,hp⟩:∃v,q*sz=v:=⟨_,rfl⟩;rw [hp] at p0 p1 he;have HP:=ae hp;have hb0:=Ia.out 0;have x0:=rQ HO.out HL.out 0 hn0;have y0:=uM HO.out HL.out 0 hn0;rw [Nat.zero_mul] at x0 y0;rw [Nat.zero_add] at y0;obtain ⟨a0,ha0⟩:∃v,iT ts 0=v:=⟨_,rfl⟩;obtain ⟨o0,ho0⟩:∃v,lZ ts 0=v:=⟨_,rfl⟩;rw [ha0] at x0 hq hb0 ht2;rw [ho0] at y0;have uC:=ae ha0;have Ba:=ae ho0;clear ha0 ho0;have hnn:((n:Int)==0)=false:=by simp;omega
  have i2:(0:Int)<(n:Int):=by omega
  have hs0:sz≠0:=by omega
  have hs3:sz≠ -1:=by omega
  have hcut:(a0<t∧(t - a0).tdiv sz=q)∨(¬a0<t∧q=0):=by
   by_cases h:a0<t
   ·rw [if_pos h] at hq;exact .inl ⟨h,hq⟩
   ·rw [if_neg h] at hq;exact .inr ⟨h,hq.symm⟩
  clear hq;rcases hcut with ⟨hat,hq⟩|⟨hat,hq⟩
  ·have ht3:t≤a0+(p+sz):=by omega
   have hatd:decide (a0<t)=true:=decide_eq_true hat;have hw1:IntKind.i64.wrap p=p:=by rw [IntKind.wrap_i64];omega
   have hw2:IntKind.i64.wrap (p+sz)=p+sz:=by rw [IntKind.wrap_i64];omega
   have hw3:IntKind.i64.wrap (a0+(p+sz))=a0+(p+sz):=by rw [IntKind.wrap_i64];omega
   have hw4:IntKind.i64.wrap (q+1)=q+1:=by rw [IntKind.wrap_i64];omega
   go_enter Tryz.func79,Tryz.ntmps79;go_wp2_with fail;refine wp_loop_rounds 2 ?_;rw [rounds_succ];go_wp2_with fail;clear x0 y0;have HR:Hid ((w.alloc (.cells #[I 0,I 0] 127)).heap[w.heap.size]? =some (.cells #[I 0,I 0] 127 (0,0))∧Below w.heap.size w (w.alloc (.cells #[I 0,I 0] 127))):=ae ⟨heap_alloc_last w _,ag w _⟩;generalize w.alloc (.cells #[I 0,I 0] 127)=W0 at HR HO ⊢
   go_loopw [11] (fun i wr=>∃k:Nat,k≤n∧i= .int .i64 k∧(∀j,j<k→iT ts j+p<t)∧W0=wr) (fun i _=>n - (intOf i).toNat)
   case atStart=>exact ⟨0,Nat.zero_le _,by go_num,(fun _ h=>absurd h (Nat.not_lt_zero _)),rfl⟩
   case round=>
    obtain ⟨k,hk,rfl,hall,rfl⟩:=hrel;have jX:=ae hall;clear hall;by_cases hlt:k<n
    ·have x1:=rQ HO.out HL.out k hlt;have y1:=uM HO.out HL.out k hlt;have hb1:=Ia.out k;obtain ⟨a1,ha1⟩:∃v,iT ts k=v:=⟨_,rfl⟩;obtain ⟨o1,ho1⟩:∃v,lZ ts k=v:=⟨_,rfl⟩;rw [ha1] at x1 hb1;rw [ho1] at y1;have HA1:=ae ha1;have Aa:=ae ho1;clear ha1 ho1;have i0:(0:Int)≤(k:Int):=by omega
     have i1:(k:Int)<(n:Int):=by omega
     have hw5:IntKind.i64.wrap (a1+p)=a1+p:=by rw [IntKind.wrap_i64];omega
     have hw6:IntKind.i64.wrap 0=0:=by rw [IntKind.wrap_i64];omega
     by_cases hge:t≤a1+p
     ·have HE:Hid (res=(⟨a1+p,o1⟩,true)):=ae (by
       have h:=yj HQ.out HL.out hlt (by rw [HP.out];exact jX.out) (by rw [HP.out,HA1.out];exact hge);rw [←jD.out,h,HA1.out,Aa.out,HP.out])
      go_wp2_with fail;have r0:W0.cell? ⟨w.heap.size,0,none⟩=some (I 0):=cell_of_row _ _ 0 _ _ _ HR.out.1;have r1:W0.cell? ⟨w.heap.size,1,none⟩=some (I 0):=cell_of_row _ _ 1 _ _ _ HR.out.1;have f0:∀i,W0.frozen? ⟨w.heap.size,i,none⟩=false:=fun i=>frozen_of_row _ _ i _ _ HR.out.1;go_still_tail 15,(by kernel_rfl);change wpList _ _ _ _ _ W0.drew;go_wp2_with fail;have hh:(((W0.setCell ⟨w.heap.size,0,none⟩ (I (a1+p))).setCell ⟨w.heap.size,1,none⟩ (I o1)).drew).heap[w.heap.size]? =some (.cells #[I (a1+p),I o1] 127 (0,0)):=heap_setCell_same _ w.heap.size 1 _ _ _ (heap_setCell_same _ w.heap.size 0 _ _ _ HR.out.1);refine bodyPost_ret (v:= .tuple #[.agg #[I (a1+p),I o1], .bool true]) (bK rfl _ _ w.heap.size _ #[I (a1+p),I o1] (0,0) _ rfl hh Tryz.underlying127 rfl (by kernel_rfl) _ rfl) rfl ?_;exact ⟨by rw [HE.out],((HR.out.2.setCell (p:=⟨w.heap.size,0,none⟩) (Nat.le_refl _) _).setCell (p:=⟨w.heap.size,1,none⟩) (Nat.le_refl _) _).drew⟩
     ·go_wp2_with fail;go_roundw
      case rel=>exact ⟨k+1,by omega,by go_num,(fun j hj=>by rcases Nat.lt_succ_iff_lt_or_eq.1 hj with h|rfl;exact jX.out j h;rw [HA1.out];omega),by first|trivial|rfl⟩
      case measure=>simp [intOf];omega
    ·have hnl:¬(k:Int)<(n:Int):=by omega
     have HE:Hid (res=(⟨a0+(p+sz),o0⟩,true)):=ae (by
      have h:=BA HQ.out HL.out hn0 (by rw [HP.out];exact fun j hj=>jX.out j (by omega));rw [←jD.out,h,uC.out,Ba.out,he])
     go_wp2_with fail;rw [rounds_succ];have x0:=rQ HO.out HL.out 0 hn0;have y0:=uM HO.out HL.out 0 hn0;rw [Nat.zero_mul] at x0 y0;rw [Nat.zero_add] at y0;rw [uC.out] at x0;rw [Ba.out] at y0;have hw6:IntKind.i64.wrap 0=0:=by rw [IntKind.wrap_i64];omega
     go_wp2_with fail;refine wp_loop_rounds 1 ?_;rw [rounds_succ];go_wp2_with fail;have r0:W0.cell? ⟨w.heap.size,0,none⟩=some (I 0):=cell_of_row _ _ 0 _ _ _ HR.out.1;have r1:W0.cell? ⟨w.heap.size,1,none⟩=some (I 0):=cell_of_row _ _ 1 _ _ _ HR.out.1;have f0:∀i,W0.frozen? ⟨w.heap.size,i,none⟩=false:=fun i=>frozen_of_row _ _ i _ _ HR.out.1;go_still_tail 15,(by kernel_rfl);change wpList _ _ _ _ _ W0.drew;go_wp2_with fail;have hh:(((W0.setCell ⟨w.heap.size,0,none⟩ (I (a0+(p+sz)))).setCell ⟨w.heap.size,1,none⟩ (I o0)).drew).heap[w.heap.size]? =some (.cells #[I (a0+(p+sz)),I o0] 127 (0,0)):=heap_setCell_same _ w.heap.size 1 _ _ _ (heap_setCell_same _ w.heap.size 0 _ _ _ HR.out.1);refine bodyPost_ret (v:= .tuple #[.agg #[I (a0+(p+sz)),I o0], .bool true]) (bK rfl _ _ w.heap.size _ #[I (a0+(p+sz)),I o0] (0,0) _ rfl hh Tryz.underlying127 rfl (by kernel_rfl) _ rfl) rfl ?_;exact ⟨by rw [HE.out],((HR.out.2.setCell (p:=⟨w.heap.size,0,none⟩) (Nat.le_refl _) _).setCell (p:=⟨w.heap.size,1,none⟩) (Nat.le_refl _) _).drew⟩
  ·subst hq;rw [Int.zero_mul] at hp;subst hp;clear he p0 p1 q0 q1 ht2;go_enter Tryz.func79,Tryz.ntmps79;go_wp2_with fail;refine wp_loop_rounds 2 ?_;rw [rounds_succ];go_wp2_with fail;clear x0 y0;have HR:Hid ((w.alloc (.cells #[I 0,I 0] 127)).heap[w.heap.size]? =some (.cells #[I 0,I 0] 127 (0,0))∧Below w.heap.size w (w.alloc (.cells #[I 0,I 0] 127))):=ae ⟨heap_alloc_last w _,ag w _⟩;generalize w.alloc (.cells #[I 0,I 0] 127)=W0 at HR HO ⊢
   go_loopw [11] (fun i wr=>∃k:Nat,k≤n∧i= .int .i64 k∧(∀j,j<k→iT ts j+0<t)∧W0=wr) (fun i _=>n - (intOf i).toNat)
   case atStart=>exact ⟨0,Nat.zero_le _,by go_num,(fun _ h=>absurd h (Nat.not_lt_zero _)),rfl⟩
   case round=>
    obtain ⟨k,hk,rfl,hall,rfl⟩:=hrel;have jX:=ae hall;clear hall;by_cases hlt:k<n
    ·have x1:=rQ HO.out HL.out k hlt;have y1:=uM HO.out HL.out k hlt;have hb1:=Ia.out k;obtain ⟨a1,ha1⟩:∃v,iT ts k=v:=⟨_,rfl⟩;obtain ⟨o1,ho1⟩:∃v,lZ ts k=v:=⟨_,rfl⟩;rw [ha1] at x1 hb1;rw [ho1] at y1;have HA1:=ae ha1;have Aa:=ae ho1;clear ha1 ho1;have i0:(0:Int)≤(k:Int):=by omega
     have i1:(k:Int)<(n:Int):=by omega
     have hw5:IntKind.i64.wrap (a1)=a1:=by rw [IntKind.wrap_i64];omega
     have hw6:IntKind.i64.wrap 0=0:=by rw [IntKind.wrap_i64];omega
     by_cases hge:t≤a1
     ·have HE:Hid (res=(⟨a1,o1⟩,true)):=ae (by
       have h:=yj HQ.out HL.out hlt (by rw [Int.zero_mul];exact jX.out) (by rw [Int.zero_mul,HA1.out];omega);rw [←jD.out,h,HA1.out,Aa.out,Int.zero_mul,Int.add_zero])
      go_wp2_with fail;have r0:W0.cell? ⟨w.heap.size,0,none⟩=some (I 0):=cell_of_row _ _ 0 _ _ _ HR.out.1;have r1:W0.cell? ⟨w.heap.size,1,none⟩=some (I 0):=cell_of_row _ _ 1 _ _ _ HR.out.1;have f0:∀i,W0.frozen? ⟨w.heap.size,i,none⟩=false:=fun i=>frozen_of_row _ _ i _ _ HR.out.1;go_still_tail 15,(by kernel_rfl);change wpList _ _ _ _ _ W0.drew;go_wp2_with fail;have hh:(((W0.setCell ⟨w.heap.size,0,none⟩ (I (a1))).setCell ⟨w.heap.size,1,none⟩ (I o1)).drew).heap[w.heap.size]? =some (.cells #[I (a1),I o1] 127 (0,0)):=heap_setCell_same _ w.heap.size 1 _ _ _ (heap_setCell_same _ w.heap.size 0 _ _ _ HR.out.1);refine bodyPost_ret (v:= .tuple #[.agg #[I (a1),I o1], .bool true]) (bK rfl _ _ w.heap.size _ #[I (a1),I o1] (0,0) _ rfl hh Tryz.underlying127 rfl (by kernel_rfl) _ rfl) rfl ?_;exact ⟨by rw [HE.out],((HR.out.2.setCell (p:=⟨w.heap.size,0,none⟩) (Nat.le_refl _) _).setCell (p:=⟨w.heap.size,1,none⟩) (Nat.le_refl _) _).drew⟩
     ·go_wp2_with fail;go_roundw
      case rel=>exact ⟨k+1,by omega,by go_num,(fun j hj=>by rcases Nat.lt_succ_iff_lt_or_eq.1 hj with h|rfl;exact jX.out j h;rw [HA1.out];omega),by first|trivial|rfl⟩
      case measure=>simp [intOf];omega
    ·exact absurd (jX.out 0 (by omega)) (by rw [uC.out];omega)
structure uS (z:Zn):Prop where
 cal:gW z.cal
 start: -1080≤z.start∧z.start≤1080
 hor:0≤z.hor∧z.hor≤1000000
 U7:z.trans.length≤3
 tr:∀x∈z.trans,(-1080≤x.off∧x.off≤1080)∧0≤x.at_∧x.at_<z.hor
 gap:∀i,i+1<z.trans.length→iT z.trans i+2160≤iT z.trans (i+1)
 yr:z.aN= []∨∃r0 r1,z.aN= [r0,r1]∧yh r0∧yh r1
def qL (z:Zn):Bool:=
 let a:=eP (rf z) (jL z*1440) z.hor
 a.2&&(decide (0<z.trans.length)&&decide (a.1.at_ - iT z.trans (z.trans.length - 1)<2160))
def zM (z:Zn):Int:=if jS (rf z) (jL z*1440)=false then 1 else if qL z=true then 1 else 0
theorem OT (c:Cal) (bg y:Int) (r r':Yr) (ts:List Tr):(Fp c bg y r r' ts).length≤ts.length+1:=by
 unfold Fp;split
 ·rw [xk];exact Nat.le_refl _
 ·omega
theorem JL (c:Cal) (r0 r1:Yr) (ep stop:Int) (hc:gW c) (hr0:yh r0) (hr1:yh r1) (hs:stop≤1500) (he:0≤ep):∀(f:Nat) (bg y:Int) (ts:List Tr),J3 ts→1≤y→ep+12*(y - 1)≤bg→bg≤stop+100→(ts.length:Int)≤2*(y - 1)→J3 (lQ c r0 r1 stop f bg y ts)∧(lQ c r0 r1 stop f bg y ts).length≤1000:=by
 intro f
 induction f with
 |zero=>intro bg y ts h1 h2 h3 h4 h5;exact ⟨h1,by show ts.length≤1000;omega⟩
 |succ f ih=>
  intro bg y ts h1 h2 h3 h4 h5;unfold lQ;split
  ·rename_i hlt;have h6:=qj c y hc;have h7:=jC c y hc;have l1:=OT c bg y r0 r1 ts;have l2:=OT c bg y r1 r0 (Fp c bg y r0 r1 ts);exact ih _ _ _ (xH (xH h1 hc hr0 hr1 (by omega) (by omega)) hc hr1 hr0 (by omega) (by omega)) (by omega) (by omega) (by omega) (by omega)
  ·exact ⟨h1,by omega⟩
theorem Fj (z:Zn) (h:uS z):J3 (rf z)∧(rf z).length≤1000:=by
 have hz:=qo z h.cal;have he:=h.cal.ep;rcases h.yr with hy|⟨r0,r1,hy,h0,h1⟩
 ·unfold rf;rw [hy];exact ⟨fun _ h=>(nomatch h),by simp⟩
 ·unfold rf;rw [hy];exact JL z.cal r0 r1 z.cal.aX _ h.cal h0 h1 (by omega) he.1 1400 _ _ _ (fun _ h=>(nomatch h)) (by omega) (by omega) (by omega) (by simp)
theorem Dl (z:Zn) (s:Zs) (w:World) (hm:uS z) (h:jG w w.heap.size s z):Calls Tryz.prog 78 #[.agg (ay z s)] w (RI w (rf z) (jS (rf z) (jL z*1440))):=by
 rcases hm.yr with hy|⟨r0,r1,hy,h0,h1⟩
 ·exact Nr z s w hy
 ·exact Ns z s r0 r1 w hm.cal h hy h0 h1 (by have:=hm.U7;omega)
theorem iC (n l:Int) (w:World) (hl:0≤l) (hl2:l≤4000000000000000) (h: -l≤n∧n≤l):Calls Tryz.prog 77 #[I n,I l] w fun e w'=>e= .returned (.bool true)∧w'=w:=
 (Nk n l w hl hl2).mono fun e w' ⟨h1,h2⟩=>⟨by rw [h1,decide_eq_true h.1,decide_eq_true h.2];rfl,h2⟩
theorem xN (z:Zn) (h:gW z.cal):1≤jL z:=by
 have h1:=qj z.cal 1 h;have h2:=qj z.cal 2 h;unfold jL IP rG;split
 ·omega
 ·split<;>split<;>omega
def VRel (w:World) (cs:Array Value) (m:Nat) (i:Value) (wr:World):Prop:=∃k:Nat,k≤m∧i= .int .i64 k∧jW w cs wr
theorem pq {w W:World} {C:Option Addr} {ts:List Tr} (h:aA w w.heap.size C (ts.flatMap Tr.cells)) (hb:Below w.heap.size w W) (h0:0<ts.length):∃b off,C=some ⟨b,off,none⟩∧∀k,k<ts.length→W.cell? ⟨b,off+k*2,none⟩=some (I (iT ts k))∧W.cell? ⟨b,off+k*2+1,none⟩=some (I (lZ ts k)):=by
 obtain ⟨b,off,e,hb1,hcl⟩:=h.there (by rw [dD (s:=2) Tr.cells _ fun _ _=>rfl];omega);refine ⟨b,off,e,fun k hk=>?_⟩;have hx:ts[k]? =some ts[k]:=bZ hk;have hr:=aQ (aA.elem (s:=2) (fun _ _=>rfl) hcl k _ hx) hb hb1;have e1:iT ts k=ts[k].at_:=by unfold iT;rw [hx];rfl
 have e2:lZ ts k=ts[k].off:=by unfold lZ;rw [hx];rfl
 rw [e1,e2];exact ⟨hr 0 _ rfl,hr 1 _ rfl⟩
theorem uS.BC {z:Zn} (h:uS z) (k:Nat) (hk:k<z.trans.length):(-1080≤lZ z.trans k∧lZ z.trans k≤1080)∧0≤iT z.trans k∧iT z.trans k<z.hor:=by
 have hx:z.trans[k]? =some z.trans[k]:=bZ hk;have e1:iT z.trans k=z.trans[k].at_:=by unfold iT;rw [hx];rfl
 have e2:lZ z.trans k=z.trans[k].off:=by unfold lZ;rw [hx];rfl
 rw [e1,e2];exact h.tr _ (List.getElem_mem hk)
theorem Iq {ts:List Tr} {size t:Int} (h:J3 ts) (hs:1440≤size) (hs2:size≤3000000) (ht0:0≤t) (ht:t≤1000000): -10000000000≤(eP ts size t).1.at_∧(eP ts size t).1.at_≤10000000000:=by
 obtain ⟨q,hq⟩:∃q,qV ts size t=q:=⟨_,rfl⟩;have hb:=GL hq hs (qx 0 h).1 ht0 ht;have h0:=qx 0 h;unfold eP;split
 ·simp
 ·rw [hq];split
  ·rename_i j _;have hj:=qx j h;simp only;omega
  ·simp only;omega
attribute [local go_sem] mF mO mG mP qN qO mr mJ mD mM
def FU (c:Cal):List UInt8:=le c.aX 4++((le c.az.length 1++dm c.az)++(le (c.dM+1) 1++(le c.rules.length 1++c.rules.flatMap lJ)))
def znB (z:Zn):List UInt8:=FU z.cal++(le z.start 2++((le z.trans.length 2++z.trans.flatMap jR)++(le z.hor 8++(le z.aN.length 1++z.aN.flatMap lS))))
def Vb (e:Ze):List UInt8:=(le e.name.size 1++e.name.data.toList)++znB e.z
theorem Iz {c:Cal} (h:gW c):(FU c).length≤14:=by
 unfold FU;simp only [aZ,aF,iG,vX lJ 5 y7];have:=h.mo;have:=h.ru;omega
theorem XF {e:Ze} (h:uS e.z) (hs:e.name.size≤32):(Vb e).length≤140:=by
 have h1:=Iz h.cal;have h2:=h.U7;have h3:e.z.aN.length≤2:=by rcases h.yr with hy|⟨r0,r1,hy,_⟩<;>rw [hy]<;>simp
 have h4:e.name.data.toList.length=e.name.size:=by rw [Array.length_toList];rfl
 unfold Vb znB;simp only [aZ,aF,vX jR 10 uu,vX lS 7 zu,h4];omega
theorem C9 (w:World) (g cb co:Nat) (c:Cal) (A:Option Addr) (a:Nat) (B:Option Addr) (b:Nat) (v:Value) (bs:List UInt8) (hc:gW c) (hr:w.rangeAt cb co (aG c A a B b).toList) (hfz:w.frozen? ⟨cb,co+2,none⟩=false) (hcb:cb<g) (hA:fJ w g A c.az) (hB:aA w g B (c.rules.flatMap Lr.cells))
  (hl:bs.length≤10000000) (hst:fA w g v bs):
  Calls Tryz.prog 68 #[.iface 77 (pt g), .pointer (some ⟨cb,co,none⟩)] w (fE w g v (bs++FU c)):=by
 have hgl:=hst.lt;have c0:w.cell? ⟨cb,co,none⟩=some (I c.aX):=hr 0 _ rfl;have c1:w.cell? ⟨cb,co+1,none⟩=some (.slice A c.az.length a):=hr 1 _ rfl;have c2:w.cell? ⟨cb,co+2,none⟩=some (I c.dM):=hr 2 _ rfl;have c3:w.cell? ⟨cb,co+3,none⟩=some (.slice B c.rules.length b):=hr 3 _ rfl;obtain ⟨lp,hlp⟩:∃l,c.dM=l:=⟨_,rfl⟩;obtain ⟨n1,hn1⟩:∃n,c.rules.length=n:=⟨_,rfl⟩;rw [hlp] at c2;rw [hn1] at c3;have hlb:=hc.le;rw [hlp] at hlb;have hrb:=hc.ru;rw [hn1] at hrb;have Ht:=ae hlp;have Rh:=ae hn1;have O7:=ae hB;have HRF:Hid (∀z∈c.rules,y8 z):=ae (fun z hz=>by have:=hc.rl z hz;unfold y8 lu;omega);clear hB hlp hn1;obtain ⟨n,hn⟩:∃n,c.az.length=n:=⟨_,rfl⟩;rw [hn] at c1;have hn2:n≤16:=by have:=hc.mo;omega
 have hN1:(bs++le c.aX 4).length≤10000004:=by rw [aZ,aF];omega
 have HE:=ae hc.ep;have HN:=ae hn;have HM:Hid (∀z∈c.az,fits z):=ae fun z hz=>by have:=hc.all z hz;unfold fits;omega
 have lV:=ae (bH w.drew g ⟨cb,co,none⟩ v bs c.aX 4 (by have:=hc.ep;omega) (by have:=hc.ep;omega) (by omega) (by omega) hst.lt hst.drew c0);have HST:=ae hst;have HA:=ae hA;clear hc hr hst hA hn;go_enter Tryz.func68,Tryz.ntmps68;go_wp2_with fail;go_still_tail 7,(by kernel_rfl);go_wp2_with fail;refine lV.out.mono ?_;rintro e w1 ⟨rfl,v1,hs1,hk1⟩;have hb1:=bu HST.out (aI hk1);have HB1:=ae hb1;have iq:=ae hs1;have iF:=ae (aI hk1);have d1:w1.cell? ⟨cb,co+1,none⟩=some (.slice A n a):=(hb1.cell (p:=⟨cb,co+1,none⟩) hcb).trans c1;have hcb1:cb<w1.heap.size:=by have:=hs1.lt;omega
 have HL:=ae (xJ w1 g cb (co+1) A n a c.az v1 _ HN.out (by omega) d1 hcb (HA.out.keep hb1) HM.out (by omega) hs1);have U2:(bs++le c.aX 4++(le (n:Int) 1++dm c.az)).length≤10000040:=by
  simp only [aZ,aF,iG,HN.out];omega
 clear hs1 hk1 hb1 lV c0 d1;go_wp2_with fail;refine HL.out.mono ?_;rintro e w2 ⟨rfl,v2,hs2,hk2⟩;have hb2:=HB1.out.trans (bu iq.out hk2);have HB2:=ae hb2;have HS2:=ae hs2;have iO:=ae (iF.out.trans hk2);have d2:w2.cell? ⟨cb,co+2,none⟩=some (I lp):=(hb2.cell (p:=⟨cb,co+2,none⟩) hcb).trans c2;obtain ⟨h1,h2⟩:=hs2.grow (ag w2 (.cells #[I (lp+1)] 3));have Hr:=ae h1;have HG2:=ae h2;have NK:=ae hs2.new_ne;have yR:=ae (heap_alloc_last w2 (.cells #[I (lp+1)] 3));have HC2:=ae (bH (w2.alloc (.cells #[I (lp+1)] 3)) g ⟨w2.heap.size,0,none⟩ v2 _ (lp+1) 1 (by omega) (by omega) (by omega) (by omega) h1.lt h1 ((Row.new w2 #[I (lp+1)] 3).2 0));clear hs2 hk2 hb2 HL h1 h2;go_wp2_with fail;refine HC2.out.mono ?_;rintro e w3 ⟨rfl,v3,hs3,hk3⟩;have hb3:=bu Hr.out hk3;have d3:w3.cell? ⟨w2.heap.size,0,none⟩=some (I (lp+1)):=cell_of_row w3 _ 0 _ _ _ ((Hr.out.far hk3 w2.heap.size (by simp) NK.out.1 NK.out.2).trans yR.out);have zJ:Below g w w3:=(HB2.out.trans ((ag w2 (.cells #[I (lp+1)] 3)).mono (by have:=HS2.out.lt;omega))).trans hb3;have HB3:=ae zJ;have e3:w3.cell? ⟨cb,co+2,none⟩=some (I lp):=(zJ.cell (p:=⟨cb,co+2,none⟩) hcb).trans c2;have f3:w3.frozen? ⟨cb,co+2,none⟩=false:=(zJ.frozen (p:=⟨cb,co+2,none⟩) hcb).trans hfz;have e4:w3.cell? ⟨cb,co+3,none⟩=some (.slice B n1 b):=(zJ.cell (p:=⟨cb,co+3,none⟩) hcb).trans c3;have hsame:=iZ e3;have jU:=ae hs3;have mV:=ae ((iO.out.trans HG2.out).trans hk3);have hN3:(bs++le c.aX 4++(le (n:Int) 1++dm c.az)++le (lp+1) 1).length≤10000041:=by rw [aZ];simp only [aF];omega
 have HLL:=ae (Ef w3 g cb (co+3) B n1 b c.rules v3 _ Rh.out (by omega) e4 hcb (O7.out.keep zJ) HRF.out (by omega) hs3);clear hs3 hk3 hb3 zJ HC2 d2 yR;go_wp2_with fail;refine HLL.out.mono ?_;rintro e w4 ⟨rfl,v4,hs4,hk4⟩;have Ad:=ae hs4;have NJ:=ae (mV.out.trans hk4);clear hs4 hk4 HLL hsame d3 e3 f3 e4;go_wp2_with fail
 go_end0
 exact ⟨rfl,v4,by unfold FU;rw [HN.out,Rh.out,Ht.out];have h:=Ad.out;simpa only [List.append_assoc] using h,NJ.out⟩
theorem JF (w:World) (g eb eo:Nat) (x:dB) (v:Value) (bs:List UInt8) (h:uS x.e.z) (hs:x.e.name.size≤32) (hr:w.rangeAt eb eo x.cells.toList) (hfz:w.frozen? ⟨eb,eo+1+2,none⟩=false) (heb:eb<g) (hA:jG w g x.s x.e.z)
  (hl:bs.length≤9000000) (hst:fA w g v bs):
  Calls Tryz.prog 49 #[.iface 77 (pt g), .pointer (some ⟨eb,eo,none⟩)] w (fE w g v (bs++Vb x.e)):=by
 have hgl:=hst.lt;have c0:w.cell? ⟨eb,eo,none⟩=some (.string x.e.name):=hr 0 _ rfl;have vS:Hid (w.rangeAt eb (eo+1) (aG x.e.z.cal x.s.A x.s.a x.s.B x.s.b).toList):=ae fun j u hu=>by
  have hj:j<4:=(eG.1 hu).1;rw [show eo+1+j=eo+(j+1) by omega];refine hr (j+1) u ?_
  match j,hj with
  |0,_=>exact hu
  |1,_=>exact hu
  |2,_=>exact hu
  |3,_=>exact hu
 have c5:w.cell? ⟨eb,eo+1+4,none⟩=some (I x.e.z.start):=hr 5 _ rfl;have c6:w.cell? ⟨eb,eo+1+5,none⟩=some (.slice x.s.C x.e.z.trans.length x.s.c):=hr 6 _ rfl;have c7:w.cell? ⟨eb,eo+1+6,none⟩=some (I x.e.z.hor):=hr 7 _ rfl;have c8:w.cell? ⟨eb,eo+1+7,none⟩=some (.slice x.s.D x.e.z.aN.length x.s.d):=hr 8 _ rfl;have hnl:x.e.name.data.toList.length=x.e.name.size:=by rw [Array.length_toList];rfl
 have hcl:=Iz h.cal;have htl:=h.U7;have hyl:x.e.z.aN.length≤2:=by rcases h.yr with hy|⟨r0,r1,hy,_⟩<;>rw [hy]<;>simp
 have wP:=ae htl;have nI:=ae hyl;have QN:Hid (∀z∈x.e.z.trans,zn z):=ae (fun z hz=>by have:=h.tr z hz;have:=h.hor;unfold zn lu;omega);have HYF:Hid (∀z∈x.e.z.aN,qm z):=ae (fun z hz=>by
  have hz2:yh z:=by
   rcases h.yr with hy|⟨r0,r1,hy,h0,h1⟩
   ·rw [hy] at hz;cases hz
   ·rw [hy] at hz;rcases List.mem_cons.1 hz with rfl|hz
    ·exact h0
    ·rw [List.mem_singleton.1 hz];exact h1
  have a:=hz2.mo;have b:=hz2.wk;have c:=hz2.wd;have d:=hz2.mi;have e:=hz2.of;unfold qm lu;omega)
 clear htl hyl;have lV:=ae (Fb w.drew g ⟨eb,eo,none⟩ v bs x.e.name (by omega) (by omega) hst.drew c0 (by show eb≠g;omega) (eU hst.2 eb (by omega)) (by show eb<w.heap.size;omega));have HST:=ae hst;have HF:=ae h;have HA:=ae hA;have zZ:Hid (∀j u,Below g w u→u.cell? ⟨eb,j,none⟩=w.cell? ⟨eb,j,none⟩):=ae fun j u hb=>hb.cell (p:=⟨eb,j,none⟩) heb;have HL:Hid (x.e.name.data.toList.length=x.e.name.size∧(FU x.e.z.cal).length≤14∧x.e.name.size≤32∧bs.length≤9000000):=ae ⟨hnl,hcl,hs,hl⟩;clear h hr hst hA hnl hcl hs hl;go_enter Tryz.func49,Tryz.ntmps49;go_wp2_with fail;go_still_tail 7,(by kernel_rfl);go_wp2_with fail;refine lV.out.mono ?_;rintro e w1 ⟨rfl,v1,hs1,hk1⟩;obtain ⟨B1,hB1⟩:∃B,bs++(le x.e.name.size 1++x.e.name.data.toList)=B:=⟨_,rfl⟩;have hl1:B1.length≤9000040:=by rw [←hB1];have:=HL.out;simp only [aZ,aF];omega
 rw [hB1] at hs1;have hb1:=bu HST.out (aI hk1);have HB1:=ae hb1;have iq:=ae hs1;have iF:=ae (aI hk1);have nY:=ae hB1;have HC2:=ae (C9 w1 g eb (eo+1) x.e.z.cal x.s.A x.s.a x.s.B x.s.b v1 B1 HF.out.cal (fun j u hu=>(hb1.cell (p:=⟨eb,eo+1+j,none⟩) heb).trans (vS.out j u hu)) ((hb1.frozen (p:=⟨eb,eo+1+2,none⟩) heb).trans hfz) heb (HA.out.az.ints.keep hb1) (HA.out.rules.keep hb1) (by omega) hs1);clear hs1 hk1 hb1 lV hB1 c0;go_wp2_with fail;refine HC2.out.mono ?_;rintro e w2 ⟨rfl,v2,hs2,hk2⟩;obtain ⟨B2,hB2⟩:∃B,B1++FU x.e.z.cal=B:=⟨_,rfl⟩;have hl2:B2.length≤9000070:=by rw [←hB2];have:=HL.out;simp only [aZ];omega
 rw [hB2] at hs2;have hb2:=HB1.out.trans (bu iq.out hk2);have HB2:=ae hb2;have HS2:=ae hs2;have iO:=ae (iF.out.trans hk2);have lC:=ae hB2;have Tz:=HF.out.start;have sG:=ae (qg w2.drew g ⟨eb,eo+1+4,none⟩ v2 B2 x.e.z.start (by omega) (by omega) (by omega) hs2.drew ((zZ.out _ _ hb2).trans c5));clear hs2 hk2 hb2 HC2 hB2 c5 Tz;go_wp2_with fail;go_still_tail 7,(by kernel_rfl);go_wp2_with fail;refine sG.out.mono ?_;rintro e w3 ⟨rfl,v3,hs3,hk3⟩;obtain ⟨B3,hB3⟩:∃B,B2++le x.e.z.start 2=B:=⟨_,rfl⟩;have hl3:B3.length≤9000080:=by rw [←hB3];simp only [aZ,aF];omega
 rw [hB3] at hs3;have hb3:=HB2.out.trans (bu HS2.out (aI hk3));have HB3:=ae hb3;have jU:=ae hs3;have mV:=ae (iO.out.trans (aI hk3));have Ac:=ae hB3;have sQ:=ae (Df w3 g eb (eo+1+5) x.s.C x.e.z.trans.length x.s.c x.e.z.trans v3 B3 rfl (by have:=wP.out;omega) ((zZ.out _ _ hb3).trans c6) heb (HA.out.trans.keep hb3) QN.out (by omega) hs3);clear hs3 hk3 hb3 sG hB3 c6;go_wp2_with fail;refine sQ.out.mono ?_;rintro e w4 ⟨rfl,v4,hs4,hk4⟩;obtain ⟨B4,hB4⟩:∃B,B3++(le x.e.z.trans.length 2++x.e.z.trans.flatMap jR)=B:=⟨_,rfl⟩;have hl4:B4.length≤9000150:=by rw [←hB4];simp only [aZ,aF,vX jR 10 uu];have:=wP.out;omega
 rw [hB4] at hs4;have hb4:=HB3.out.trans (bu jU.out hk4);have HB4:=ae hb4;have Ad:=ae hs4;have NJ:=ae (mV.out.trans hk4);have Zk:=ae hB4;have hh0:=HF.out.hor;have zY:=ae (bH w4.drew g ⟨eb,eo+1+6,none⟩ v4 B4 x.e.z.hor 8 (by omega) (by omega) (by omega) (by omega) hs4.lt hs4.drew ((zZ.out _ _ hb4).trans c7));clear hs4 hk4 hb4 sQ hB4 c7 hh0;go_wp2_with fail;go_still_tail 7,(by kernel_rfl);go_wp2_with fail;refine zY.out.mono ?_;rintro e w5 ⟨rfl,v5,hs5,hk5⟩;obtain ⟨B5,QR⟩:∃B,B4++le x.e.z.hor 8=B:=⟨_,rfl⟩;have hl5:B5.length≤9000160:=by rw [←QR];simp only [aZ,aF];omega
 rw [QR] at hs5;have hb5:=HB4.out.trans (bu Ad.out (aI hk5));have sS:=ae hs5;have xP:=ae (NJ.out.trans (aI hk5));have HQ5:=ae QR;have sH:=ae (Eh w5 g eb (eo+1+7) x.s.D x.e.z.aN.length x.s.d x.e.z.aN v5 B5 rfl (by have:=nI.out;omega) ((zZ.out _ _ hb5).trans c8) heb (HA.out.aN.keep hb5) HYF.out (by omega) hs5);clear hs5 hk5 hb5 zY QR c8;go_wp2_with fail;refine sH.out.mono ?_;rintro e w6 ⟨rfl,v6,hs6,hk6⟩;have Kr:=ae hs6;have Za:=ae (xP.out.trans hk6);clear hs6 hk6 sH;go_wp2_with fail
 go_end0
 refine ⟨rfl,v6,?_,Za.out⟩;have h:=Kr.out;rw [←HQ5.out,←Zk.out,←Ac.out,←lC.out,←nY.out] at h;unfold Vb znB;simpa only [List.append_assoc] using h
end Go.Proofs.YtdibbemgpikgjaaGreatDoor
namespace Go.Proofs.YtdibbemgpikgjaaGreatDoor
open Go Go.RowKit
theorem scan_skip (wd wk:Int) (n:Nat):∀(j:Nat) (d cn la:Int),(∀i:Nat,i<j→(d+i)%7≠wd)→gK wd wk (j+n) d cn la=gK wd wk n (d+j) cn la:=by
 intro j
 induction j with
 |zero=>intro d cn la _;rw [Nat.zero_add];congr 1;omega
 |succ j ih=>
  intro d cn la h;have h0:¬d%7=wd:=by have:=h 0 (by omega);simpa using this
  rw [show j+1+n=(j+n)+1 by omega];show (if d%7=wd then _ else gK wd wk (j+n) (d+1) cn la)=_;rw [if_neg h0,ih (d+1) cn la (fun i hi=>by have:=h (i+1) (by omega);rw [show d+1+(i:Int)=d+((i+1:Nat):Int) by omega];exact this)];congr 1;omega
theorem CE (wd wk:Int) (n:Nat) (d cn la:Int) (h:∀i:Nat,i<n→(d+i)%7≠wd):gK wd wk n d cn la=(la,wk==5&&decide (0≤la)):=by
 have:=scan_skip wd wk 0 n d cn la h;rw [Nat.add_zero] at this;rw [this];rfl
theorem Jj (wd wk:Int) (n:Nat) (d cn la:Int) (h:d%7=wd):gK wd wk (n+1) d cn la=if cn+1=wk∧wk<5 then (d,true) else gK wd wk n (d+1) (cn+1) d:=by
 show (if d%7=wd then _ else _)=_;rw [if_pos h]
def FZ (wd wk first m:Int):Int×Bool:=
 if wk=5 then (first+m - 1 - (first+m - 1 - wd)%7,decide (first≤first+m - 1 - (first+m - 1 - wd)%7))
 else (first+(wd - first)%7+7*(wk - 1),decide (first+(wd - first)%7+7*(wk - 1)<first+m))
def Va (c:Cal) (bg y:Int) (r:Yr):Int×Bool:=FZ r.dh r.df (oM c bg y r.month) (dn c y r.month)
theorem Su (wd wk d:Int) (m:Nat) (hm:m≤9) (h1:0≤wd∧wd≤6) (h2:1≤wk∧wk≤5) (hd:0≤d):
  (FZ wd wk d m).2=(gK wd wk m d 0 (-1)).2∧((gK wd wk m d 0 (-1)).2=true→(FZ wd wk d m).1=(gK wd wk m d 0 (-1)).1):=by
 obtain ⟨j,hj⟩:∃j:Nat,(wd - d)%7=j:=⟨((wd - d)%7).toNat,by omega⟩;have hj7:j<7:=by omega
 have hjd:(d+j)%7=wd:=by omega
 have hjn:∀i:Nat,i<j→(d+i)%7≠wd:=fun i hi=>by omega
 by_cases hmj:m≤j
 ·rw [CE wd wk m d 0 (-1) (fun i hi=>hjn i (by omega))];have e:(wk==5&&decide ((0:Int)≤ -1))=false:=by simp
  rw [e];refine ⟨?_,fun h=>by cases h⟩;unfold FZ;split
  ·exact decide_eq_false (by omega)
  ·exact decide_eq_false (by rw [hj];omega)
 ·obtain ⟨n,hn⟩:∃n,m=j+(n+1):=⟨m - j - 1,by omega⟩;rw [show gK wd wk m d 0 (-1)=gK wd wk (n+1) (d+j) 0 (-1) by rw [hn];exact scan_skip wd wk (n+1) j d 0 (-1) hjn,Jj wd wk n (d+j) 0 (-1) hjd];by_cases hw1:(0:Int)+1=wk∧wk<5
  ·rw [if_pos hw1];unfold FZ;rw [if_neg (by omega),hj];exact ⟨decide_eq_true (by omega),fun _=>by show d+(j:Int)+7*(wk - 1)=d+j;omega⟩
  ·rw [if_neg hw1];by_cases h6:n≤6
   ·rw [CE wd wk n (d+j+1) (0+1) (d+j) (fun i hi=>by omega)];unfold FZ;split
    ·rename_i h5;subst h5;have e:(((5:Int)==5)&&decide (0≤d+(j:Int)))=true:=by simp;omega
     rw [e];exact ⟨decide_eq_true (by omega),fun _=>by show d+(m:Int) - 1 - (d+m - 1 - wd)%7=d+j;omega⟩
    ·rename_i h5;have e:(wk==5&&decide (0≤d+(j:Int)))=false:=by simp [h5]
     rw [e];exact ⟨decide_eq_false (by rw [hj];omega),fun h=>by cases h⟩
   ·obtain ⟨q,hq⟩:∃q,n=6+(q+1):=⟨n - 7,by omega⟩;rw [show gK wd wk n (d+j+1) (0+1) (d+j)=gK wd wk (q+1) (d+j+1+(6:Nat)) (0+1) (d+j) by rw [hq];exact scan_skip wd wk (q+1) 6 (d+j+1) (0+1) (d+j) (fun i hi=>by omega),Jj wd wk q _ (0+1) (d+j) (by omega)];by_cases hw2:(0:Int)+1+1=wk∧wk<5
    ·rw [if_pos hw2];unfold FZ;rw [if_neg (by omega),hj];exact ⟨decide_eq_true (by omega),fun _=>by show d+(j:Int)+7*(wk - 1)=d+j+1+(6:Nat);omega⟩
    ·rw [if_neg hw2];rw [CE wd wk q _ _ _ (fun i hi=>by omega)];unfold FZ;split
     ·rename_i h5;subst h5;have e:(((5:Int)==5)&&decide (0≤d+(j:Int)+1+(6:Nat)))=true:=by simp;omega
      rw [e];exact ⟨decide_eq_true (by omega),fun _=>by show d+(m:Int) - 1 - (d+m - 1 - wd)%7=d+j+1+(6:Nat);omega⟩
     ·rename_i h5;have e:(wk==5&&decide (0≤d+(j:Int)+1+(6:Nat)))=false:=by simp [h5]
      rw [e];exact ⟨decide_eq_false (by rw [hj];omega),fun h=>by cases h⟩
theorem G5 (c:Cal) (bg y:Int) (r:Yr) (hc:gW c) (hr:yh r) (hb:0≤bg):(Va c bg y r).2=(findF c bg y r).2∧((findF c bg y r).2=true→(Va c bg y r).1=(findF c bg y r).1):=by
 have hm:=ku c y r.month hc hr.mo;have h1:=ku c y 1 hc (.inl rfl);have hf:0≤oM c bg y r.month:=by
  unfold oM;split<;>omega
 have h:=Su r.dh r.df (oM c bg y r.month) (dn c y r.month).toNat (by omega) hr.wd hr.wk hf;rw [show (((dn c y r.month).toNat:Nat):Int)=dn c y r.month by omega] at h;exact h
theorem PS (ts:List Tr) (t:Tr):(uV ts t).Perm (ts++ [t]):=by
 unfold uV;refine (List.perm_middle).trans ?_;rw [List.take_append_drop];exact (List.perm_append_comm (l₁:= [t]) (l₂:=ts))
theorem LQ {ts us:List Tr} (t:Tr) (h:ts.Perm us):(uV ts t).Perm (us++ [t]):=(PS ts t).trans (List.Perm.append_right [t] h)
def vH (c:Cal) (bg y:Int) (r r':Yr) (out:List Tr):List Tr:=if (Va c bg y r).2=true then out++ [⟨(Va c bg y r).1*1440+r.minute - r'.off,r.off⟩] else out
def vI (c:Cal) (r0 r1:Yr) (stop:Int):Nat→Int→Int→List Tr→List Tr
 |0,_,_,out=>out
 |n+1,bg,y,out=>if bg<stop then vI c r0 r1 stop n (bg+dI c y) (y+1) (vH c bg y r1 r0 (vH c bg y r0 r1 out)) else out
theorem EY {c:Cal} {bg y:Int} {r r':Yr} {ts us:List Tr} (hc:gW c) (hr:yh r) (hb:0≤bg) (h:ts.Perm us):(Fp c bg y r r' ts).Perm (vH c bg y r r' us):=by
 obtain ⟨h1,h2⟩:=G5 c bg y r hc hr hb;unfold Fp vH;rw [h1];by_cases hf:(findF c bg y r).2=true
 ·rw [if_pos hf,if_pos hf,h2 hf];exact LQ _ h
 ·rw [if_neg hf,if_neg hf];exact h
theorem P8 {c:Cal} {r0 r1:Yr} {stop:Int} (hc:gW c) (hr0:yh r0) (hr1:yh r1):∀(f:Nat) (bg y:Int) (ts us:List Tr),0≤bg→ts.Perm us→(lQ c r0 r1 stop f bg y ts).Perm (vI c r0 r1 stop f bg y us):=by
 intro f
 induction f with
 |zero=>intro bg y ts us _ h;exact h
 |succ f ih=>
  intro bg y ts us hb h;unfold lQ vI;split
  ·have:=jC c y hc;exact ih _ _ _ _ (by omega) (EY hc hr1 hb (EY hc hr0 hb h))
  ·exact h
def Xd (z:Zn) (r0 r1:Yr):List Tr:=vI z.cal r0 r1 (z.cal.aX+jL z) 1400 z.cal.aX 1 []
theorem Ua {z:Zn} {r0 r1:Yr} (hc:gW z.cal) (hy:z.aN= [r0,r1]) (hr0:yh r0) (hr1:yh r1):(rf z).Perm (Xd z r0 r1):=by
 unfold rf Xd;rw [hy];exact P8 hc hr0 hr1 _ _ _ _ _ hc.ep.1 (List.Perm.refl _)
theorem F6 {ts:List Tr} {size:Int} (h:jS ts size=true) (i:Nat) (hi:i<ts.length):2160≤oO ts size i:=by
 unfold jS at h;rw [List.all_eq_true] at h;exact of_decide_eq_true (h i (List.mem_range.2 hi))
theorem V6 {ts:List Tr} {size:Int} (h:jS ts size=true):∀(k i:Nat),i+k+1<ts.length→iT ts i<iT ts (i+k+1):=by
 intro k
 induction k with
 |zero=>
  intro i hi;have:=F6 h i (by omega);unfold oO at this;rw [if_pos (by omega)] at this;rw [Nat.add_zero];omega
 |succ k ih=>
  intro i hi;have h1:=ih i (by omega);have h2:=F6 h (i+k+1) (by omega);unfold oO at h2;rw [if_pos (by omega)] at h2;rw [show i+(k+1)+1=i+k+1+1 by omega];omega
theorem FP {ts:List Tr} {i:Nat} (hi:i<ts.length):iT ts i=ts[i].at_:=by
 unfold iT;rw [bZ hi];rfl
theorem PN {ts:List Tr} {size:Int} (h:jS ts size=true):ts.Pairwise (fun a b=>a.at_<b.at_):=by
 rw [List.pairwise_iff_getElem];intro i j hi hj hij;have:=V6 h (j - i - 1) i (by omega);rw [show i+(j - i - 1)+1=j by omega,FP hi,FP hj] at this;exact this
theorem Qe {ts us:List Tr} {size:Int} (h:jS ts size=true) (hp:us.Perm ts) (hs:us.Pairwise (fun a b=>a.at_≤b.at_)):us=ts:=by
 have hw:=PN h;refine List.Perm.eq_of_pairwise (le:=fun a b=>a.at_≤b.at_) ?_ hs (hw.imp (fun h=>by omega)) hp;intro a b ha hb h1 h2;obtain ⟨i,hi,rfl⟩:=List.mem_iff_getElem.1 (hp.mem_iff.1 ha);obtain ⟨j,hj,rfl⟩:=List.mem_iff_getElem.1 hb;rw [List.pairwise_iff_getElem] at hw;rcases Nat.lt_trichotomy i j with h3|h3|h3
 ·have:=hw i j hi hj h3;omega
 ·subst h3;rfl
 ·have:=hw j i hj hi h3;omega
end Go.Proofs.YtdibbemgpikgjaaGreatDoor
