/- The texts Ke, Kf, Kg, in this order. -/
import Derived.Test.YtdibbemgpikgjaaGreatW00
import Derived.Test.YtdibbemgpikgjaaGreatW15
set_option maxRecDepth 10000
set_option maxHeartbeats 8000000
namespace Go.Proofs.YtdibbemgpikgjaaGreat
open Go Go.RowKit
def kN (ts:List Tr) (i:Nat):Int:=(ts[i]?.map (·.off)).getD 0
def pI (ts:List Tr) (size t:Int):Int:=if fU ts 0<t then (t - fU ts 0).tdiv size else 0
def dY (ts:List Tr) (size t:Int):Tr×Bool:=
 if ts.length=0 then (⟨0,0⟩,false)
 else match (List.range ts.length).find? (fun j=>decide (t≤fU ts j+pI ts size t*size)) with
  |some j=>(⟨fU ts j+pI ts size t*size,kN ts j⟩,true)
  |none=>(⟨fU ts 0+(pI ts size t+1)*size,kN ts 0⟩,true)
theorem yP {ts:List Tr} {size t q:Int} {n k:Nat} (hq:pI ts size t=q) (hl:ts.length=n) (hk:k<n) (h:∀j,j<k→fU ts j+q*size<t) (h1:t≤fU ts k+q*size):dY ts size t=(⟨fU ts k+q*size,kN ts k⟩,true):=by
 have hf:(List.range ts.length).find? (fun j=>decide (t≤fU ts j+q*size))=some k:=by
  rw [List.find?_range_eq_some];exact ⟨decide_eq_true h1,List.mem_range.2 (by omega),fun j hj=>by have:=h j hj;simp;omega⟩
 unfold dY;rw [if_neg (by omega),hq,hf]
theorem BQ {ts:List Tr} {size t q:Int} {n:Nat} (hq:pI ts size t=q) (hl:ts.length=n) (hk:0<n) (h:∀j,j<n→fU ts j+q*size<t):dY ts size t=(⟨fU ts 0+(q+1)*size,kN ts 0⟩,true):=by
 have hf:(List.range ts.length).find? (fun j=>decide (t≤fU ts j+q*size))=none:=by
  rw [List.find?_range_eq_none];intro j hj;have:=h j (by omega);simp;omega
 unfold dY;rw [if_neg (by omega),hq,hf]
theorem uV {lo g n cp:Nat} {W:World} {ts:List Tr} (h:iO lo W (some ⟨g,0,none⟩) n cp ts) (hl:ts.length=n) (k:Nat) (hk:k<n):W.cell? ⟨g,k*2+1,none⟩=some (I (kN ts k)):=by
 have hx:ts[k]? =some ts[k]:=dK (by omega);rw [World.ownsRow.cellAt h (k*2+1) (by omega),flat_get (s:=2) Tr.cells ts (fun _ _=>rfl) k 1 _ hx (by omega)];unfold kN;rw [hx];rfl
theorem Pj {ts:List Tr} {sz t q:Int} (hq:pI ts sz t=q) (hs:1440≤sz) (ha: -10000000≤fU ts 0) (ht0:0≤t) (ht:t≤1000000):0≤q∧q≤100000000∧0≤q*sz∧q*sz≤11000000∧t≤fU ts 0+(q+1)*sz∧(q+1)*sz=q*sz+sz:=by
 have e1:(q+1)*sz=q*sz+sz:=by rw [Int.add_mul,Int.one_mul]
 unfold pI at hq;split at hq
 ·rename_i h;rw [Int.tdiv_eq_ediv_of_nonneg (by omega)] at hq;have h1:=Int.emod_add_mul_ediv (t - fU ts 0) sz;have h2:=Int.emod_nonneg (t - fU ts 0) (show sz≠0 by omega);have h3:=Int.emod_lt_of_pos (t - fU ts 0) (show 0<sz by omega);have h4:0≤(t - fU ts 0) / sz:=Int.ediv_nonneg (by omega) (by omega);rw [hq] at h1 h4;rw [Int.mul_comm] at h1;have h5:q*1440≤q*sz:=Int.mul_le_mul_of_nonneg_left hs h4;generalize q*sz=p at*;refine ⟨h4,?_,?_,?_,?_,e1⟩<;>omega
 ·subst hq;rw [Int.zero_mul] at*;refine ⟨?_,?_,?_,?_,?_,e1⟩<;>omega
theorem NH (n l:Int) (w:World) (hl:0≤l) (hl2:l≤4000000000000000):Calls Tryz.prog 94 #[I n,I l] w fun e w'=>e= .returned (.bool (decide (-l≤n)&&decide (n≤l)))∧w'=w:=by
 by_cases h: -l≤n
 ·have HH:=ae h;go_enter Tryz.func94,Tryz.ntmps94;go_wp2_with fail;go_ret;exact ⟨by simp [HH.out],rfl⟩
 ·have HH:=ae h;go_enter Tryz.func94,Tryz.ntmps94;go_wp2_with fail;go_ret;exact ⟨by rw [decide_eq_false (show¬ -l≤n by have:=HH.out;omega)];rfl,rfl⟩
theorem NL (z:Zn) (s:Zs) (w:World) (hy:z.az= []):Calls Tryz.prog 95 #[.agg (ax z s)] w (SN w (ry z) (dZ (ry z) (kW z*1440))):=by
 have e1:ry z= []:=by unfold ry;rw [hy]
 rw [e1];obtain ⟨⟨ep,mo,lp,ru⟩,st,tr,ho,yr⟩:=z;obtain ⟨A0,a,R0,r,C0,c0,D0,d0⟩:=s;simp only at hy;subst hy;unfold ax;simp only [List.length_nil];obtain ⟨n0,hn0⟩:∃n,mo.length=n:=⟨_,rfl⟩;obtain ⟨n1,hn1⟩:∃n,ru.length=n:=⟨_,rfl⟩;obtain ⟨n2,hn2⟩:∃n,tr.length=n:=⟨_,rfl⟩;rw [hn0,hn1,hn2];clear hn0 hn1 hn2 e1;go_enter Tryz.func95,Tryz.ntmps95;go_wp2_with fail;go_ret2;refine ⟨_,0,_,rfl,rfl,?_,ah (ag w _) (ag _ _)⟩;have h:=gV (w.alloc (.cells #[I ep, .slice A0 n0 a,I lp, .slice R0 n1 r,I st, .slice C0 n2 c0,I ho, .slice D0 0 d0] 51)) 100 2;refine iO.lower (lo:=w.heap.size+1) ?_ (Nat.le_succ _);simpa [iO] using h
theorem Ff (lo n c:Nat) (A:Option Addr) (ts:List Tr) (Ah t:Int) (w:World) (hl:ts.length=n) (hn1:n≤1000) (hO:iO lo w A n c ts) (htb:Q8 ts) (hc1:1≤Ah) (hc2:Ah≤1400) (ht0:0≤t) (ht:t≤1000000):
  Calls Tryz.prog 96 #[.slice A n c,I Ah,I t] w (Gives (.tuple #[.agg #[I (dY ts (Ah*1440) t).1.at_,I (dY ts (Ah*1440) t).1.off], .bool (dY ts (Ah*1440) t).2]) w):=by
 obtain ⟨sz,hsz⟩:∃v,Ah*1440=v:=⟨_,rfl⟩;rw [hsz];have hs1:1440≤sz:=by omega
 have hs2:sz≤2016000:=by omega
 have HL:=ae hl;rcases Nat.eq_zero_or_pos n with hn0|hn0
 ·subst hn0;have e1:dY ts sz t=(⟨0,0⟩,false):=by unfold dY;rw [if_pos hl]
  rw [e1];clear hO htb hl e1 hsz;go_enter Tryz.func96,Tryz.ntmps96;go_wp2_with fail;refine bodyPost_ret (v:= .tuple #[.agg #[I 0,I 0], .bool false]) (bQ rfl _ _ w.heap.size _ #[I 0,I 0] (0,0) _ rfl (heap_alloc_last w _) Tryz.underlying100 rfl (by kernel_rfl) _ rfl) rfl ?_;exact ⟨rfl,ag w _⟩
 ·obtain ⟨g,cap,hgv,hgl⟩:=eU hO hn0;injection hgv with hA hB hC;subst hA hC;clear hB;have HO:=ae (World.ownsRow.alloc hO (.cells #[I 0,I 0] 100));have Eh:=ae (fun k=>BU k htb);clear hO hl htb;obtain ⟨res,hres⟩:∃r,dY ts sz t=r:=⟨_,rfl⟩;rw [hres];have lh:=ae hres;clear hres;obtain ⟨q,hq⟩:∃v,pI ts sz t=v:=⟨_,rfl⟩;obtain ⟨q0,q1,p0,p1,ht2,he⟩:=Pj hq hs1 (Eh.out 0).1 ht0 ht;have HQ:=ae hq;unfold pI at hq;obtain ⟨p,hp⟩:∃v,q*sz=v:=⟨_,rfl⟩;rw [hp] at p0 p1 he;have HP:=ae hp;have hb0:=Eh.out 0;have x0:=rY HO.out HL.out 0 hn0;have y0:=uV HO.out HL.out 0 hn0;rw [Nat.zero_mul] at x0 y0;rw [Nat.zero_add] at y0;obtain ⟨a0,ha0⟩:∃v,fU ts 0=v:=⟨_,rfl⟩;obtain ⟨o0,ho0⟩:∃v,kN ts 0=v:=⟨_,rfl⟩;rw [ha0] at x0 hq hb0 ht2;rw [ho0] at y0;have yC:=ae ha0;have BC:=ae ho0;clear ha0 ho0;have hnn:((n:Int)==0)=false:=by simp;omega
  have i2:(0:Int)<(n:Int):=by omega
  have hs0:sz≠0:=by omega
  have hs3:sz≠ -1:=by omega
  have hcut:(a0<t∧(t - a0).tdiv sz=q)∨(¬a0<t∧q=0):=by
   by_cases h:a0<t
   ·rw [if_pos h] at hq;exact .inl ⟨h,hq⟩
   ·rw [if_neg h] at hq;exact .inr ⟨h,hq.symm⟩
  clear hq;rcases hcut with ⟨hat,hq⟩|⟨hat,hq⟩
  ·have ht3:t≤a0+(p+sz):=by omega
   have hatd:decide (a0<t)=true:=decide_eq_true hat;have hw1:IntKind.i64.wrap p=p:=by rw [IntKind.wrap_i64];omega
   have hw2:IntKind.i64.wrap (p+sz)=p+sz:=by rw [IntKind.wrap_i64];omega
   have hw3:IntKind.i64.wrap (a0+(p+sz))=a0+(p+sz):=by rw [IntKind.wrap_i64];omega
   have hw4:IntKind.i64.wrap (q+1)=q+1:=by rw [IntKind.wrap_i64];omega
   go_enter Tryz.func96,Tryz.ntmps96;go_wp2_with fail;refine wp_loop_rounds 2 ?_;rw [rounds_succ];go_wp2_with fail;clear x0 y0;have HR:Hid ((w.alloc (.cells #[I 0,I 0] 100)).heap[w.heap.size]? =some (.cells #[I 0,I 0] 100 (0,0))∧Below w.heap.size w (w.alloc (.cells #[I 0,I 0] 100))):=ae ⟨heap_alloc_last w _,ag w _⟩;generalize w.alloc (.cells #[I 0,I 0] 100)=W0 at HR HO ⊢
   go_loopw [11] (fun i wr=>∃k:Nat,k≤n∧i= .int .i64 k∧(∀j,j<k→fU ts j+p<t)∧W0=wr) (fun i _=>n - (intOf i).toNat)
   case atStart=>exact ⟨0,Nat.zero_le _,by go_num,(fun _ h=>absurd h (Nat.not_lt_zero _)),rfl⟩
   case round=>
    obtain ⟨k,hk,rfl,hall,rfl⟩:=hrel;have lQ:=ae hall;clear hall;by_cases hlt:k<n
    ·have x1:=rY HO.out HL.out k hlt;have y1:=uV HO.out HL.out k hlt;have hb1:=Eh.out k;obtain ⟨a1,ha1⟩:∃v,fU ts k=v:=⟨_,rfl⟩;obtain ⟨o1,ho1⟩:∃v,kN ts k=v:=⟨_,rfl⟩;rw [ha1] at x1 hb1;rw [ho1] at y1;have HA1:=ae ha1;have VB:=ae ho1;clear ha1 ho1;have i0:(0:Int)≤(k:Int):=by omega
     have i1:(k:Int)<(n:Int):=by omega
     have hw5:IntKind.i64.wrap (a1+p)=a1+p:=by rw [IntKind.wrap_i64];omega
     have hw6:IntKind.i64.wrap 0=0:=by rw [IntKind.wrap_i64];omega
     by_cases hge:t≤a1+p
     ·have HE:Hid (res=(⟨a1+p,o1⟩,true)):=ae (by
       have h:=yP HQ.out HL.out hlt (by rw [HP.out];exact lQ.out) (by rw [HP.out,HA1.out];exact hge);rw [←lh.out,h,HA1.out,VB.out,HP.out])
      go_wp2_with fail;have r0:W0.cell? ⟨w.heap.size,0,none⟩=some (I 0):=cell_of_row _ _ 0 _ _ _ HR.out.1;have r1:W0.cell? ⟨w.heap.size,1,none⟩=some (I 0):=cell_of_row _ _ 1 _ _ _ HR.out.1;have f0:∀i,W0.frozen? ⟨w.heap.size,i,none⟩=false:=fun i=>frozen_of_row _ _ i _ _ HR.out.1;go_still_tail 15,(by kernel_rfl);change wpList _ _ _ _ _ W0.drew;go_wp2_with fail;have hh:(((W0.setCell ⟨w.heap.size,0,none⟩ (I (a1+p))).setCell ⟨w.heap.size,1,none⟩ (I o1)).drew).heap[w.heap.size]? =some (.cells #[I (a1+p),I o1] 100 (0,0)):=heap_setCell_same _ w.heap.size 1 _ _ _ (heap_setCell_same _ w.heap.size 0 _ _ _ HR.out.1);refine bodyPost_ret (v:= .tuple #[.agg #[I (a1+p),I o1], .bool true]) (bQ rfl _ _ w.heap.size _ #[I (a1+p),I o1] (0,0) _ rfl hh Tryz.underlying100 rfl (by kernel_rfl) _ rfl) rfl ?_;exact ⟨by rw [HE.out],((HR.out.2.setCell (p:=⟨w.heap.size,0,none⟩) (Nat.le_refl _) _).setCell (p:=⟨w.heap.size,1,none⟩) (Nat.le_refl _) _).drew⟩
     ·go_wp2_with fail;go_roundw
      case rel=>exact ⟨k+1,by omega,by go_num,(fun j hj=>by rcases Nat.lt_succ_iff_lt_or_eq.1 hj with h|rfl;exact lQ.out j h;rw [HA1.out];omega),by first|trivial|rfl⟩
      case measure=>simp [intOf];omega
    ·have hnl:¬(k:Int)<(n:Int):=by omega
     have HE:Hid (res=(⟨a0+(p+sz),o0⟩,true)):=ae (by
      have h:=BQ HQ.out HL.out hn0 (by rw [HP.out];exact fun j hj=>lQ.out j (by omega));rw [←lh.out,h,yC.out,BC.out,he])
     go_wp2_with fail;rw [rounds_succ];have x0:=rY HO.out HL.out 0 hn0;have y0:=uV HO.out HL.out 0 hn0;rw [Nat.zero_mul] at x0 y0;rw [Nat.zero_add] at y0;rw [yC.out] at x0;rw [BC.out] at y0;have hw6:IntKind.i64.wrap 0=0:=by rw [IntKind.wrap_i64];omega
     go_wp2_with fail;refine wp_loop_rounds 1 ?_;rw [rounds_succ];go_wp2_with fail;have r0:W0.cell? ⟨w.heap.size,0,none⟩=some (I 0):=cell_of_row _ _ 0 _ _ _ HR.out.1;have r1:W0.cell? ⟨w.heap.size,1,none⟩=some (I 0):=cell_of_row _ _ 1 _ _ _ HR.out.1;have f0:∀i,W0.frozen? ⟨w.heap.size,i,none⟩=false:=fun i=>frozen_of_row _ _ i _ _ HR.out.1;go_still_tail 15,(by kernel_rfl);change wpList _ _ _ _ _ W0.drew;go_wp2_with fail;have hh:(((W0.setCell ⟨w.heap.size,0,none⟩ (I (a0+(p+sz)))).setCell ⟨w.heap.size,1,none⟩ (I o0)).drew).heap[w.heap.size]? =some (.cells #[I (a0+(p+sz)),I o0] 100 (0,0)):=heap_setCell_same _ w.heap.size 1 _ _ _ (heap_setCell_same _ w.heap.size 0 _ _ _ HR.out.1);refine bodyPost_ret (v:= .tuple #[.agg #[I (a0+(p+sz)),I o0], .bool true]) (bQ rfl _ _ w.heap.size _ #[I (a0+(p+sz)),I o0] (0,0) _ rfl hh Tryz.underlying100 rfl (by kernel_rfl) _ rfl) rfl ?_;exact ⟨by rw [HE.out],((HR.out.2.setCell (p:=⟨w.heap.size,0,none⟩) (Nat.le_refl _) _).setCell (p:=⟨w.heap.size,1,none⟩) (Nat.le_refl _) _).drew⟩
  ·subst hq;rw [Int.zero_mul] at hp;subst hp;clear he p0 p1 q0 q1 ht2;go_enter Tryz.func96,Tryz.ntmps96;go_wp2_with fail;refine wp_loop_rounds 2 ?_;rw [rounds_succ];go_wp2_with fail;clear x0 y0;have HR:Hid ((w.alloc (.cells #[I 0,I 0] 100)).heap[w.heap.size]? =some (.cells #[I 0,I 0] 100 (0,0))∧Below w.heap.size w (w.alloc (.cells #[I 0,I 0] 100))):=ae ⟨heap_alloc_last w _,ag w _⟩;generalize w.alloc (.cells #[I 0,I 0] 100)=W0 at HR HO ⊢
   go_loopw [11] (fun i wr=>∃k:Nat,k≤n∧i= .int .i64 k∧(∀j,j<k→fU ts j+0<t)∧W0=wr) (fun i _=>n - (intOf i).toNat)
   case atStart=>exact ⟨0,Nat.zero_le _,by go_num,(fun _ h=>absurd h (Nat.not_lt_zero _)),rfl⟩
   case round=>
    obtain ⟨k,hk,rfl,hall,rfl⟩:=hrel;have lQ:=ae hall;clear hall;by_cases hlt:k<n
    ·have x1:=rY HO.out HL.out k hlt;have y1:=uV HO.out HL.out k hlt;have hb1:=Eh.out k;obtain ⟨a1,ha1⟩:∃v,fU ts k=v:=⟨_,rfl⟩;obtain ⟨o1,ho1⟩:∃v,kN ts k=v:=⟨_,rfl⟩;rw [ha1] at x1 hb1;rw [ho1] at y1;have HA1:=ae ha1;have VB:=ae ho1;clear ha1 ho1;have i0:(0:Int)≤(k:Int):=by omega
     have i1:(k:Int)<(n:Int):=by omega
     have hw5:IntKind.i64.wrap (a1)=a1:=by rw [IntKind.wrap_i64];omega
     have hw6:IntKind.i64.wrap 0=0:=by rw [IntKind.wrap_i64];omega
     by_cases hge:t≤a1
     ·have HE:Hid (res=(⟨a1,o1⟩,true)):=ae (by
       have h:=yP HQ.out HL.out hlt (by rw [Int.zero_mul];exact lQ.out) (by rw [Int.zero_mul,HA1.out];omega);rw [←lh.out,h,HA1.out,VB.out,Int.zero_mul,Int.add_zero])
      go_wp2_with fail;have r0:W0.cell? ⟨w.heap.size,0,none⟩=some (I 0):=cell_of_row _ _ 0 _ _ _ HR.out.1;have r1:W0.cell? ⟨w.heap.size,1,none⟩=some (I 0):=cell_of_row _ _ 1 _ _ _ HR.out.1;have f0:∀i,W0.frozen? ⟨w.heap.size,i,none⟩=false:=fun i=>frozen_of_row _ _ i _ _ HR.out.1;go_still_tail 15,(by kernel_rfl);change wpList _ _ _ _ _ W0.drew;go_wp2_with fail;have hh:(((W0.setCell ⟨w.heap.size,0,none⟩ (I (a1))).setCell ⟨w.heap.size,1,none⟩ (I o1)).drew).heap[w.heap.size]? =some (.cells #[I (a1),I o1] 100 (0,0)):=heap_setCell_same _ w.heap.size 1 _ _ _ (heap_setCell_same _ w.heap.size 0 _ _ _ HR.out.1);refine bodyPost_ret (v:= .tuple #[.agg #[I (a1),I o1], .bool true]) (bQ rfl _ _ w.heap.size _ #[I (a1),I o1] (0,0) _ rfl hh Tryz.underlying100 rfl (by kernel_rfl) _ rfl) rfl ?_;exact ⟨by rw [HE.out],((HR.out.2.setCell (p:=⟨w.heap.size,0,none⟩) (Nat.le_refl _) _).setCell (p:=⟨w.heap.size,1,none⟩) (Nat.le_refl _) _).drew⟩
     ·go_wp2_with fail;go_roundw
      case rel=>exact ⟨k+1,by omega,by go_num,(fun j hj=>by rcases Nat.lt_succ_iff_lt_or_eq.1 hj with h|rfl;exact lQ.out j h;rw [HA1.out];omega),by first|trivial|rfl⟩
      case measure=>simp [intOf];omega
    ·exact absurd (lQ.out 0 (by omega)) (by rw [yC.out];omega)
structure tZ (z:Zn):Prop where
 cal:iR z.cal
 start: -1080≤z.start∧z.start≤1080
 hor:0≤z.hor∧z.hor≤1000000
 Nw:z.trans.length≤3
 tr:∀x∈z.trans,(-1080≤x.off∧x.off≤1080)∧0≤x.at_∧x.at_<z.hor
 gap:∀i,i+1<z.trans.length→fU z.trans i+2160≤fU z.trans (i+1)
 yr:z.az= []∨∃r0 r1,z.az= [r0,r1]∧yN r0∧yN r1
def qO (z:Zn):Bool:=
 let a:=dY (ry z) (kW z*1440) z.hor
 a.2&&(decide (0<z.trans.length)&&decide (a.1.at_ - fU z.trans (z.trans.length - 1)<2160))
def yV (z:Zn):Int:=if dZ (ry z) (kW z*1440)=false then 1 else if qO z=true then 1 else 0
theorem Pv (c:Cal) (bg y:Int) (r r':Yr) (ts:List Tr):(Gg c bg y r r' ts).length≤ts.length+1:=by
 unfold Gg;split
 ·rw [xC];exact Nat.le_refl _
 ·omega
theorem Vm (c:Cal) (r0 r1:Yr) (ep stop:Int) (hc:iR c) (hr0:yN r0) (hr1:yN r1) (hs:stop≤1500) (he:0≤ep):∀(f:Nat) (bg y:Int) (ts:List Tr),Q8 ts→1≤y→ep+12*(y - 1)≤bg→bg≤stop+100→(ts.length:Int)≤2*(y - 1)→Q8 (mr c r0 r1 stop f bg y ts)∧(mr c r0 r1 stop f bg y ts).length≤1000:=by
 intro f
 induction f with
 |zero=>intro bg y ts h1 h2 h3 h4 h5;exact ⟨h1,by show ts.length≤1000;omega⟩
 |succ f ih=>
  intro bg y ts h1 h2 h3 h4 h5;unfold mr;split
  ·rename_i hlt;have h6:=qo c y hc;have h7:=nI c y hc;have l1:=Pv c bg y r0 r1 ts;have l2:=Pv c bg y r1 r0 (Gg c bg y r0 r1 ts);exact ih _ _ _ (xW (xW h1 hc hr0 hr1 (by omega) (by omega)) hc hr1 hr0 (by omega) (by omega)) (by omega) (by omega) (by omega) (by omega)
  ·exact ⟨h1,by omega⟩
theorem Zy (z:Zn) (h:tZ z):Q8 (ry z)∧(ry z).length≤1000:=by
 have hz:=yh z h.cal;have he:=h.cal.ep;rcases h.yr with hy|⟨r0,r1,hy,h0,h1⟩
 ·unfold ry;rw [hy];exact ⟨fun _ h=>(nomatch h),by simp⟩
 ·unfold ry;rw [hy];exact Vm z.cal r0 r1 z.cal.aI _ h.cal h0 h1 (by omega) he.1 1400 _ _ _ (fun _ h=>(nomatch h)) (by omega) (by omega) (by omega) (by simp)
theorem DY (z:Zn) (s:Zs) (w:World) (hm:tZ z) (h:jR w w.heap.size s z):Calls Tryz.prog 95 #[.agg (ax z s)] w (SN w (ry z) (dZ (ry z) (kW z*1440))):=by
 rcases hm.yr with hy|⟨r0,r1,hy,h0,h1⟩
 ·exact NL z s w hy
 ·exact NM z s r0 r1 w hm.cal h hy h0 h1 (by have:=hm.Nw;omega)
theorem iM (n l:Int) (w:World) (hl:0≤l) (hl2:l≤4000000000000000) (h: -l≤n∧n≤l):Calls Tryz.prog 94 #[I n,I l] w fun e w'=>e= .returned (.bool true)∧w'=w:=
 (NH n l w hl hl2).mono fun e w' ⟨h1,h2⟩=>⟨by rw [h1,decide_eq_true h.1,decide_eq_true h.2];rfl,h2⟩
theorem Py (z:Zn) (h:iR z.cal):1≤kW z:=by
 have h1:=qo z.cal 1 h;have h2:=qo z.cal 2 h;unfold kW Ai CJ;split
 ·omega
 ·split<;>split<;>omega
def VRel (w:World) (cs:Array Value) (m:Nat) (i:Value) (wr:World):Prop:=∃k:Nat,k≤m∧i= .int .i64 k∧kT w cs wr
theorem pG {w W:World} {C:Option Addr} {ts:List Tr} (h:aB w w.heap.size C (ts.flatMap Tr.cells)) (hb:Below w.heap.size w W) (h0:0<ts.length):∃b off,C=some ⟨b,off,none⟩∧∀k,k<ts.length→W.cell? ⟨b,off+k*2,none⟩=some (I (fU ts k))∧W.cell? ⟨b,off+k*2+1,none⟩=some (I (kN ts k)):=by
 obtain ⟨b,off,e,hb1,hcl⟩:=h.there (by rw [dP (s:=2) Tr.cells _ fun _ _=>rfl];omega);refine ⟨b,off,e,fun k hk=>?_⟩;have hx:ts[k]? =some ts[k]:=dK hk;have hr:=aW (aB.elem (s:=2) (fun _ _=>rfl) hcl k _ hx) hb hb1;have e1:fU ts k=ts[k].at_:=by unfold fU;rw [hx];rfl
 have e2:kN ts k=ts[k].off:=by unfold kN;rw [hx];rfl
 rw [e1,e2];exact ⟨hr 0 _ rfl,hr 1 _ rfl⟩
theorem tZ.BV {z:Zn} (h:tZ z) (k:Nat) (hk:k<z.trans.length):(-1080≤kN z.trans k∧kN z.trans k≤1080)∧0≤fU z.trans k∧fU z.trans k<z.hor:=by
 have hx:z.trans[k]? =some z.trans[k]:=dK hk;have e1:fU z.trans k=z.trans[k].at_:=by unfold fU;rw [hx];rfl
 have e2:kN z.trans k=z.trans[k].off:=by unfold kN;rw [hx];rfl
 rw [e1,e2];exact h.tr _ (List.getElem_mem hk)
theorem Jd {ts:List Tr} {size t:Int} (h:Q8 ts) (hs:1440≤size) (hs2:size≤3000000) (ht0:0≤t) (ht:t≤1000000): -10000000000≤(dY ts size t).1.at_∧(dY ts size t).1.at_≤10000000000:=by
 obtain ⟨q,hq⟩:∃q,pI ts size t=q:=⟨_,rfl⟩;have hb:=Pj hq hs (BU 0 h).1 ht0 ht;have h0:=BU 0 h;unfold dY;split
 ·simp
 ·rw [hq];split
  ·rename_i j _;have hj:=BU j h;simp only;omega
  ·simp only;omega
def Zu:List Int:= [0,60,120, -90,30,1080, -1080,90]
def nP (n:Nat):Int:=Zu.getD (n%8) 0
theorem Dy (n:Nat): -1080≤nP n∧nP n≤1080:=by
 have h:n%8<8:=Nat.mod_lt _ (by omega);unfold nP;generalize n%8=k at h
 match k,h with
 |0,_=>decide
 |1,_=>decide
 |2,_=>decide
 |3,_=>decide
 |4,_=>decide
 |5,_=>decide
 |6,_=>decide
 |7,_=>decide
theorem xQ (n:Nat) (w:World) (hn:n<256):Calls Tryz.prog 72 #[.int .u8 n] w (Gives (I (nP n)) w):=by
 have hm:Int.tmod (n:Int) 8=((n%8:Nat):Int):=by rw [Int.tmod_eq_emod_of_nonneg (by omega)];omega
 have h:n%8<8:=Nat.mod_lt _ (by omega);have HS:Hid (nP n=Zu.getD (n%8) 0):=ae rfl;obtain ⟨V,hV⟩:∃v,nP n=v:=⟨_,rfl⟩;rw [hV] at HS ⊢;clear hV;generalize n%8=k at hm h HS;have hk:k=0∨k=1∨k=2∨k=3∨k=4∨k=5∨k=6∨k=7:=by omega
 rcases hk with rfl|rfl|rfl|rfl|rfl|rfl|rfl|rfl
 all_goals
  push_cast at hm
  go_enter Tryz.func72,Tryz.ntmps72;go_wp2_with fail;go_ret;exact ⟨by rw [HS.out];rfl,ag w _⟩
structure EY where
 st:UInt8
 dW:List UInt8
 iK:List UInt8
 bh:UInt8
 a0:UInt8
 a1:UInt8
 a2:UInt8
 a3:UInt8
 b0:UInt8
 b1:UInt8
 b2:UInt8
 b3:UInt8
 cal:UInt8
 rules:Bool
def xh (dW:List UInt8):Nat→Int
 |0=>0
 |k+1=>xh dW k+2160+20*((dW[k]?.getD 0).toNat:Int)
def mO (dW iK:List UInt8):Nat→List Tr
 |0=> []
 |k+1=>mO dW iK k++ [⟨xh dW (k+1),nP (iK[k]?.getD 0).toNat⟩]
def mM (x:EY):Nat:=Nat.min (Nat.min x.dW.length x.iK.length) 3
def uu (n:UInt8):Cal:=if n.toNat%2=1 then ⟨5,[7,8],1,[⟨2,((n.toNat / 2%2:Nat):Int),true⟩]⟩ else ⟨2,[7,6], -1,[]⟩
def pR (k:Int) (a b c d:UInt8):Yr:=⟨1+k,if d.toNat%2=1 then 5 else 1,((a.toNat%3:Nat):Int),((b.toNat*5:Nat):Int),nP (c.toNat%5)⟩
def NU (x:EY):Zn:=⟨uu x.cal,nP x.st.toNat,mO x.dW x.iK (mM x),xh x.dW (mM x)+2160+20*(x.bh.toNat:Int),[]⟩
def Yq (x:EY):Zn:= {NU x with az:= [pR 0 x.a0 x.a1 x.a2 x.a3,pR 1 x.b0 x.b1 x.b2 x.b3]}
def jK (x:EY):Zn:=if x.rules=true∧yV (Yq x)=0 then Yq x else NU x
theorem uw (g o:List UInt8) (k:Nat):(mO g o k).length=k:=by
 induction k with
 |zero=>rfl
 |succ k ih=>simp [mO,ih]
theorem CY (g o:List UInt8) (k:Nat):∀j,j<k→(mO g o k)[j]? =some ⟨xh g (j+1),nP (o[j]?.getD 0).toNat⟩:=by
 induction k with
 |zero=>intro j hj;omega
 |succ k ih=>
  intro j hj;unfold mO;rcases Nat.lt_succ_iff_lt_or_eq.1 hj with h|rfl
  ·rw [List.getElem?_append_left (by rw [uw];exact h)];exact ih j h
  ·rw [List.getElem?_append_right (by rw [uw];exact Nat.le_refl _),uw,Nat.sub_self];rfl
theorem gy (b:UInt8):b.toNat<256:=UInt8.toNat_lt b
theorem BR (g:List UInt8) (k:Nat):xh g k+2160≤xh g (k+1)∧xh g (k+1)≤xh g k+7260:=by
 have h:(g[k]?.getD 0).toNat<256:=gy _;rw [show xh g (k+1)=xh g k+2160+20*((g[k]?.getD 0).toNat:Int) from rfl];omega
theorem Gs (g:List UInt8):∀k:Nat,0≤xh g k∧xh g k≤7260*(k:Int):=by
 intro k
 induction k with
 |zero=>exact ⟨Int.le_refl _,by simp [xh]⟩
 |succ k ih=>have:=BR g k;omega
theorem SS (g:List UInt8) (j k:Nat) (h:j≤k):xh g j≤xh g k:=by
 induction k with
 |zero=>rw [Nat.le_zero.1 h];exact Int.le_refl _
 |succ k ih=>
  rcases Nat.lt_or_eq_of_le h with h|rfl
  ·have:=BR g k;have:=ih (by omega);omega
  ·exact Int.le_refl _
theorem OM (x:EY):mM x≤3∧mM x≤x.dW.length∧mM x≤x.iK.length:=by
 unfold mM;have h1:=Nat.min_le_right (Nat.min x.dW.length x.iK.length) 3;have h2:=Nat.min_le_left (Nat.min x.dW.length x.iK.length) 3;have h3:=Nat.min_le_left x.dW.length x.iK.length;have h4:=Nat.min_le_right x.dW.length x.iK.length;exact ⟨h1,Nat.le_trans h2 h3,Nat.le_trans h2 h4⟩
theorem mcal_S (n:UInt8):iR (uu n):=by
 unfold uu;split
 ·refine ⟨by simp,rfl,by simp,by simp,by simp,by simp,?_⟩;intro r hr;rw [List.mem_singleton.1 hr];have:n.toNat / 2%2<2:=Nat.mod_lt _ (by omega);exact ⟨rfl,by simp only;omega,by simp only;omega⟩
 ·exact ⟨by simp,rfl,by simp,by simp,by simp,by simp,by simp⟩
theorem Zq (k:Int) (hk:k=0∨k=1) (a b c d:UInt8):yN (pR k a b c d):=by
 have h1:a.toNat%3<3:=Nat.mod_lt _ (by omega);have h2:=gy b;refine ⟨by simp only [pR];omega,?_,by simp only [pR];omega,by simp only [pR];omega,Dy _⟩;simp only [pR];split<;>omega
theorem ZA (x:EY):tZ (NU x):=by
 have hc:=OM x;have hb:=Gs x.dW (mM x);have hy:=gy x.bh;have hl:(NU x).trans.length=mM x:=uw _ _ _;refine ⟨mcal_S _,Dy _,?_,by rw [hl];exact hc.1,?_,?_, .inl rfl⟩
 ·show 0≤xh x.dW (mM x)+2160+20*(x.bh.toNat:Int)∧xh x.dW (mM x)+2160+20*(x.bh.toNat:Int)≤1000000;omega
 ·intro t ht;obtain ⟨j,hj⟩:=List.getElem?_of_mem ht;have hjl:j<mM x:=by rw [←hl];exact (iP.1 hj).1
  have h:=CY x.dW x.iK (mM x) j hjl;have h':(NU x).trans[j]? =(mO x.dW x.iK (mM x))[j]? :=rfl;rw [h',h] at hj;injection hj with hj;subst hj;have h1:=Gs x.dW (j+1);have h2:=SS x.dW (j+1) (mM x) hjl;refine ⟨Dy _,h1.1,?_⟩;show xh x.dW (j+1)<xh x.dW (mM x)+2160+20*(x.bh.toNat:Int);omega
 ·intro i hi;rw [hl] at hi;have h1:=CY x.dW x.iK (mM x) i (by omega);have h2:=CY x.dW x.iK (mM x) (i+1) hi;have e:(NU x).trans=mO x.dW x.iK (mM x):=rfl;unfold fU;rw [e,h1,h2];have:=BR x.dW (i+1);show xh x.dW (i+1)+2160≤xh x.dW (i+1+1);omega
theorem ZB (x:EY):tZ (Yq x):=by
 have h:=ZA x;exact ⟨h.cal,h.start,h.hor,h.Nw,h.tr,h.gap, .inr ⟨_,_,rfl,Zq 0 (.inl rfl) _ _ _ _,Zq 1 (.inr rfl) _ _ _ _⟩⟩
theorem Ut (x:EY):tZ (jK x):=by
 unfold jK;split
 ·exact ZB x
 ·exact ZA x
theorem tZ.len {z:Zn} (h:tZ z):oU z:=by
 have h1:=h.cal.mo;have h2:=h.cal.ru;have h3:=h.Nw;refine ⟨by omega,by omega,by omega,?_⟩;rcases h.yr with e|⟨_,_,e,_,_⟩<;>rw [e]<;>simp
def mf (x:EY) (G O:Option Addr) (gc oc:Nat):Array Value:= #[Extern.Stop.cell x.st, .slice G x.dW.length gc, .slice O x.iK.length oc,Extern.Stop.cell x.bh,Extern.Stop.cell x.a0,Extern.Stop.cell x.a1,Extern.Stop.cell x.a2,Extern.Stop.cell x.a3,Extern.Stop.cell x.b0,Extern.Stop.cell x.b1,Extern.Stop.cell x.b2,Extern.Stop.cell x.b3,Extern.Stop.cell x.cal, .bool x.rules]
def LZ (lo B g:Nat) (w:World) (A:Option Addr) (cs:List Value):Prop:=
 cs.length=0∨∃b off,A=some ⟨b,off,none⟩∧lo≤b∧b<B∧b≠g∧∀j u,cs[j]? =some u→w.cell? ⟨b,off+j,none⟩=some u
theorem LZ.aQ {lo B g:Nat} {w w':World} {A:Option Addr} {cs:List Value} (h:LZ lo B g w A cs) (hb:∀k,lo≤k→k<B→k≠g→w'.heap[k]? =w.heap[k]?):LZ lo B g w' A cs:=by
 rcases h with h|⟨b,off,h1,h0,h2,h4,h5⟩
 ·exact .inl h
 ·exact .inr ⟨b,off,h1,h0,h2,h4,fun j u hu=>(World.cell?_of_block (a:=⟨b,off+j,none⟩) (hb b h0 h2 h4)).trans (h5 j u hu)⟩
theorem LZ.more {lo B B' g:Nat} {w:World} {A:Option Addr} {cs:List Value} (h:LZ lo B g w A cs) (hB:B≤B'):LZ lo B' g w A cs:=by
 rcases h with h|⟨b,off,h1,h0,h2,h4,h5⟩
 ·exact .inl h
 ·exact .inr ⟨b,off,h1,h0,by omega,h4,h5⟩
theorem LZ.at {lo B g:Nat} {w:World} {A:Option Addr} {cs:List Value} (h:LZ lo B g w A cs) (hB:B≤w.heap.size):aB w w.heap.size A cs:=by
 rcases h with h|⟨b,off,h1,h0,h2,h4,h5⟩
 ·exact .inl h
 ·exact .inr ⟨b,off,h1,by omega,h5⟩
theorem LZ.nil {lo B g:Nat} {w:World} {A:Option Addr}:LZ lo B g w A []:= .inl rfl
theorem LZ.fA {lo g e size n c B base:Nat} {A:Option Addr} {w:World} {cs:List Value} (h:w.ownsRow base e size (.slice A n c) n cs) (h0:lo≤base) (hg:g<base) (hB:w.heap.size≤B):LZ lo B g w A cs:=by
 rcases h.2 with ⟨hv,hn⟩|⟨b,cap,cur,hv,hb,hh,_⟩
 ·refine .inl ?_;rw [h.1,hn,Nat.zero_mul]
 ·injection hv with h1 _ _;subst h1;have hl:=(bY.1 hh).1;exact .inr ⟨b,0,rfl,by omega,by omega,by omega,fun j u hu=>by rw [Nat.zero_add,←addr_add];exact h.cells (g:=b) rfl j u hu⟩
structure MZ (w:World) (xs:Array Value) (zb B:Nat) (zs:Array Value) (A R C:Option Addr) (mo ru tr:List Value) (W:World):Prop where
 x:Row W w.heap.size xs
 res:W.heap[w.heap.size+1]? =some (.cells jM 51 (0,0))
 z:W.heap[zb]? =some (.cells zs 51 (0,0))
 lo:w.heap.size+2≤zb
 hi:zb<B
 sz:B≤W.heap.size
 up:Below w.heap.size w W
 mon:LZ (w.heap.size+2) B zb W A mo
 rul:LZ (w.heap.size+2) B zb W R ru
 trn:LZ (w.heap.size+2) B zb W C tr
section
variable {w W W':World} {xs zs:Array Value} {zb B:Nat} {A R C:Option Addr} {mo ru tr:List Value}
theorem MZ.step (h:MZ w xs zb B zs A R C mo ru tr W) (ho:W'.os=W.os) (ht:W'.tape=W.tape) (hu:W'.output=W.output) (hs:W.heap.size≤W'.heap.size) (hb:∀k,k<B→k≠zb→W'.heap[k]? =W.heap[k]?) {zs':Array Value} (hz:W'.heap[zb]? =some (.cells zs' 51 (0,0))):MZ w xs zb B zs' A R C mo ru tr W':=by
 have h1:=h.lo;have h2:=h.hi;refine ⟨⟨dS h.x.1 hs,fun i=>(World.cell?_of_block (a:=⟨w.heap.size,i,none⟩) (hb _ (by show w.heap.size<B;omega) (by show w.heap.size≠zb;omega))).trans (h.x.2 i)⟩,(hb _ (by omega) (by omega)).trans h.res,hz,h.lo,h.hi,Nat.le_trans h.sz hs,?_,h.mon.aQ fun k _=>hb k,h.rul.aQ fun k _=>hb k,h.trn.aQ fun k _=>hb k⟩;exact ⟨ho.trans h.up.os,ht.trans h.up.tape,hu.trans h.up.output,Nat.le_trans h.up.size hs,fun k hk=>(hb k (by omega) (by omega)).trans (h.up.block k hk)⟩
theorem MZ.grow (h:MZ w xs zb B zs A R C mo ru tr W) (hb:Below W.heap.size W W'):MZ w xs zb B zs A R C mo ru tr W':=
 h.step hb.os hb.tape hb.output hb.size (fun k hk _=>hb.block k (dS hk h.sz)) ((hb.block _ (dS h.hi h.sz)).trans h.z)
theorem MZ.store (h:MZ w xs zb B zs A R C mo ru tr W) (o:Nat) (v:Value):MZ w xs zb B (zs.setIfInBounds o v) A R C mo ru tr (W.setCell ⟨zb,o,none⟩ v):=
 h.step (W':=W.setCell ⟨zb,o,none⟩ v) rfl rfl rfl (by simp [World.setCell]) (fun k _ hk=>heap_setCell_other W ⟨zb,o,none⟩ k v hk) (heap_setCell_same W zb o _ _ _ h.z)
theorem MZ.grown (h:MZ w xs zb B zs A R C mo ru tr W) {row:Option Nat} (hg:W.grownBy W' row) (hr:∀g,row=some g→B≤g):MZ w xs zb B zs A R C mo ru tr W':=
 have hh:=h.hi;have hz:=h.sz
 h.step hg.os hg.tape hg.output hg.size (fun k hk _=>hg.block k (by omega) (fun e=>by have:=hr k e.symm;omega)) ((hg.block _ (by omega) (fun e=>by have:=hr zb e.symm;omega)).trans h.z)
theorem MZ.drew (h:MZ w xs zb B zs A R C mo ru tr W):MZ w xs zb B zs A R C mo ru tr W.drew:=h.grow (Below.refl _ W).drew
theorem MZ.cell (h:MZ w xs zb B zs A R C mo ru tr W) (i:Nat):W.cell? ⟨zb,i,none⟩=zs[i]? :=cell_of_row _ _ i _ _ _ h.z
theorem MZ.gG (h:MZ w xs zb B zs A R C mo ru tr W) (i:Nat):W.frozen? ⟨zb,i,none⟩=false:=frozen_of_row _ _ i _ _ h.z
theorem MZ.done (h:MZ w xs zb B zs A R C mo ru tr W) (vs:Array Value):aB (W.setRow (w.heap.size+1) vs) (W.setRow (w.heap.size+1) vs).heap.size A mo∧aB (W.setRow (w.heap.size+1) vs) (W.setRow (w.heap.size+1) vs).heap.size R ru∧aB (W.setRow (w.heap.size+1) vs) (W.setRow (w.heap.size+1) vs).heap.size C tr∧Below w.heap.size w (W.setRow (w.heap.size+1) vs):=by
 have e:∀k,w.heap.size+2≤k→k<B→k≠zb→(W.setRow (w.heap.size+1) vs).heap[k]? =W.heap[k]? :=fun k hk _ _=>setRow_other _ _ k _ (by omega);have hs:B≤(W.setRow (w.heap.size+1) vs).heap.size:=by simpa [World.setRow] using h.sz
 exact ⟨(h.mon.aQ e).at hs,(h.rul.aQ e).at hs,(h.trn.aQ e).at hs,below_setRow h.up (by omega) _⟩
theorem MZ.Zz (h:MZ w xs zb B zs A R C mo ru tr W):zb<W.heap.size:=dS h.hi h.sz
end
end Go.Proofs.YtdibbemgpikgjaaGreat
