/- The texts Ke, Kf, Oc, Sc, in this order. -/
import Derived.Test.YtdibbemgpikgjaaGreatZ00
import Derived.Test.YtdibbemgpikgjaaGreatZ04
import Derived.Test.YtdibbemgpikgjaaGreatZ06
import Derived.Test.YtdibbemgpikgjaaGreatZ09
import Derived.Test.YtdibbemgpikgjaaGreatZ15
set_option maxRecDepth 10000
set_option maxHeartbeats 8000000
namespace Go.Proofs.YtdibbemgpikgjaaGreat
open Go Go.RowKit
def fD (ts:List Tr) (i:Nat):Int:=(ts[i]?.map (·.off)).getD 0
def kQ (ts:List Tr) (size t:Int):Int:=if df ts 0<t then (t - df ts 0).tdiv size else 0
def dU (ts:List Tr) (size t:Int):Tr×Bool:=
 if ts.length=0 then (⟨0,0⟩,false)
 else match (List.range ts.length).find? (fun j=>decide (t≤df ts j+kQ ts size t*size)) with
  |some j=>(⟨df ts j+kQ ts size t*size,fD ts j⟩,true)
  |none=>(⟨df ts 0+(kQ ts size t+1)*size,fD ts 0⟩,true)
theorem xy {ts:List Tr} {size t q:Int} {n k:Nat} (hq:kQ ts size t=q) (hl:ts.length=n) (hk:k<n) (h:∀j,j<k→df ts j+q*size<t) (h1:t≤df ts k+q*size):dU ts size t=(⟨df ts k+q*size,fD ts k⟩,true):=by
 have hf:(List.range ts.length).find? (fun j=>decide (t≤df ts j+q*size))=some k:=by
  rw [List.find?_range_eq_some];exact ⟨decide_eq_true h1,List.mem_range.2 (by omega),fun j hj=>by have:=h j hj;simp;omega⟩
 unfold dU;rw [if_neg (by omega),hq,hf]
theorem Aj {ts:List Tr} {size t q:Int} {n:Nat} (hq:kQ ts size t=q) (hl:ts.length=n) (hk:0<n) (h:∀j,j<n→df ts j+q*size<t):dU ts size t=(⟨df ts 0+(q+1)*size,fD ts 0⟩,true):=by
 have hf:(List.range ts.length).find? (fun j=>decide (t≤df ts j+q*size))=none:=by
  rw [List.find?_range_eq_none];intro j hj;have:=h j (by omega);simp;omega
 unfold dU;rw [if_neg (by omega),hq,hf]
theorem qL {lo g n cp:Nat} {W:World} {ts:List Tr} (h:iR lo W (some ⟨g,0,none⟩) n cp ts) (hl:ts.length=n) (k:Nat) (hk:k<n):W.cell? ⟨g,k*2+1,none⟩=some (I (fD ts k)):=by
 have hx:ts[k]? =some ts[k]:=dE (by omega);rw [World.ownsRow.cellAt h (k*2+1) (by omega),flat_get (s:=2) Tr.cells ts (fun _ _=>rfl) k 1 _ hx (by omega)];unfold fD;rw [hx];rfl
theorem wM {ts:List Tr} {sz t q:Int} (hq:kQ ts sz t=q) (hs:1440≤sz) (ha: -10000000≤df ts 0) (ht0:0≤t) (ht:t≤1000000):0≤q∧q≤100000000∧0≤q*sz∧q*sz≤11000000∧t≤df ts 0+(q+1)*sz∧(q+1)*sz=q*sz+sz:=by
 have e1:(q+1)*sz=q*sz+sz:=by rw [Int.add_mul,Int.one_mul]
 unfold kQ at hq;split at hq
 ·rename_i h;rw [Int.tdiv_eq_ediv_of_nonneg (by omega)] at hq;have h1:=Int.emod_add_mul_ediv (t - df ts 0) sz;have h2:=Int.emod_nonneg (t - df ts 0) (show sz≠0 by omega);have h3:=Int.emod_lt_of_pos (t - df ts 0) (show 0<sz by omega);have h4:0≤(t - df ts 0) / sz:=Int.ediv_nonneg (by omega) (by omega);rw [hq] at h1 h4;rw [Int.mul_comm] at h1;have h5:q*1440≤q*sz:=Int.mul_le_mul_of_nonneg_left hs h4;generalize q*sz=p at*;refine ⟨h4,?_,?_,?_,?_,e1⟩<;>omega
 ·subst hq;rw [Int.zero_mul] at*;refine ⟨?_,?_,?_,?_,?_,e1⟩<;>omega
theorem KL (n l:Int) (w:World) (hl:0≤l) (hl2:l≤4000000000000000):Calls Tryz.prog 94 #[I n,I l] w fun e w'=>e= .returned (.bool (decide (-l≤n)&&decide (n≤l)))∧w'=w:=by
 by_cases h: -l≤n
 ·have HH:=ae h;go_enter Tryz.func94,Tryz.ntmps94;go_wp2_with fail;go_ret;exact ⟨by simp [HH.out],rfl⟩
 ·have HH:=ae h;go_enter Tryz.func94,Tryz.ntmps94;go_wp2_with fail;go_ret;exact ⟨by rw [decide_eq_false (show¬ -l≤n by have:=HH.out;omega)];rfl,rfl⟩
theorem KQ (z:Zn) (s:Zs) (w:World) (hy:z.ay= []):Calls Tryz.prog 95 #[.agg (aj z s)] w (P9 w (dP z) (iE (dP z) (dL z*1440))):=by
 have e1:dP z= []:=by unfold dP;rw [hy]
 rw [e1];obtain ⟨⟨ep,mo,lp,ru⟩,st,tr,ho,yr⟩:=z;obtain ⟨A0,a,R0,r,C0,c0,D0,d0⟩:=s;simp only at hy;subst hy;unfold aj;simp only [List.length_nil];obtain ⟨n0,hn0⟩:∃n,mo.length=n:=⟨_,rfl⟩;obtain ⟨n1,hn1⟩:∃n,ru.length=n:=⟨_,rfl⟩;obtain ⟨n2,hn2⟩:∃n,tr.length=n:=⟨_,rfl⟩;rw [hn0,hn1,hn2];clear hn0 hn1 hn2 e1;go_enter Tryz.func95,Tryz.ntmps95;go_wp2_with fail;go_ret2;refine ⟨_,0,_,rfl,rfl,?_,ah (ag w _) (ag _ _)⟩;have h:=gU (w.alloc (.cells #[I ep, .slice A0 n0 a,I lp, .slice R0 n1 r,I st, .slice C0 n2 c0,I ho, .slice D0 0 d0] 51)) 100 2;refine iR.lower (lo:=w.heap.size+1) ?_ (Nat.le_succ _);simpa [iR] using h
theorem DD (lo n c:Nat) (A:Option Addr) (ts:List Tr) (yY t:Int) (w:World) (hl:ts.length=n) (hn1:n≤1000) (hO:iR lo w A n c ts) (htb:Gt ts) (hc1:1≤yY) (hc2:yY≤1400) (ht0:0≤t) (ht:t≤1000000):
  Calls Tryz.prog 96 #[.slice A n c,I yY,I t] w (Gives (.tuple #[.agg #[I (dU ts (yY*1440) t).1.at_,I (dU ts (yY*1440) t).1.off], .bool (dU ts (yY*1440) t).2]) w):=by
 obtain ⟨sz,hsz⟩:∃v,yY*1440=v:=⟨_,rfl⟩;rw [hsz];have hs1:1440≤sz:=by omega
 have hs2:sz≤2016000:=by omega
 have HL:=ae hl;rcases Nat.eq_zero_or_pos n with hn0|hn0
 ·subst hn0;have e1:dU ts sz t=(⟨0,0⟩,false):=by unfold dU;rw [if_pos hl]
  rw [e1];clear hO htb hl e1 hsz;go_enter Tryz.func96,Tryz.ntmps96;go_wp2_with fail;refine bodyPost_ret (v:= .tuple #[.agg #[I 0,I 0], .bool false]) (bF rfl _ _ w.heap.size _ #[I 0,I 0] (0,0) _ rfl (heap_alloc_last w _) Tryz.underlying100 rfl (by kernel_rfl) _ rfl) rfl ?_;exact ⟨rfl,ag w _⟩
 ·obtain ⟨g,cap,hgv,hgl⟩:=gV hO hn0;injection hgv with hA hB hC;subst hA hC;clear hB;have HO:=ae (World.ownsRow.alloc hO (.cells #[I 0,I 0] 100));have Gl:=ae (fun k=>lQ k htb);clear hO hl htb;obtain ⟨res,hres⟩:∃r,dU ts sz t=r:=⟨_,rfl⟩;rw [hres];have jG:=ae hres;clear hres;obtain ⟨q,hq⟩:∃v,kQ ts sz t=v:=⟨_,rfl⟩;obtain ⟨q0,q1,p0,p1,ht2,he⟩:=wM hq hs1 (Gl.out 0).1 ht0 ht;have HQ:=ae hq;unfold kQ at hq;obtain ⟨p,hp⟩:∃v,q*sz=v:=⟨_,rfl⟩;rw [hp] at p0 p1 he;have HP:=ae hp;have hb0:=Gl.out 0;have x0:=pR HO.out HL.out 0 hn0;have y0:=qL HO.out HL.out 0 hn0;rw [Nat.zero_mul] at x0 y0;rw [Nat.zero_add] at y0;obtain ⟨a0,ha0⟩:∃v,df ts 0=v:=⟨_,rfl⟩;obtain ⟨o0,ho0⟩:∃v,fD ts 0=v:=⟨_,rfl⟩;rw [ha0] at x0 hq hb0 ht2;rw [ho0] at y0;have uf:=ae ha0;have zY:=ae ho0;clear ha0 ho0;have hnn:((n:Int)==0)=false:=by simp;omega
  have i2:(0:Int)<(n:Int):=by omega
  have hs0:sz≠0:=by omega
  have hs3:sz≠ -1:=by omega
  have hcut:(a0<t∧(t - a0).tdiv sz=q)∨(¬a0<t∧q=0):=by
   by_cases h:a0<t
   ·rw [if_pos h] at hq;exact .inl ⟨h,hq⟩
   ·rw [if_neg h] at hq;exact .inr ⟨h,hq.symm⟩
  clear hq;rcases hcut with ⟨hat,hq⟩|⟨hat,hq⟩
  ·have ht3:t≤a0+(p+sz):=by omega
   have hatd:decide (a0<t)=true:=decide_eq_true hat;have hw1:IntKind.i64.wrap p=p:=by rw [IntKind.wrap_i64];omega
   have hw2:IntKind.i64.wrap (p+sz)=p+sz:=by rw [IntKind.wrap_i64];omega
   have hw3:IntKind.i64.wrap (a0+(p+sz))=a0+(p+sz):=by rw [IntKind.wrap_i64];omega
   have hw4:IntKind.i64.wrap (q+1)=q+1:=by rw [IntKind.wrap_i64];omega
   go_enter Tryz.func96,Tryz.ntmps96;go_wp2_with fail;refine wp_loop_rounds 2 ?_;rw [rounds_succ];go_wp2_with fail;clear x0 y0;have HR:Hid ((w.alloc (.cells #[I 0,I 0] 100)).heap[w.heap.size]? =some (.cells #[I 0,I 0] 100 (0,0))∧Below w.heap.size w (w.alloc (.cells #[I 0,I 0] 100))):=ae ⟨heap_alloc_last w _,ag w _⟩;generalize w.alloc (.cells #[I 0,I 0] 100)=W0 at HR HO ⊢
   go_loopw [11] (fun i wr=>∃k:Nat,k≤n∧i= .int .i64 k∧(∀j,j<k→df ts j+p<t)∧W0=wr) (fun i _=>n - (intOf i).toNat)
   case atStart=>exact ⟨0,Nat.zero_le _,by go_num,(fun _ h=>absurd h (Nat.not_lt_zero _)),rfl⟩
   case round=>
    obtain ⟨k,hk,rfl,hall,rfl⟩:=hrel;have kS:=ae hall;clear hall;by_cases hlt:k<n
    ·have x1:=pR HO.out HL.out k hlt;have y1:=qL HO.out HL.out k hlt;have hb1:=Gl.out k;obtain ⟨a1,ha1⟩:∃v,df ts k=v:=⟨_,rfl⟩;obtain ⟨o1,ho1⟩:∃v,fD ts k=v:=⟨_,rfl⟩;rw [ha1] at x1 hb1;rw [ho1] at y1;have HA1:=ae ha1;have Lm:=ae ho1;clear ha1 ho1;have i0:(0:Int)≤(k:Int):=by omega
     have i1:(k:Int)<(n:Int):=by omega
     have hw5:IntKind.i64.wrap (a1+p)=a1+p:=by rw [IntKind.wrap_i64];omega
     have hw6:IntKind.i64.wrap 0=0:=by rw [IntKind.wrap_i64];omega
     by_cases hge:t≤a1+p
     ·have HE:Hid (res=(⟨a1+p,o1⟩,true)):=ae (by
       have h:=xy HQ.out HL.out hlt (by rw [HP.out];exact kS.out) (by rw [HP.out,HA1.out];exact hge);rw [←jG.out,h,HA1.out,Lm.out,HP.out])
      go_wp2_with fail;have r0:W0.cell? ⟨w.heap.size,0,none⟩=some (I 0):=cell_of_row _ _ 0 _ _ _ HR.out.1;have r1:W0.cell? ⟨w.heap.size,1,none⟩=some (I 0):=cell_of_row _ _ 1 _ _ _ HR.out.1;have f0:∀i,W0.frozen? ⟨w.heap.size,i,none⟩=false:=fun i=>frozen_of_row _ _ i _ _ HR.out.1;go_still_tail 15,(by kernel_rfl);change wpList _ _ _ _ _ W0.drew;go_wp2_with fail;have hh:(((W0.setCell ⟨w.heap.size,0,none⟩ (I (a1+p))).setCell ⟨w.heap.size,1,none⟩ (I o1)).drew).heap[w.heap.size]? =some (.cells #[I (a1+p),I o1] 100 (0,0)):=heap_setCell_same _ w.heap.size 1 _ _ _ (heap_setCell_same _ w.heap.size 0 _ _ _ HR.out.1);refine bodyPost_ret (v:= .tuple #[.agg #[I (a1+p),I o1], .bool true]) (bF rfl _ _ w.heap.size _ #[I (a1+p),I o1] (0,0) _ rfl hh Tryz.underlying100 rfl (by kernel_rfl) _ rfl) rfl ?_;exact ⟨by rw [HE.out],((HR.out.2.setCell (p:=⟨w.heap.size,0,none⟩) (Nat.le_refl _) _).setCell (p:=⟨w.heap.size,1,none⟩) (Nat.le_refl _) _).drew⟩
     ·go_wp2_with fail;go_roundw
      case rel=>exact ⟨k+1,by omega,by go_num,(fun j hj=>by rcases Nat.lt_succ_iff_lt_or_eq.1 hj with h|rfl;exact kS.out j h;rw [HA1.out];omega),by first|trivial|rfl⟩
      case measure=>simp [intOf];omega
    ·have hnl:¬(k:Int)<(n:Int):=by omega
     have HE:Hid (res=(⟨a0+(p+sz),o0⟩,true)):=ae (by
      have h:=Aj HQ.out HL.out hn0 (by rw [HP.out];exact fun j hj=>kS.out j (by omega));rw [←jG.out,h,uf.out,zY.out,he])
     go_wp2_with fail;rw [rounds_succ];have x0:=pR HO.out HL.out 0 hn0;have y0:=qL HO.out HL.out 0 hn0;rw [Nat.zero_mul] at x0 y0;rw [Nat.zero_add] at y0;rw [uf.out] at x0;rw [zY.out] at y0;have hw6:IntKind.i64.wrap 0=0:=by rw [IntKind.wrap_i64];omega
     go_wp2_with fail;refine wp_loop_rounds 1 ?_;rw [rounds_succ];go_wp2_with fail;have r0:W0.cell? ⟨w.heap.size,0,none⟩=some (I 0):=cell_of_row _ _ 0 _ _ _ HR.out.1;have r1:W0.cell? ⟨w.heap.size,1,none⟩=some (I 0):=cell_of_row _ _ 1 _ _ _ HR.out.1;have f0:∀i,W0.frozen? ⟨w.heap.size,i,none⟩=false:=fun i=>frozen_of_row _ _ i _ _ HR.out.1;go_still_tail 15,(by kernel_rfl);change wpList _ _ _ _ _ W0.drew;go_wp2_with fail;have hh:(((W0.setCell ⟨w.heap.size,0,none⟩ (I (a0+(p+sz)))).setCell ⟨w.heap.size,1,none⟩ (I o0)).drew).heap[w.heap.size]? =some (.cells #[I (a0+(p+sz)),I o0] 100 (0,0)):=heap_setCell_same _ w.heap.size 1 _ _ _ (heap_setCell_same _ w.heap.size 0 _ _ _ HR.out.1);refine bodyPost_ret (v:= .tuple #[.agg #[I (a0+(p+sz)),I o0], .bool true]) (bF rfl _ _ w.heap.size _ #[I (a0+(p+sz)),I o0] (0,0) _ rfl hh Tryz.underlying100 rfl (by kernel_rfl) _ rfl) rfl ?_;exact ⟨by rw [HE.out],((HR.out.2.setCell (p:=⟨w.heap.size,0,none⟩) (Nat.le_refl _) _).setCell (p:=⟨w.heap.size,1,none⟩) (Nat.le_refl _) _).drew⟩
  ·subst hq;rw [Int.zero_mul] at hp;subst hp;clear he p0 p1 q0 q1 ht2;go_enter Tryz.func96,Tryz.ntmps96;go_wp2_with fail;refine wp_loop_rounds 2 ?_;rw [rounds_succ];go_wp2_with fail;clear x0 y0;have HR:Hid ((w.alloc (.cells #[I 0,I 0] 100)).heap[w.heap.size]? =some (.cells #[I 0,I 0] 100 (0,0))∧Below w.heap.size w (w.alloc (.cells #[I 0,I 0] 100))):=ae ⟨heap_alloc_last w _,ag w _⟩;generalize w.alloc (.cells #[I 0,I 0] 100)=W0 at HR HO ⊢
   go_loopw [11] (fun i wr=>∃k:Nat,k≤n∧i= .int .i64 k∧(∀j,j<k→df ts j+0<t)∧W0=wr) (fun i _=>n - (intOf i).toNat)
   case atStart=>exact ⟨0,Nat.zero_le _,by go_num,(fun _ h=>absurd h (Nat.not_lt_zero _)),rfl⟩
   case round=>
    obtain ⟨k,hk,rfl,hall,rfl⟩:=hrel;have kS:=ae hall;clear hall;by_cases hlt:k<n
    ·have x1:=pR HO.out HL.out k hlt;have y1:=qL HO.out HL.out k hlt;have hb1:=Gl.out k;obtain ⟨a1,ha1⟩:∃v,df ts k=v:=⟨_,rfl⟩;obtain ⟨o1,ho1⟩:∃v,fD ts k=v:=⟨_,rfl⟩;rw [ha1] at x1 hb1;rw [ho1] at y1;have HA1:=ae ha1;have Lm:=ae ho1;clear ha1 ho1;have i0:(0:Int)≤(k:Int):=by omega
     have i1:(k:Int)<(n:Int):=by omega
     have hw5:IntKind.i64.wrap (a1)=a1:=by rw [IntKind.wrap_i64];omega
     have hw6:IntKind.i64.wrap 0=0:=by rw [IntKind.wrap_i64];omega
     by_cases hge:t≤a1
     ·have HE:Hid (res=(⟨a1,o1⟩,true)):=ae (by
       have h:=xy HQ.out HL.out hlt (by rw [Int.zero_mul];exact kS.out) (by rw [Int.zero_mul,HA1.out];omega);rw [←jG.out,h,HA1.out,Lm.out,Int.zero_mul,Int.add_zero])
      go_wp2_with fail;have r0:W0.cell? ⟨w.heap.size,0,none⟩=some (I 0):=cell_of_row _ _ 0 _ _ _ HR.out.1;have r1:W0.cell? ⟨w.heap.size,1,none⟩=some (I 0):=cell_of_row _ _ 1 _ _ _ HR.out.1;have f0:∀i,W0.frozen? ⟨w.heap.size,i,none⟩=false:=fun i=>frozen_of_row _ _ i _ _ HR.out.1;go_still_tail 15,(by kernel_rfl);change wpList _ _ _ _ _ W0.drew;go_wp2_with fail;have hh:(((W0.setCell ⟨w.heap.size,0,none⟩ (I (a1))).setCell ⟨w.heap.size,1,none⟩ (I o1)).drew).heap[w.heap.size]? =some (.cells #[I (a1),I o1] 100 (0,0)):=heap_setCell_same _ w.heap.size 1 _ _ _ (heap_setCell_same _ w.heap.size 0 _ _ _ HR.out.1);refine bodyPost_ret (v:= .tuple #[.agg #[I (a1),I o1], .bool true]) (bF rfl _ _ w.heap.size _ #[I (a1),I o1] (0,0) _ rfl hh Tryz.underlying100 rfl (by kernel_rfl) _ rfl) rfl ?_;exact ⟨by rw [HE.out],((HR.out.2.setCell (p:=⟨w.heap.size,0,none⟩) (Nat.le_refl _) _).setCell (p:=⟨w.heap.size,1,none⟩) (Nat.le_refl _) _).drew⟩
     ·go_wp2_with fail;go_roundw
      case rel=>exact ⟨k+1,by omega,by go_num,(fun j hj=>by rcases Nat.lt_succ_iff_lt_or_eq.1 hj with h|rfl;exact kS.out j h;rw [HA1.out];omega),by first|trivial|rfl⟩
      case measure=>simp [intOf];omega
    ·exact absurd (kS.out 0 (by omega)) (by rw [uf.out];omega)
structure nO (z:Zn):Prop where
 cal:gG z.cal
 start: -1080≤z.start∧z.start≤1080
 hor:0≤z.hor∧z.hor≤1000000
 MV:z.trans.length≤3
 tr:∀x∈z.trans,(-1080≤x.off∧x.off≤1080)∧0≤x.at_∧x.at_<z.hor
 gap:∀i,i+1<z.trans.length→df z.trans i+2160≤df z.trans (i+1)
 yr:z.ay= []∨∃r0 r1,z.ay= [r0,r1]∧wX r0∧wX r1
def oU (z:Zn):Bool:=
 let a:=dU (dP z) (dL z*1440) z.hor
 a.2&&(decide (0<z.trans.length)&&decide (a.1.at_ - df z.trans (z.trans.length - 1)<2160))
def vJ (z:Zn):Int:=if iE (dP z) (dL z*1440)=false then 1 else if oU z=true then 1 else 0
theorem Na (c:Cal) (bg y:Int) (r r':Yr) (ts:List Tr):(Ee c bg y r r' ts).length≤ts.length+1:=by
 unfold Ee;split
 ·rw [vY];exact Nat.le_refl _
 ·omega
theorem IM (c:Cal) (r0 r1:Yr) (ep stop:Int) (hc:gG c) (hr0:wX r0) (hr1:wX r1) (hs:stop≤1500) (he:0≤ep):∀(f:Nat) (bg y:Int) (ts:List Tr),Gt ts→1≤y→ep+12*(y - 1)≤bg→bg≤stop+100→(ts.length:Int)≤2*(y - 1)→Gt (lC c r0 r1 stop f bg y ts)∧(lC c r0 r1 stop f bg y ts).length≤1000:=by
 intro f
 induction f with
 |zero=>intro bg y ts h1 h2 h3 h4 h5;exact ⟨h1,by show ts.length≤1000;omega⟩
 |succ f ih=>
  intro bg y ts h1 h2 h3 h4 h5;unfold lC;split
  ·rename_i hlt;have h6:=pG c y hc;have h7:=jF c y hc;have l1:=Na c bg y r0 r1 ts;have l2:=Na c bg y r1 r0 (Ee c bg y r0 r1 ts);exact ih _ _ _ (wL (wL h1 hc hr0 hr1 (by omega) (by omega)) hc hr1 hr0 (by omega) (by omega)) (by omega) (by omega) (by omega) (by omega)
  ·exact ⟨h1,by omega⟩
theorem sU (z:Zn) (h:nO z):Gt (dP z)∧(dP z).length≤1000:=by
 have hz:=jP z h.cal;have he:=h.cal.ep;rcases h.yr with hy|⟨r0,r1,hy,h0,h1⟩
 ·unfold dP;rw [hy];exact ⟨fun _ h=>(nomatch h),by simp⟩
 ·unfold dP;rw [hy];exact IM z.cal r0 r1 z.cal.aN _ h.cal h0 h1 (by omega) he.1 1400 _ _ _ (fun _ h=>(nomatch h)) (by omega) (by omega) (by omega) (by simp)
theorem BJ (z:Zn) (s:Zs) (w:World) (hm:nO z) (h:gW w w.heap.size s z):Calls Tryz.prog 95 #[.agg (aj z s)] w (P9 w (dP z) (iE (dP z) (dL z*1440))):=by
 rcases hm.yr with hy|⟨r0,r1,hy,h0,h1⟩
 ·exact KQ z s w hy
 ·exact KR z s r0 r1 w hm.cal h hy h0 h1 (by have:=hm.MV;omega)
theorem iO (n l:Int) (w:World) (hl:0≤l) (hl2:l≤4000000000000000) (h: -l≤n∧n≤l):Calls Tryz.prog 94 #[I n,I l] w fun e w'=>e= .returned (.bool true)∧w'=w:=
 (KL n l w hl hl2).mono fun e w' ⟨h1,h2⟩=>⟨by rw [h1,decide_eq_true h.1,decide_eq_true h.2];rfl,h2⟩
theorem lD (z:Zn) (h:gG z.cal):1≤dL z:=by
 have h1:=pG z.cal 1 h;have h2:=pG z.cal 2 h;unfold dL GZ qC;split
 ·omega
 ·split<;>split<;>omega
def VRel (w:World) (cs:Array Value) (m:Nat) (i:Value) (wr:World):Prop:=∃k:Nat,k≤m∧i= .int .i64 k∧jS w cs wr
theorem ou {w W:World} {C:Option Addr} {ts:List Tr} (h:aB w w.heap.size C (ts.flatMap Tr.cells)) (hb:Below w.heap.size w W) (h0:0<ts.length):∃b off,C=some ⟨b,off,none⟩∧∀k,k<ts.length→W.cell? ⟨b,off+k*2,none⟩=some (I (df ts k))∧W.cell? ⟨b,off+k*2+1,none⟩=some (I (fD ts k)):=by
 obtain ⟨b,off,e,hb1,hcl⟩:=h.there (by rw [dJ (s:=2) Tr.cells _ fun _ _=>rfl];omega);refine ⟨b,off,e,fun k hk=>?_⟩;have hx:ts[k]? =some ts[k]:=dE hk;have hr:=aU (aB.elem (s:=2) (fun _ _=>rfl) hcl k _ hx) hb hb1;have e1:df ts k=ts[k].at_:=by unfold df;rw [hx];rfl
 have e2:fD ts k=ts[k].off:=by unfold fD;rw [hx];rfl
 rw [e1,e2];exact ⟨hr 0 _ rfl,hr 1 _ rfl⟩
theorem nO.Am {z:Zn} (h:nO z) (k:Nat) (hk:k<z.trans.length):(-1080≤fD z.trans k∧fD z.trans k≤1080)∧0≤df z.trans k∧df z.trans k<z.hor:=by
 have hx:z.trans[k]? =some z.trans[k]:=dE hk;have e1:df z.trans k=z.trans[k].at_:=by unfold df;rw [hx];rfl
 have e2:fD z.trans k=z.trans[k].off:=by unfold fD;rw [hx];rfl
 rw [e1,e2];exact h.tr _ (List.getElem_mem hk)
theorem Gx {ts:List Tr} {size t:Int} (h:Gt ts) (hs:1440≤size) (hs2:size≤3000000) (ht0:0≤t) (ht:t≤1000000): -10000000000≤(dU ts size t).1.at_∧(dU ts size t).1.at_≤10000000000:=by
 obtain ⟨q,hq⟩:∃q,kQ ts size t=q:=⟨_,rfl⟩;have hb:=wM hq hs (lQ 0 h).1 ht0 ht;have h0:=lQ 0 h;unfold dU;split
 ·simp
 ·rw [hq];split
  ·rename_i j _;have hj:=lQ j h;simp only;omega
  ·simp only;omega
attribute [local go_sem] lV lZ lW l7 pY qc lT lX lU lY
def CQ (c:Cal):List UInt8:=le c.aN 4++((le c.au.length 1++dn c.au)++(le (c.bu+1) 1++(le c.rules.length 1++c.rules.flatMap iH)))
def znB (z:Zn):List UInt8:=CQ z.cal++(le z.start 2++((le z.trans.length 2++z.trans.flatMap gu)++(le z.hor 8++(le z.ay.length 1++z.ay.flatMap iK))))
def VE (e:Ze):List UInt8:=(le e.name.size 1++e.name.data.toList)++znB e.z
theorem GI {c:Cal} (h:gG c):(CQ c).length≤14:=by
 unfold CQ;simp only [bJ,aA,iW,uN iH 5 yz];have:=h.mo;have:=h.ru;omega
theorem VF {e:Ze} (h:nO e.z) (hs:e.name.size≤32):(VE e).length≤140:=by
 have h1:=GI h.cal;have h2:=h.MV;have h3:e.z.ay.length≤2:=by rcases h.yr with hy|⟨r0,r1,hy,_⟩<;>rw [hy]<;>simp
 have h4:e.name.data.toList.length=e.name.size:=by rw [Array.length_toList];rfl
 unfold VE znB;simp only [bJ,aA,uN gu 10 sJ,uN iK 7 yL,h4];omega
theorem BB (w:World) (g cb co:Nat) (c:Cal) (A:Option Addr) (a:Nat) (B:Option Addr) (b:Nat) (v:Value) (bs:List UInt8) (hc:gG c) (hr:w.rangeAt cb co (aF c A a B b).toList) (hfz:w.frozen? ⟨cb,co+2,none⟩=false) (hcb:cb<g) (hA:fE w g A c.au) (hB:aB w g B (c.rules.flatMap Lr.cells))
  (hl:bs.length≤10000000) (hst:eu w g v bs):
  Calls Tryz.prog 61 #[.iface 71 (pt g), .pointer (some ⟨cb,co,none⟩)] w (eG w g v (bs++CQ c)):=by
 have hgl:=hst.lt;have c0:w.cell? ⟨cb,co,none⟩=some (I c.aN):=hr 0 _ rfl;have c1:w.cell? ⟨cb,co+1,none⟩=some (.slice A c.au.length a):=hr 1 _ rfl;have c2:w.cell? ⟨cb,co+2,none⟩=some (I c.bu):=hr 2 _ rfl;have c3:w.cell? ⟨cb,co+3,none⟩=some (.slice B c.rules.length b):=hr 3 _ rfl;obtain ⟨lp,hlp⟩:∃l,c.bu=l:=⟨_,rfl⟩;obtain ⟨n1,hn1⟩:∃n,c.rules.length=n:=⟨_,rfl⟩;rw [hlp] at c2;rw [hn1] at c3;have hlb:=hc.le;rw [hlp] at hlb;have hrb:=hc.ru;rw [hn1] at hrb;have En:=ae hlp;have HN1:=ae hn1;have Nw:=ae hB;have HRF:Hid (∀z∈c.rules,yA z):=ae (fun z hz=>by have:=hc.rl z hz;unfold yA kV;omega);clear hB hlp hn1;obtain ⟨n,hn⟩:∃n,c.au.length=n:=⟨_,rfl⟩;rw [hn] at c1;have hn2:n≤16:=by have:=hc.mo;omega
 have hN1:(bs++le c.aN 4).length≤10000004:=by rw [bJ,aA];omega
 have HE:=ae hc.ep;have HN:=ae hn;have HM:Hid (∀z∈c.au,fits z):=ae fun z hz=>by have:=hc.all z hz;unfold fits;omega
 have jf:=ae (bP w.drew g ⟨cb,co,none⟩ v bs c.aN 4 (by have:=hc.ep;omega) (by have:=hc.ep;omega) (by omega) (by omega) hst.lt hst.drew c0);have HST:=ae hst;have HA:=ae hA;clear hc hr hst hA hn;go_enter Tryz.func61,Tryz.ntmps61;go_wp2_with fail;go_still_tail 7,(by kernel_rfl);go_wp2_with fail;refine jf.out.mono ?_;rintro e w1 ⟨rfl,v1,hs1,hk1⟩;have hb1:=bD HST.out (aI hk1);have HB1:=ae hb1;have jQ:=ae hs1;have iP:=ae (aI hk1);have d1:w1.cell? ⟨cb,co+1,none⟩=some (.slice A n a):=(hb1.cell (p:=⟨cb,co+1,none⟩) hcb).trans c1;have hcb1:cb<w1.heap.size:=by have:=hs1.lt;omega
 have HL:=ae (wR w1 g cb (co+1) A n a c.au v1 _ HN.out (by omega) d1 hcb (HA.out.keep hb1) HM.out (by omega) hs1);have hN2:(bs++le c.aN 4++(le (n:Int) 1++dn c.au)).length≤10000040:=by
  simp only [bJ,aA,iW,HN.out];omega
 clear hs1 hk1 hb1 jf c0 d1;go_wp2_with fail;refine HL.out.mono ?_;rintro e w2 ⟨rfl,v2,hs2,hk2⟩;have hb2:=HB1.out.trans (bD jQ.out hk2);have HB2:=ae hb2;have HS2:=ae hs2;have jc:=ae (iP.out.trans hk2);have d2:w2.cell? ⟨cb,co+2,none⟩=some (I lp):=(hb2.cell (p:=⟨cb,co+2,none⟩) hcb).trans c2;obtain ⟨h1,h2⟩:=hs2.grow (ag w2 (.cells #[I (lp+1)] 3));have HG1:=ae h1;have HG2:=ae h2;have Wj:=ae hs2.new_ne;have VY:=ae (heap_alloc_last w2 (.cells #[I (lp+1)] 3));have HC2:=ae (bP (w2.alloc (.cells #[I (lp+1)] 3)) g ⟨w2.heap.size,0,none⟩ v2 _ (lp+1) 1 (by omega) (by omega) (by omega) (by omega) h1.lt h1 ((Row.new w2 #[I (lp+1)] 3).2 0));clear hs2 hk2 hb2 HL h1 h2;go_wp2_with fail;refine HC2.out.mono ?_;rintro e w3 ⟨rfl,v3,hs3,hk3⟩;have hb3:=bD HG1.out hk3;have d3:w3.cell? ⟨w2.heap.size,0,none⟩=some (I (lp+1)):=cell_of_row w3 _ 0 _ _ _ ((HG1.out.far hk3 w2.heap.size (by simp) Wj.out.1 Wj.out.2).trans VY.out);have y7:Below g w w3:=(HB2.out.trans ((ag w2 (.cells #[I (lp+1)] 3)).mono (by have:=HS2.out.lt;omega))).trans hb3;have HB3:=ae y7;have e3:w3.cell? ⟨cb,co+2,none⟩=some (I lp):=(y7.cell (p:=⟨cb,co+2,none⟩) hcb).trans c2;have f3:w3.frozen? ⟨cb,co+2,none⟩=false:=(y7.frozen (p:=⟨cb,co+2,none⟩) hcb).trans hfz;have e4:w3.cell? ⟨cb,co+3,none⟩=some (.slice B n1 b):=(y7.cell (p:=⟨cb,co+3,none⟩) hcb).trans c3;have hsame:=jv e3;have mZ:=ae hs3;have kU:=ae ((jc.out.trans HG2.out).trans hk3);have hN3:(bs++le c.aN 4++(le (n:Int) 1++dn c.au)++le (lp+1) 1).length≤10000041:=by rw [bJ];simp only [aA];omega
 have HLL:=ae (Dk w3 g cb (co+3) B n1 b c.rules v3 _ HN1.out (by omega) e4 hcb (Nw.out.keep y7) HRF.out (by omega) hs3);clear hs3 hk3 hb3 y7 HC2 d2 VY;go_wp2_with fail;refine HLL.out.mono ?_;rintro e w4 ⟨rfl,v4,hs4,hk4⟩;have yf:=ae hs4;have IX:=ae (kU.out.trans hk4);clear hs4 hk4 HLL hsame d3 e3 f3 e4;go_wp2_with fail
 go_end0
 exact ⟨rfl,v4,by unfold CQ;rw [HN.out,HN1.out,En.out];have h:=yf.out;simpa only [List.append_assoc] using h,IX.out⟩
theorem IE (w:World) (g eb eo:Nat) (x:dm) (v:Value) (bs:List UInt8) (h:nO x.e.z) (hs:x.e.name.size≤32) (hr:w.rangeAt eb eo x.cells.toList) (hfz:w.frozen? ⟨eb,eo+1+2,none⟩=false) (heb:eb<g) (hA:gW w g x.s x.e.z)
  (hl:bs.length≤9000000) (hst:eu w g v bs):
  Calls Tryz.prog 43 #[.iface 71 (pt g), .pointer (some ⟨eb,eo,none⟩)] w (eG w g v (bs++VE x.e)):=by
 have hgl:=hst.lt;have c0:w.cell? ⟨eb,eo,none⟩=some (.string x.e.name):=hr 0 _ rfl;have uD:Hid (w.rangeAt eb (eo+1) (aF x.e.z.cal x.s.A x.s.a x.s.B x.s.b).toList):=ae fun j u hu=>by
  have hj:j<4:=(iU.1 hu).1;rw [show eo+1+j=eo+(j+1) by omega];refine hr (j+1) u ?_
  match j,hj with
  |0,_=>exact hu
  |1,_=>exact hu
  |2,_=>exact hu
  |3,_=>exact hu
 have c5:w.cell? ⟨eb,eo+1+4,none⟩=some (I x.e.z.start):=hr 5 _ rfl;have c6:w.cell? ⟨eb,eo+1+5,none⟩=some (.slice x.s.C x.e.z.trans.length x.s.c):=hr 6 _ rfl;have c7:w.cell? ⟨eb,eo+1+6,none⟩=some (I x.e.z.hor):=hr 7 _ rfl;have c8:w.cell? ⟨eb,eo+1+7,none⟩=some (.slice x.s.D x.e.z.ay.length x.s.d):=hr 8 _ rfl;have hnl:x.e.name.data.toList.length=x.e.name.size:=by rw [Array.length_toList];rfl
 have hcl:=GI h.cal;have htl:=h.MV;have hyl:x.e.z.ay.length≤2:=by rcases h.yr with hy|⟨r0,r1,hy,_⟩<;>rw [hy]<;>simp
 have Ae:=ae htl;have kX:=ae hyl;have O5:Hid (∀z∈x.e.z.trans,yK z):=ae (fun z hz=>by have:=h.tr z hz;have:=h.hor;unfold yK kV;omega);have HYF:Hid (∀z∈x.e.z.ay,pI z):=ae (fun z hz=>by
  have hz2:wX z:=by
   rcases h.yr with hy|⟨r0,r1,hy,h0,h1⟩
   ·rw [hy] at hz;cases hz
   ·rw [hy] at hz;rcases List.mem_cons.1 hz with rfl|hz
    ·exact h0
    ·rw [List.mem_singleton.1 hz];exact h1
  have a:=hz2.mo;have b:=hz2.wk;have c:=hz2.wd;have d:=hz2.mi;have e:=hz2.of;unfold pI kV;omega)
 clear htl hyl;have jf:=ae (Ec w.drew g ⟨eb,eo,none⟩ v bs x.e.name (by omega) (by omega) hst.drew c0 (by show eb≠g;omega) (dV hst.2 eb (by omega)) (by show eb<w.heap.size;omega));have HST:=ae hst;have HF:=ae h;have HA:=ae hA;have zU:Hid (∀j u,Below g w u→u.cell? ⟨eb,j,none⟩=w.cell? ⟨eb,j,none⟩):=ae fun j u hb=>hb.cell (p:=⟨eb,j,none⟩) heb;have HL:Hid (x.e.name.data.toList.length=x.e.name.size∧(CQ x.e.z.cal).length≤14∧x.e.name.size≤32∧bs.length≤9000000):=ae ⟨hnl,hcl,hs,hl⟩;clear h hr hst hA hnl hcl hs hl;go_enter Tryz.func43,Tryz.ntmps43;go_wp2_with fail;go_still_tail 7,(by kernel_rfl);go_wp2_with fail;refine jf.out.mono ?_;rintro e w1 ⟨rfl,v1,hs1,hk1⟩;obtain ⟨B1,hB1⟩:∃B,bs++(le x.e.name.size 1++x.e.name.data.toList)=B:=⟨_,rfl⟩;have hl1:B1.length≤9000040:=by rw [←hB1];have:=HL.out;simp only [bJ,aA];omega
 rw [hB1] at hs1;have hb1:=bD HST.out (aI hk1);have HB1:=ae hb1;have jQ:=ae hs1;have iP:=ae (aI hk1);have oG:=ae hB1;have HC2:=ae (BB w1 g eb (eo+1) x.e.z.cal x.s.A x.s.a x.s.B x.s.b v1 B1 HF.out.cal (fun j u hu=>(hb1.cell (p:=⟨eb,eo+1+j,none⟩) heb).trans (uD.out j u hu)) ((hb1.frozen (p:=⟨eb,eo+1+2,none⟩) heb).trans hfz) heb (HA.out.au.ints.keep hb1) (HA.out.rules.keep hb1) (by omega) hs1);clear hs1 hk1 hb1 jf hB1 c0;go_wp2_with fail;refine HC2.out.mono ?_;rintro e w2 ⟨rfl,v2,hs2,hk2⟩;obtain ⟨B2,hB2⟩:∃B,B1++CQ x.e.z.cal=B:=⟨_,rfl⟩;have hl2:B2.length≤9000070:=by rw [←hB2];have:=HL.out;simp only [bJ];omega
 rw [hB2] at hs2;have hb2:=HB1.out.trans (bD jQ.out hk2);have HB2:=ae hb2;have HS2:=ae hs2;have jc:=ae (iP.out.trans hk2);have lL:=ae hB2;have N9:=HF.out.start;have oD:=ae (pq w2.drew g ⟨eb,eo+1+4,none⟩ v2 B2 x.e.z.start (by omega) (by omega) (by omega) hs2.drew ((zU.out _ _ hb2).trans c5));clear hs2 hk2 hb2 HC2 hB2 c5 N9;go_wp2_with fail;go_still_tail 7,(by kernel_rfl);go_wp2_with fail;refine oD.out.mono ?_;rintro e w3 ⟨rfl,v3,hs3,hk3⟩;obtain ⟨B3,hB3⟩:∃B,B2++le x.e.z.start 2=B:=⟨_,rfl⟩;have hl3:B3.length≤9000080:=by rw [←hB3];simp only [bJ,aA];omega
 rw [hB3] at hs3;have hb3:=HB2.out.trans (bD HS2.out (aI hk3));have HB3:=ae hb3;have mZ:=ae hs3;have kU:=ae (jc.out.trans (aI hk3));have zZ:=ae hB3;have oM:=ae (BD w3 g eb (eo+1+5) x.s.C x.e.z.trans.length x.s.c x.e.z.trans v3 B3 rfl (by have:=Ae.out;omega) ((zU.out _ _ hb3).trans c6) heb (HA.out.trans.keep hb3) O5.out (by omega) hs3);clear hs3 hk3 hb3 oD hB3 c6;go_wp2_with fail;refine oM.out.mono ?_;rintro e w4 ⟨rfl,v4,hs4,hk4⟩;obtain ⟨B4,hB4⟩:∃B,B3++(le x.e.z.trans.length 2++x.e.z.trans.flatMap gu)=B:=⟨_,rfl⟩;have hl4:B4.length≤9000150:=by rw [←hB4];simp only [bJ,aA,uN gu 10 sJ];have:=Ae.out;omega
 rw [hB4] at hs4;have hb4:=HB3.out.trans (bD mZ.out hk4);have HB4:=ae hb4;have yf:=ae hs4;have IX:=ae (kU.out.trans hk4);have S9:=ae hB4;have hh0:=HF.out.hor;have wW:=ae (bP w4.drew g ⟨eb,eo+1+6,none⟩ v4 B4 x.e.z.hor 8 (by omega) (by omega) (by omega) (by omega) hs4.lt hs4.drew ((zU.out _ _ hb4).trans c7));clear hs4 hk4 hb4 oM hB4 c7 hh0;go_wp2_with fail;go_still_tail 7,(by kernel_rfl);go_wp2_with fail;refine wW.out.mono ?_;rintro e w5 ⟨rfl,v5,hs5,hk5⟩;obtain ⟨B5,Pg⟩:∃B,B4++le x.e.z.hor 8=B:=⟨_,rfl⟩;have hl5:B5.length≤9000160:=by rw [←Pg];simp only [bJ,aA];omega
 rw [Pg] at hs5;have hb5:=HB4.out.trans (bD yf.out (aI hk5));have rC:=ae hs5;have tu:=ae (IX.out.trans (aI hk5));have PM:=ae Pg;have qm:=ae (Dn w5 g eb (eo+1+7) x.s.D x.e.z.ay.length x.s.d x.e.z.ay v5 B5 rfl (by have:=kX.out;omega) ((zU.out _ _ hb5).trans c8) heb (HA.out.ay.keep hb5) HYF.out (by omega) hs5);clear hs5 hk5 hb5 wW Pg c8;go_wp2_with fail;refine qm.out.mono ?_;rintro e w6 ⟨rfl,v6,hs6,hk6⟩;have PO:=ae hs6;have XD:=ae (tu.out.trans hk6);clear hs6 hk6 qm;go_wp2_with fail
 go_end0
 refine ⟨rfl,v6,?_,XD.out⟩;have h:=PO.out;rw [←PM.out,←S9.out,←zZ.out,←lL.out,←oG.out] at h;unfold VE znB;simpa only [List.append_assoc] using h
end Go.Proofs.YtdibbemgpikgjaaGreat
namespace Go.Proofs.YtdibbemgpikgjaaGreat
open Go Go.RowKit
attribute [local go_sem] eQ fA eU fC iZ ja eH eX eP eY wo wu
theorem gG.sm {c:Cal} (h:gG c):∀x∈c.rules,Q3 x:=fun x hx=>by
 have:=h.rl x hx;unfold Q3;omega
def WH (M:Nat) (w:World) (rb cb co:Nat) (t:TypeId) (cs:Array Value) (c:Cal) (R:List UInt8) (e:Ending) (w':World):Prop:=
 e= .returned (.tuple #[])∧∃A a B b,gB M w' rb R∧bU w rb cb t (kJ cs co [I c.aN, .slice A c.au.length a,I c.bu, .slice B c.rules.length b]) w'∧
  w'.ownsRow w.heap.size 3 1 (.slice A c.au.length a) c.au.length (c.au.map I)∧w'.ownsRow w.heap.size 134 3 (.slice B c.rules.length b) c.rules.length (c.rules.flatMap Lr.cells)
theorem Bv (M:Nat) (w:World) (rb cb co:Nat) (t:TypeId) (cs:Array Value) (c:Cal) (R:List UInt8) (hc:gG c) (hr:gB M w rb (CQ c++R)) (hp:w.heap[cb]? =some (.cells cs t (0,0))) (h0:co<cs.size) (h1:cs[co+1]? =some (.slice none 0 0)) (h2:cs[co+2]? =some (I 0)) (h3:cs[co+3]? =some (.slice none 0 0))
  (hM:M≤cb) (hne:cb≠rb):
  Calls Tryz.prog 61 #[.iface 109 (pt rb), .pointer (some ⟨cb,co,none⟩)] w (WH M w rb cb co t cs c R):=by
 have hcl:cb<w.heap.size:=(aZ.1 hp).1;have hlo:=hr.lo;have hrw:=hr.lt;have e1:co+1<cs.size:=(aZ.1 h1).1;have e2:co+2<cs.size:=(aZ.1 h2).1;have e3:co+3<cs.size:=(aZ.1 h3).1;obtain ⟨n,hn⟩:∃n,c.au.length=n:=⟨_,rfl⟩;obtain ⟨m,hm⟩:∃n,c.rules.length=n:=⟨_,rfl⟩;have hn2:n≤16:=by have:=hc.mo;omega
 have hm2:m≤1:=by have:=hc.ru;omega
 have hle:=hc.le;have hr':gB M w.drew rb (le c.aN 4++((le n 1++dn c.au)++(le (c.bu+1) 1++((le m 1++c.rules.flatMap iH)++R)))):=by
  have h:=hr.drew;unfold CQ at h;rw [hn,hm] at h;simpa only [List.append_assoc] using h
 have jf:=ae (dD M w.drew rb cb co 4 t cs c.aN c.aN _ hr' (by omega) (Xh _ hc.ep.1 (by have:=hc.ep.2;omega) _) hp h0 hM hne);have HN:=ae hn;have kD:=ae hm;have HM:Hid (∀z∈c.au,0≤z∧z<256):=ae fun z hz=>by have:=hc.all z hz;omega
 have HRU:=ae hc.sm;have HX:Hid (cs[co+1]? =some (.slice none 0 0)∧cs[co+2]? =some (I 0)∧cs[co+3]? =some (.slice none 0 0)):=ae ⟨h1,h2,h3⟩;obtain ⟨lp,hlp⟩:∃l,c.bu=l:=⟨_,rfl⟩;rw [hlp] at hle;rw [hlp] at jf;have En:=ae hlp;have hlpw:IntKind.i64.wrap (lp+1)=lp+1:=by rw [IntKind.wrap_i64];omega
 have hlpv:IntKind.i64.wrap (lp+1 - 1)=lp:=by rw [IntKind.wrap_i64];omega
 clear hc hr hr' hp hn hm h1 h2 h3 hlp;unfold WH;go_enter Tryz.func61,Tryz.ntmps61;go_wp2_with fail;go_still_tail 7,(by kernel_rfl);go_wp2_with fail;refine jf.out.mono ?_;rintro e w1 ⟨rfl,hr1,hp1⟩;have mY:=ae hp1.dB;have HL:=ae (Eb M w1 rb cb (co+1) n t (cs.setIfInBounds co (I c.aN)) c.au _ HN.out (by omega) HM.out hr1 hp1.tgt (by rw [Array.getElem?_setIfInBounds_ne (by omega)];exact HX.out.1) hM hne);clear hr1 hp1 jf;go_wp2_with fail;refine HL.out.mono ?_;rintro e w2 ⟨rfl,A,a,hr2,hp2,ho2⟩;obtain ⟨C2,hC2⟩:∃C,(cs.setIfInBounds co (I c.aN)).setIfInBounds (co+1) (.slice A n a)=C:=⟨_,rfl⟩;rw [hC2] at hp2;have g2:C2[co+2]? =some (I 0):=by rw [←hC2,Array.getElem?_setIfInBounds_ne (by omega),Array.getElem?_setIfInBounds_ne (by omega)];exact HX.out.2.1
 have g3:C2[co+3]? =some (.slice none 0 0):=by rw [←hC2,Array.getElem?_setIfInBounds_ne (by omega),Array.getElem?_setIfInBounds_ne (by omega)];exact HX.out.2.2
 have HP2:=ae (mY.out.trans hp2);have kW:=ae (aX ho2 mY.out.size);have lL:=ae hC2;have d2:w2.cell? ⟨cb,co+2,none⟩=some (I 0):=(hp2.cell (co+2)).trans g2;have hs2:=hp2.size;have hs1:=mY.out.size;have hb2:=ag w2 (.cells #[I 1] 3);have HB2:=ae hb2;have hrl:=hr2.lt;have HC2:=ae (dD M (w2.alloc (.cells #[I 1] 3)) rb w2.heap.size 0 1 3 #[I 1] (lp+1) (lp+1) _ (hr2.below hb2 hrl) (by omega) (jA _ (by omega) (by omega) _) (heap_alloc_last w2 _) (by decide) (by omega) (by omega));clear hr2 hp2 ho2 hC2 HL hb2;go_wp2_with fail;refine HC2.out.mono ?_;rintro e w3 ⟨rfl,hr3,hp3⟩;have d3:w3.cell? ⟨w2.heap.size,0,none⟩=some (I (lp+1)):=hp3.cell 0;have hs3:=hp3.size;rw [World.size_alloc] at hs3;have hk3:kM rb w2 w3:=⟨hp3.os,hp3.tape,hp3.output,by omega,fun b hb hbr=>(hp3.block b (by simp;omega) (by omega) hbr).trans (HB2.out.block b hb)⟩;have vV:bU w rb cb t C2 w3:=HP2.out.mP hk3 (by omega) hne;have e3':w3.cell? ⟨cb,co+2,none⟩=some (I 0):=(vV.cell (co+2)).trans g2;have f3:=vV.gm (co+2);have qo:=ae (vV.put (co+2) (I lp));have HR4:=ae (hr3.put (o:=co+2) hM hne (I lp));have ho3:w3.ownsRow w.heap.size 3 1 (.slice A n a) n (c.au.map I):=jC kW.out hk3 hrw;have uF:=ae (dA (u:=I lp) (p:=⟨cb,co+2,none⟩) ho3 (dV ho3 cb hcl));clear hr3 hp3 hk3 vV HC2 ho3 d2;go_wp2_with fail;obtain ⟨w4,hw4⟩:∃W,w3.setCell ⟨cb,co+2,none⟩ (I lp)=W:=⟨_,rfl⟩;rw [hw4] at qo HR4 uF ⊢;refine (KD M w4 rb cb (co+3) m t _ c.rules R kD.out (by omega) HRU.out HR4.out qo.out.tgt (by rw [Array.getElem?_setIfInBounds_ne (by omega)];exact g3) hM hne).mono ?_;rintro e w5 ⟨rfl,B,b,oL,vW,Xa,_⟩;have oN:=ae oL;have qQ:=ae (aY uF.out (fun b h1 h2=>vW.block b h2 (by omega) (by omega)));have kT:=ae (aX Xa qo.out.size);have Eo:=ae (qo.out.trans vW);clear oL vW Xa hw4 d3 e3' f3 g2 g3;go_wp2_with fail
 go_end0
 rw [HN.out,kD.out,En.out];refine ⟨rfl,A,a,B,b,oN.out,?_,qQ.out,kT.out⟩;have h:=Eo.out;rw [←lL.out] at h;exact h
end Go.Proofs.YtdibbemgpikgjaaGreat
