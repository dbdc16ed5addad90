/- The texts Jg, Ke, Kf, Ng2, Ns0, Nh, Js, Jh, Jy, in this order. -/
import Derived.Test.YtbaehbbonkljpaaGreatDoorS00
import Derived.Shelf.SlSortCmp.WholeK
import Derived.Shelf.SlicesG.Cmp
import Derived.Shelf.SlSortCmp.NoneTotal
import Derived.Test.YtbaehbbonkljpaaGreatDoorS02
import Derived.Test.YtbaehbbonkljpaaGreatDoorS07
import Derived.Test.YtbaehbbonkljpaaGreatDoorS08
import Derived.Test.YtbaehbbonkljpaaGreatDoorS09
set_option maxRecDepth 10000
set_option maxHeartbeats 8000000
namespace Go.Proofs.YtbaehbbonkljpaaGreatDoor
open Go Go.RowKit
structure ui (n:Nat) (r:Yr):Prop where
 mo:1<=r.month/\r.month<=(n:Int)
 wk:1<=r.cZ/\r.cZ<=5
 wd:0<=r.dh/\r.dh<=6
 mi:0<=r.minute/\r.minute<1440
 of: -1080<=r.off/\r.off<=1080
def Q8 (c:Cal) (bg y:Int) (r:Yr):Int×Bool:=Qe r.dh r.cZ (bg+jZ c y (r.month - 1).toNat) (vJ c y (r.month - 1).toNat)
theorem Vw (c:Cal) (A R:Option Addr) (a r:Nat) (bg y:Int) (x:Yr) (w:World) (hc:fJ c) (h:qj w w.heap.size A R c) (hb:0<=bg) (hb2:bg<=100000000) (hr:ui c.au.length x):
  Calls Tryz.prog 109 #[.agg (aI c A a R r),I bg,I y, .agg #[I x.month,I x.cZ,I x.dh,I x.minute,I x.off]] w (Gives (.tuple #[I (Q8 c bg y x).1, .bool (Q8 c bg y x).2]) w):=by
 have hm:=hr.mo;have hwk:=hr.wk;have hwd:=hr.wd;clear hr;obtain ⟨mo,wk,wd,mi,of⟩:=x;simp only at hm hwk hwd ⊢;obtain ⟨M,rfl⟩:∃M:Nat,mo=(M:Int)+1:=⟨(mo - 1).toNat,by omega⟩;have h16:=hc.ml;have hMn:M<c.au.length:=by omega
 have qV:Hid (∀m,m<c.au.length->∀W,Below w.heap.size w W->Calls Tryz.prog 126 #[.agg (aI c A a R r),I y,I ((m:Int)+1)] W (Gives (I (vJ c y m)) W)):=ae fun m hm W hb=>Qx c A R a r y m W hc (h.grow hb) hm;have oO:=ae (fun k (hk:k<=c.au.length)=>rZ c y hc k hk);have VX:=ae (fun k (hk:k<c.au.length)=>wP c y k hc hk);have h1:=oO.out M (by omega);have h2:=VX.out M (by omega);obtain ⟨res,hres⟩:∃res,Q8 c bg y ⟨(M:Int)+1,wk,wd,mi,of⟩=res:=⟨_,rfl⟩;rw [hres];unfold Q8 Qe at hres;simp only at hres;rw [show ((M:Int)+1 - 1).toNat=M by omega] at hres;obtain ⟨b0,hb0⟩:∃b,bg+jZ c y M=b:=⟨_,rfl⟩;obtain ⟨n,hn⟩:∃n,vJ c y M=n:=⟨_,rfl⟩;have tN:=ae hb0;have HQ:=ae hn;rw [hb0,hn] at hres;rw [hn] at h2;have hb01:0<=b0/\b0<=100001000:=by omega
 obtain ⟨nm,hnm⟩:∃n,c.au.length=n:=⟨_,rfl⟩;rw [hnm] at hMn h16 qV;simp only [hnm] at oO VX;obtain ⟨ep,lp,A',R',n0,n1,hcs⟩:∃ep lp,∃A' R':Option Addr,∃n m:Nat,aI c A a R r= #[I ep, .slice A' n a,I lp, .slice R' m r]:=⟨_,_,_,_,_,_,rfl⟩;rw [hcs] at qV ⊢;obtain ⟨p,hp⟩:∃p,(wd - b0)%7=p:=⟨_,rfl⟩;have hp0:0<=p/\p<7:=by omega
 obtain ⟨p2,hp2⟩:∃p,(b0+n - 1 - wd)%7=p:=⟨_,rfl⟩;have hp3:0<=p2/\p2<7:=by omega
 have HWD:=ae (fun W=>zH (wd - b0) W);have HWE:=ae (fun W=>zH (b0+n - 1 - wd) W);rw [hp] at HWD hres;rw [hp2] at HWE hres;clear hcs hn hc h hnm hb0 hp hp2 h1 hm;by_cases h5:wk=5
 ·subst h5;rw [if_pos rfl] at hres;have rF:=ae hres;clear hres;have yt:=ae (qp.NF w 0 65 110 #[I ep, .slice A' n0 a,I lp, .slice R' n1 r] #[I ((M:Int)+1),I 5,I wd,I mi,I of]);go_enter Tryz.func109,Tryz.ntmps109;go_wp2_with fail;generalize (w.alloc (.cells #[I ep, .slice A' n0 a,I lp, .slice R' n1 r] 65)).alloc (.cells #[I ((M:Int)+1),I 5,I wd,I mi,I of] 110)=W0 at yt ⊢
  go_loopw [1,10] (fun s i wr=>∃k:Nat,k<=M/\s=I (bg+jZ c y k)/\i=I ((k:Int)+1)/\qp w 0 #[I ep, .slice A' n0 a,I lp, .slice R' n1 r] #[I ((M:Int)+1),I 5,I wd,I mi,I of] wr) (fun _ i _=>M+1 - (intOf i).toNat)
  case atStart=>exact ⟨0,Nat.zero_le _,by rw [show bg+jZ c y 0=bg from Int.add_zero bg],rfl,yt.out⟩
  case round=>
   obtain ⟨k,hk,rfl,rfl,hv⟩:=hrel;have HV:=ae hv;clear hv yt;by_cases hlt:k<M
   ·have i1:(k:Int)+1<(M:Int)+1:=by omega
    have b1:=oO.out k (by omega);have b2:=VX.out k (by omega);have HC:=ae (qV.out k (by omega) wr HV.out.up);have AL:Hid (jZ c y (k+1)=jZ c y k+vJ c y k):=ae rfl;obtain ⟨s,hs⟩:∃s,jZ c y k=s:=⟨_,rfl⟩;obtain ⟨q,hq⟩:∃s,vJ c y k=s:=⟨_,rfl⟩;rw [hs,hq] at AL;rw [hq] at HC b2;rw [hs] at b1 ⊢;have sw:IntKind.i64.wrap (bg+s+q)=bg+s+q:=by rw [IntKind.wrap_i64];omega
    have sw2:IntKind.i64.wrap ((k:Int)+1+1)=(k:Int)+1+1:=by rw [IntKind.wrap_i64];omega
    clear hs hq;have v0:wr.cell? ⟨w.heap.size,0,none⟩=some (I ep):=HV.out.a.2 0;have v1:wr.cell? ⟨w.heap.size,1,none⟩=some (.slice A' n0 a):=HV.out.a.2 1;have v2:wr.cell? ⟨w.heap.size,2,none⟩=some (I lp):=HV.out.a.2 2;have v3:wr.cell? ⟨w.heap.size,3,none⟩=some (.slice R' n1 r):=HV.out.a.2 3;have u0:wr.cell? ⟨w.heap.size+1,0,none⟩=some (I ((M:Int)+1)):=HV.out.b.2 0;have u1:wr.cell? ⟨w.heap.size+1,1,none⟩=some (I 5):=HV.out.b.2 1;have u2:wr.cell? ⟨w.heap.size+1,2,none⟩=some (I wd):=HV.out.b.2 2;go_wp2_with fail;refine HC.out.mono ?_;rintro e w1 ⟨rfl,hb1⟩;have nD:=ae (HV.out.below hb1);clear hb1 HV v0 v1 v2 v3 u0 u1 u2 HC;go_wp2_with fail;go_roundw
    case rel=>exact ⟨k+1,by omega,by rw [AL.out];go_num,by go_num,nD.out⟩
    case measure=>simp [intOf];omega
   ·have hkM:k=M:=by omega
    have hlt':¬(k:Int)+1<(M:Int)+1:=by omega
    have HC:=ae (qV.out M hMn wr HV.out.up);rw [hkM,tN.out];rw [hkM] at hlt';rw [HQ.out] at HC;clear hlt hkM hk;have v0:wr.cell? ⟨w.heap.size,0,none⟩=some (I ep):=HV.out.a.2 0;have v1:wr.cell? ⟨w.heap.size,1,none⟩=some (.slice A' n0 a):=HV.out.a.2 1;have v2:wr.cell? ⟨w.heap.size,2,none⟩=some (I lp):=HV.out.a.2 2;have v3:wr.cell? ⟨w.heap.size,3,none⟩=some (.slice R' n1 r):=HV.out.a.2 3;have u0:wr.cell? ⟨w.heap.size+1,0,none⟩=some (I ((M:Int)+1)):=HV.out.b.2 0;have u1:wr.cell? ⟨w.heap.size+1,1,none⟩=some (I 5):=HV.out.b.2 1;have u2:wr.cell? ⟨w.heap.size+1,2,none⟩=some (I wd):=HV.out.b.2 2;go_wp2_with fail;refine HC.out.mono ?_;rintro e w2 ⟨rfl,hb2⟩;have HX:=ae (HV.out.below hb2);clear v0 v1 v2 v3 u0 u1 u2 hb2 HV HC;have u1:w2.cell? ⟨w.heap.size+1,1,none⟩=some (I 5):=HX.out.b.2 1;have u2:w2.cell? ⟨w.heap.size+1,2,none⟩=some (I wd):=HX.out.b.2 2;go_wp2_with fail;refine (HWD.out _).mono ?_;rintro e w3 ⟨rfl,rfl⟩;go_wp2_with fail;refine (HWE.out _).mono ?_;rintro e w4 ⟨rfl,rfl⟩;go_wp2_with fail;go_ret2;exact ⟨by rw [<-rF.out];rfl,HX.out.up⟩
 ·rw [if_neg h5] at hres;have rF:=ae hres;clear hres;have yt:=ae (qp.NF w 0 65 110 #[I ep, .slice A' n0 a,I lp, .slice R' n1 r] #[I ((M:Int)+1),I wk,I wd,I mi,I of]);go_enter Tryz.func109,Tryz.ntmps109;go_wp2_with fail;generalize (w.alloc (.cells #[I ep, .slice A' n0 a,I lp, .slice R' n1 r] 65)).alloc (.cells #[I ((M:Int)+1),I wk,I wd,I mi,I of] 110)=W0 at yt ⊢
  go_loopw [1,10] (fun s i wr=>∃k:Nat,k<=M/\s=I (bg+jZ c y k)/\i=I ((k:Int)+1)/\qp w 0 #[I ep, .slice A' n0 a,I lp, .slice R' n1 r] #[I ((M:Int)+1),I wk,I wd,I mi,I of] wr) (fun _ i _=>M+1 - (intOf i).toNat)
  case atStart=>exact ⟨0,Nat.zero_le _,by rw [show bg+jZ c y 0=bg from Int.add_zero bg],rfl,yt.out⟩
  case round=>
   obtain ⟨k,hk,rfl,rfl,hv⟩:=hrel;have HV:=ae hv;clear hv yt;by_cases hlt:k<M
   ·have i1:(k:Int)+1<(M:Int)+1:=by omega
    have b1:=oO.out k (by omega);have b2:=VX.out k (by omega);have HC:=ae (qV.out k (by omega) wr HV.out.up);have AL:Hid (jZ c y (k+1)=jZ c y k+vJ c y k):=ae rfl;obtain ⟨s,hs⟩:∃s,jZ c y k=s:=⟨_,rfl⟩;obtain ⟨q,hq⟩:∃s,vJ c y k=s:=⟨_,rfl⟩;rw [hs,hq] at AL;rw [hq] at HC b2;rw [hs] at b1 ⊢;have sw:IntKind.i64.wrap (bg+s+q)=bg+s+q:=by rw [IntKind.wrap_i64];omega
    have sw2:IntKind.i64.wrap ((k:Int)+1+1)=(k:Int)+1+1:=by rw [IntKind.wrap_i64];omega
    clear hs hq;have v0:wr.cell? ⟨w.heap.size,0,none⟩=some (I ep):=HV.out.a.2 0;have v1:wr.cell? ⟨w.heap.size,1,none⟩=some (.slice A' n0 a):=HV.out.a.2 1;have v2:wr.cell? ⟨w.heap.size,2,none⟩=some (I lp):=HV.out.a.2 2;have v3:wr.cell? ⟨w.heap.size,3,none⟩=some (.slice R' n1 r):=HV.out.a.2 3;have u0:wr.cell? ⟨w.heap.size+1,0,none⟩=some (I ((M:Int)+1)):=HV.out.b.2 0;have u1:wr.cell? ⟨w.heap.size+1,1,none⟩=some (I wk):=HV.out.b.2 1;have u2:wr.cell? ⟨w.heap.size+1,2,none⟩=some (I wd):=HV.out.b.2 2;go_wp2_with fail;refine HC.out.mono ?_;rintro e w1 ⟨rfl,hb1⟩;have nD:=ae (HV.out.below hb1);clear hb1 HV v0 v1 v2 v3 u0 u1 u2 HC;go_wp2_with fail;go_roundw
    case rel=>exact ⟨k+1,by omega,by rw [AL.out];go_num,by go_num,nD.out⟩
    case measure=>simp [intOf];omega
   ·have hkM:k=M:=by omega
    have hlt':¬(k:Int)+1<(M:Int)+1:=by omega
    have HC:=ae (qV.out M hMn wr HV.out.up);rw [hkM,tN.out];rw [hkM] at hlt';rw [HQ.out] at HC;clear hlt hkM hk;have v0:wr.cell? ⟨w.heap.size,0,none⟩=some (I ep):=HV.out.a.2 0;have v1:wr.cell? ⟨w.heap.size,1,none⟩=some (.slice A' n0 a):=HV.out.a.2 1;have v2:wr.cell? ⟨w.heap.size,2,none⟩=some (I lp):=HV.out.a.2 2;have v3:wr.cell? ⟨w.heap.size,3,none⟩=some (.slice R' n1 r):=HV.out.a.2 3;have u0:wr.cell? ⟨w.heap.size+1,0,none⟩=some (I ((M:Int)+1)):=HV.out.b.2 0;have u1:wr.cell? ⟨w.heap.size+1,1,none⟩=some (I wk):=HV.out.b.2 1;have u2:wr.cell? ⟨w.heap.size+1,2,none⟩=some (I wd):=HV.out.b.2 2;go_wp2_with fail;refine HC.out.mono ?_;rintro e w2 ⟨rfl,hb2⟩;have HX:=ae (HV.out.below hb2);clear v0 v1 v2 v3 u0 u1 u2 hb2 HV HC;have u1:w2.cell? ⟨w.heap.size+1,1,none⟩=some (I wk):=HX.out.b.2 1;have u2:w2.cell? ⟨w.heap.size+1,2,none⟩=some (I wd):=HX.out.b.2 2;go_wp2_with fail;refine (HWD.out _).mono ?_;rintro e w3 ⟨rfl,rfl⟩;go_wp2_with fail;go_ret2;exact ⟨by rw [<-rF.out];rfl,HX.out.up⟩
def jI (ts:List Tr) (i:Nat):Int:=(ts[i]?.map (·.off)).getD 0
def rf (ts:List Tr) (size t:Int):Int:=if gU ts 0<t then (t - gU ts 0).tdiv size else 0
def eY (ts:List Tr) (size t:Int):Tr×Bool:=
 if ts.length=0 then (⟨0,0⟩,false)
 else match (List.range ts.length).find? (fun j=>decide (t<=gU ts j+rf ts size t*size)) with
  |some j=>(⟨gU ts j+rf ts size t*size,jI ts j⟩,true)
  |none=>(⟨gU ts 0+(rf ts size t+1)*size,jI ts 0⟩,true)
theorem yA {ts:List Tr} {size t q:Int} {n k:Nat} (hq:rf ts size t=q) (hl:ts.length=n) (hk:k<n) (h:∀j,j<k->gU ts j+q*size<t) (h1:t<=gU ts k+q*size):eY ts size t=(⟨gU ts k+q*size,jI ts k⟩,true):=by
 have hf:(List.range ts.length).find? (fun j=>decide (t<=gU ts j+q*size))=some k:=by
  rw [List.find?_range_eq_some];exact ⟨decide_eq_true h1,List.mem_range.2 (by omega),fun j hj=>by have:=h j hj;simp;omega⟩
 unfold eY;rw [if_neg (by omega),hq,hf]
theorem BB {ts:List Tr} {size t q:Int} {n:Nat} (hq:rf ts size t=q) (hl:ts.length=n) (hk:0<n) (h:∀j,j<n->gU ts j+q*size<t):eY ts size t=(⟨gU ts 0+(q+1)*size,jI ts 0⟩,true):=by
 have hf:(List.range ts.length).find? (fun j=>decide (t<=gU ts j+q*size))=none:=by
  rw [List.find?_range_eq_none];intro j hj;have:=h j (by omega);simp;omega
 unfold eY;rw [if_neg (by omega),hq,hf]
theorem uV {lo g n cp:Nat} {W:World} {ts:List Tr} (h:iO lo W (some ⟨g,0,none⟩) n cp ts) (hl:ts.length=n) (k:Nat) (hk:k<n):W.cell? ⟨g,k*2+1,none⟩=some (I (jI ts k)):=by
 have hx:ts[k]? =some ts[k]:=bK (by omega);rw [World.ownsRow.cellAt h (k*2+1) (by omega),flat_get (s:=2) Tr.cells ts (fun _ _=>rfl) k 1 _ hx (by omega)];unfold jI;rw [hx];rfl
theorem NM (n l:Int) (w:World) (hl:0<=l) (hl2:l<=4000000000000000):Calls Tryz.prog 75 #[I n,I l] w fun e w'=>e= .returned (.bool (decide (-l<=n)&&decide (n<=l)))/\w'=w:=by
 by_cases h: -l<=n
 ·have HH:=ae h;go_enter Tryz.func75,Tryz.ntmps75;go_wp2_with fail;go_ret;exact ⟨by simp [HH.out],rfl⟩
 ·have HH:=ae h;go_enter Tryz.func75,Tryz.ntmps75;go_wp2_with fail;go_ret;exact ⟨by rw [decide_eq_false (show¬ -l<=n by have:=HH.out;omega)];rfl,rfl⟩
structure Oj (z:Zn):Prop where
 cal:KN z.cal
 start: -1080<=z.start/\z.start<=1080
 hor:0<=z.hor/\z.hor<=1000000
 QS:z.trans.length<=3
 tr:∀x∈z.trans,(-1080<=x.off/\x.off<=1080)/\0<=x.at_/\x.at_<z.hor
 gap:∀i,i+1<z.trans.length->gU z.trans i+2160<=gU z.trans (i+1)
 yr:z.aH= []\/∃r0 r1,z.aH= [r0,r1]/\YrS r0/\YrS r1
theorem xN {w W:World} {C:Option Addr} {ts:List Tr} (h:aA w w.heap.size C (ts.flatMap Tr.cells)) (hb:Below w.heap.size w W) (h0:0<ts.length):∃b off,C=some ⟨b,off,none⟩/\∀k,k<ts.length->W.cell? ⟨b,off+k*2,none⟩=some (I (gU ts k))/\W.cell? ⟨b,off+k*2+1,none⟩=some (I (jI ts k)):=by
 obtain ⟨b,off,e,hb1,hcl⟩:=h.there (by rw [bZ (s:=2) Tr.cells _ fun _ _=>rfl];omega);refine ⟨b,off,e,fun k hk=>?_⟩;have hx:ts[k]? =some ts[k]:=bK hk;have hr:=aS (aA.elem (s:=2) (fun _ _=>rfl) hcl k _ hx) hb hb1;have e1:gU ts k=ts[k].at_:=by unfold gU;rw [hx];rfl
 have e2:jI ts k=ts[k].off:=by unfold jI;rw [hx];rfl
 rw [e1,e2];exact ⟨hr 0 _ rfl,hr 1 _ rfl⟩
theorem Oj.at_bd {z:Zn} (h:Oj z) (k:Nat) (hk:k<z.trans.length):(-1080<=jI z.trans k/\jI z.trans k<=1080)/\0<=gU z.trans k/\gU z.trans k<z.hor:=by
 have hx:z.trans[k]? =some z.trans[k]:=bK hk;have e1:gU z.trans k=z.trans[k].at_:=by unfold gU;rw [hx];rfl
 have e2:jI z.trans k=z.trans[k].off:=by unfold jI;rw [hx];rfl
 rw [e1,e2];exact h.tr _ (List.getElem_mem hk)
theorem Qo (ts:List Tr) (t:Tr):(rP ts t).Perm (ts++ [t]):=by
 unfold rP;refine (List.perm_middle).trans ?_;rw [List.take_append_drop];exact (List.perm_append_comm (l₁:= [t]) (l₂:=ts))
theorem MR {ts us:List Tr} (t:Tr) (h:ts.Perm us):(rP ts t).Perm (us++ [t]):=(Qo ts t).trans (List.Perm.append_right [t] h)
theorem Gl {ts:List Tr} {size:Int} (h:eH ts size=true) (i:Nat) (hi:i<ts.length):2160<=lq ts size i:=by
 unfold eH at h;rw [List.all_eq_true] at h;exact of_decide_eq_true (h i (List.mem_range.2 hi))
theorem XN {ts:List Tr} {size:Int} (h:eH ts size=true):∀(k i:Nat),i+k+1<ts.length->gU ts i<gU ts (i+k+1):=by
 intro k
 induction k with
 |zero=>
  intro i hi;have:=Gl h i (by omega);unfold lq at this;rw [if_pos (by omega)] at this;rw [Nat.add_zero];omega
 |succ k ih=>
  intro i hi;have h1:=ih i (by omega);have h2:=Gl h (i+k+1) (by omega);unfold lq at h2;rw [if_pos (by omega)] at h2;rw [show i+(k+1)+1=i+k+1+1 by omega];omega
theorem F5 {ts:List Tr} {i:Nat} (hi:i<ts.length):gU ts i=ts[i].at_:=by
 unfold gU;rw [bK hi];rfl
theorem Qi {ts:List Tr} {size:Int} (h:eH ts size=true):ts.Pairwise (fun a b=>a.at_<b.at_):=by
 rw [List.pairwise_iff_getElem];intro i j hi hj hij;have:=XN h (j - i - 1) i (by omega);rw [show i+(j - i - 1)+1=j by omega,F5 hi,F5 hj] at this;exact this
theorem uT {ts us:List Tr} {size:Int} (h:eH ts size=true) (hp:us.Perm ts) (hs:us.Pairwise (fun a b=>a.at_<=b.at_)):us=ts:=by
 have hw:=Qi h;refine List.Perm.eq_of_pairwise (le:=fun a b=>a.at_<=b.at_) ?_ hs (hw.imp (fun h=>by omega)) hp;intro a b ha hb h1 h2;obtain ⟨i,hi,rfl⟩:=List.mem_iff_getElem.1 (hp.mem_iff.1 ha);obtain ⟨j,hj,rfl⟩:=List.mem_iff_getElem.1 hb;rw [List.pairwise_iff_getElem] at hw;rcases Nat.lt_trichotomy i j with h3|h3|h3
 ·have:=hw i j hi hj h3;omega
 ·subst h3;rfl
 ·have:=hw j i hj hi h3;omega
section
open Go.Shelf
def NC:Go.Shelf.Ren:=⟨fun|6=>111|15=>130|14=>129|28=>144|29=>145|20=>136|21=>137|22=>138|23=>139|24=>140|25=>141|26=>142|27=>143|46=>149|47=>150|48=>151|49=>152|50=>153|57=>156|n=>n,fun|22=>66|24=>108|25=>207|3=>3|39=>216|0=>0|53=>154|55=>143|4=>4|46=>230|45=>229|50=>87|5=>5|9=>9|66=>238|70=>125|76=>246|77=>223|n=>n,fun|n=>n⟩
theorem U1:SlLaysF0.n6 Tryz.prog NC:= {
 mixed:=by kernel_rfl
 f6:=⟨Tryz.f111.name,by decide,Tryz.func111.trans (congrArg some (by kernel_rfl))⟩
 f14:=⟨Tryz.f129.name,by decide,Tryz.func129.trans (congrArg some (by kernel_rfl))⟩
 f15:=Tryz.func130.trans (congrArg some (by kernel_rfl))
 f20:=⟨Tryz.f136.name,by decide,Tryz.func136.trans (congrArg some (by kernel_rfl))⟩
 f21:=⟨Tryz.f137.name,by decide,Tryz.func137.trans (congrArg some (by kernel_rfl))⟩
 f22:=⟨Tryz.f138.name,by decide,Tryz.func138.trans (congrArg some (by kernel_rfl))⟩
 f23:=⟨Tryz.f139.name,by decide,Tryz.func139.trans (congrArg some (by kernel_rfl))⟩
 f24:=⟨Tryz.f140.name,by decide,Tryz.func140.trans (congrArg some (by kernel_rfl))⟩
 f25:=⟨Tryz.f141.name,by decide,Tryz.func141.trans (congrArg some (by kernel_rfl))⟩
 f26:=⟨Tryz.f142.name,by decide,Tryz.func142.trans (congrArg some (by kernel_rfl))⟩
 f27:=⟨Tryz.f143.name,by decide,Tryz.func143.trans (congrArg some (by kernel_rfl))⟩
 f28:=Tryz.func144.trans (congrArg some (by kernel_rfl))
 f29:=Tryz.func145.trans (congrArg some (by kernel_rfl))
 f46:=⟨Tryz.f149.name,by decide,Tryz.func149.trans (congrArg some (by kernel_rfl))⟩
 f47:=Tryz.func150.trans (congrArg some (by kernel_rfl))
 f48:=Tryz.func151.trans (congrArg some (by kernel_rfl))
 f49:=⟨Tryz.f152.name,by decide,Tryz.func152.trans (congrArg some (by kernel_rfl))⟩
 f50:=⟨Tryz.f153.name,by decide,Tryz.func153.trans (congrArg some (by kernel_rfl))⟩
 f57:=⟨Tryz.f156.name,by decide,Tryz.func156.trans (congrArg some (by kernel_rfl))⟩
 t0:=Tryz.underlying0
 a0:=Tryz.isAgg0
 z0:=Tryz.sizeOf0
 v0:=Tryz.zeroValue0
 t3:=Tryz.underlying3
 a3:=Tryz.isAgg3
 z3:=Tryz.sizeOf3
 v3:=Tryz.zeroValue3
 t4:=Tryz.underlying4
 a4:=Tryz.isAgg4
 z4:=Tryz.sizeOf4
 v4:=Tryz.zeroValue4
 t5:=Tryz.underlying5
 a5:=Tryz.isAgg5
 z5:=Tryz.sizeOf5
 v5:=Tryz.zeroValue5
 t9:=Tryz.underlying9
 a9:=Tryz.isAgg9
 z9:=Tryz.sizeOf9
 v9:=Tryz.zeroValue9
 t22:=Tryz.underlying66
 a22:=Tryz.isAgg66
 z22:=Tryz.sizeOf66
 v22:=Tryz.zeroValue66
 t25:=Tryz.underlying207
 a25:=Tryz.isAgg207
 z25:=Tryz.sizeOf207
 v25:=Tryz.zeroValue207
 t39:=Tryz.underlying216
 a39:=Tryz.isAgg216
 z39:=Tryz.sizeOf216
 v39:=Tryz.zeroValue216
 t45:=Tryz.underlying229
 a45:=Tryz.isAgg229
 z45:=Tryz.sizeOf229
 v45:=Tryz.zeroValue229
 t46:=Tryz.underlying230
 a46:=Tryz.isAgg230
 z46:=Tryz.sizeOf230
 v46:=Tryz.zeroValue230
 t50:=Tryz.underlying87
 a50:=Tryz.isAgg87
 z50:=Tryz.sizeOf87
 v50:=Tryz.zeroValue87
 t53:=Tryz.underlying154
 a53:=Tryz.isAgg154
 z53:=Tryz.sizeOf154
 v53:=Tryz.zeroValue154
 t55:=Tryz.underlying143
 a55:=Tryz.isAgg143
 z55:=Tryz.sizeOf143
 v55:=Tryz.zeroValue143
 t66:=Tryz.underlying238
 a66:=Tryz.isAgg238
 z66:=Tryz.sizeOf238
 v66:=Tryz.zeroValue238
 t70:=Tryz.underlying125
 a70:=Tryz.isAgg125
 z70:=Tryz.sizeOf125
 v70:=Tryz.zeroValue125
 t76:=Tryz.underlying246
 a76:=Tryz.isAgg246
 z76:=Tryz.sizeOf246
 v76:=Tryz.zeroValue246
 t77:=Tryz.underlying223
 a77:=Tryz.isAgg223
 z77:=Tryz.sizeOf223
 v77:=Tryz.zeroValue223}
def L8:Go.Shelf.Ren:=⟨fun|5=>113|7=>131|n=>n,fun|22=>3|3=>3|4=>4|n=>n,fun|n=>n⟩
theorem cmpInt:SlLaysC2.n5 Tryz.prog L8:= {
 mixed:=by kernel_rfl
 f5:=⟨Tryz.f113.name,by decide,Tryz.func113.trans (congrArg some (by kernel_rfl))⟩
 f7:=⟨Tryz.f131.name,by decide,Tryz.func131.trans (congrArg some (by kernel_rfl))⟩
 t3:=Tryz.underlying3
 a3:=Tryz.isAgg3
 z3:=Tryz.sizeOf3
 v3:=Tryz.zeroValue3
 t4:=Tryz.underlying4
 a4:=Tryz.isAgg4
 z4:=Tryz.sizeOf4
 v4:=Tryz.zeroValue4
 t22:=Tryz.underlying3
 a22:=Tryz.isAgg3
 z22:=Tryz.sizeOf3
 v22:=Tryz.zeroValue3}
end
instance:Inhabited Tr:=⟨⟨0,0⟩⟩
def EO (x y:Tr):Int:=Lib.compareInt x.at_ y.at_
theorem Yc (x y:Tr):Go.Proofs.ltOf EO x y=decide (x.at_<y.at_):=by
 unfold Go.Proofs.ltOf EO Lib.compareInt;by_cases h1:x.at_<y.at_
 ·simp [h1]
 ·by_cases h2:y.at_<x.at_<;>simp [h1,h2]
theorem swoTr:Go.Sort.SWO (Go.Proofs.ltOf EO) where
 irrefl x:=by rw [Yc];simp
 trans x y z h1 h2:=by rw [Yc] at*;simp at*;omega
 ntrans x y z h1 h2:=by rw [Yc] at*;simp at*;omega
theorem YL (x y:Tr) (W:World):Calls Tryz.prog 112 #[.agg #[I x.at_,I x.off], .agg #[I y.at_,I y.off]] W fun e w'=>e= .returned (I (EO x y))/\∃q os',w'=Go.Sort.grow (W.drewN q) os':=by
 have hcon:=fun W'=>Go.Proofs.AnyG.cmp_Compare_int cmpInt x.at_ y.at_ W';change∀W',Calls Tryz.prog 113 _ _ _ at hcon;have HC:=ae hcon;clear hcon;unfold EO;generalize Lib.compareInt x.at_ y.at_=r at HC ⊢;go_enter Tryz.func112,Tryz.ntmps112;go_wp2_with fail;refine (HC.out _).mono ?_;rintro e w1 ⟨rfl,rfl⟩;go_wp2_with fail;go_ret;exact ⟨rfl,0,_,by rw [Go.Sort.alloc_eq_grow,Go.Sort.alloc_eq_grow,Go.Sort.grow_grow];rfl⟩
theorem QI {w:World} {g m:Nat} {d:Array Tr} {os:Array Obj} {cur:Array Value} {t:TypeId} (h:w.heap[g]? =some (.cells cur t (0,0))):
  (Go.Proofs.sortWorldK Tr.cells 2 w g 0 m d os).heap[g]? =some (.cells (Go.Sort.putCells id 0 (Go.Sort.flatK Tr.cells 2 d) cur) t (0,0)):=by
 have hg:=(bV.1 h).1;unfold Go.Proofs.sortWorldK Go.Sort.grow Go.Sort.putRowK Go.Sort.putRow Go.Sort.mapBlock Go.Sort.ahead;simp only;rw [Array.getElem?_append_left (by simpa using hg),Array.getElem?_modify,if_pos rfl,h];rfl
theorem ND {w:World} {g m:Nat} {d:Array Tr} {os:Array Obj}:w.grownBy (Go.Proofs.sortWorldK Tr.cells 2 w g 0 m d os) (some g):=by
 refine ⟨rfl,rfl,rfl,?_,fun k hk hn=>?_⟩
 ·unfold Go.Proofs.sortWorldK Go.Sort.grow Go.Sort.putRowK Go.Sort.putRow Go.Sort.mapBlock Go.Sort.ahead;simp
 ·have hne:g≠k:=fun e=>hn (by rw [e]);unfold Go.Proofs.sortWorldK Go.Sort.grow Go.Sort.putRowK Go.Sort.putRow Go.Sort.mapBlock Go.Sort.ahead;simp only;rw [Array.getElem?_append_left (by simpa using hk),Array.getElem?_modify,if_neg hne]
theorem ER (d:Array Tr) (j:Nat) (hj:j<d.size*2):(Go.Sort.flatK Tr.cells 2 d)[j]? =(d.toList.flatMap Tr.cells)[j]? :=by
 have hq:j / 2<d.size:=by omega
 have hx:d.toList[j / 2]? =some d[j / 2]! :=by
  rw [Array.getElem?_toList,Array.getElem?_eq_getElem hq,getElem!_pos d (j / 2) hq]
 have h1:=flat_get (s:=2) Tr.cells d.toList (fun _ _=>rfl) (j / 2) (j%2) d[j / 2]! hx (by omega);rw [show j / 2*2+j%2=j by omega] at h1;rw [h1];unfold Go.Sort.flatK;rw [Array.getElem?_map,Array.getElem?_range,if_pos hj];have h2:j%2=0\/j%2=1:=by omega
 rcases h2 with h2|h2<;>rw [Option.map_some,h2]<;>rfl
theorem U2 {lo g n c m:Nat} {w:World} {ts:List Tr} {d:Array Tr} {os:Array Obj} (h:iO lo w (some ⟨g,0,none⟩) n c ts) (hd:d.size=n):
  iO lo (Go.Proofs.sortWorldK Tr.cells 2 w g 0 m d os) (some ⟨g,0,none⟩) n c d.toList:=by
 obtain ⟨h0,⟨hv,hn⟩|⟨g',cap,cur,hv,hg,hh,hc,hm,hs,ht⟩⟩:=h
 ·cases hv
 ·injection hv with h1 h2 h3;injection h1 with h1;injection h1 with h1;subst h1 h3;have hfl:(d.toList.flatMap Tr.cells).length=n*2:=by rw [bZ (s:=2) Tr.cells _ (fun _ _=>rfl),Array.length_toList,hd]
  refine ⟨hfl, .inr ⟨g,c,_,rfl,hg,QI hh,hc,hm,by rw [<-hs];simp [Go.Sort.putCells],?_⟩⟩;apply List.ext_getElem?;intro j;rw [List.getElem?_take];by_cases hj:j<n*2
  ·rw [if_pos hj,Array.getElem?_toList,<-ER d j (by rw [hd];exact hj)];have hfs:(Go.Sort.flatK Tr.cells 2 d).size=n*2:=by simp [Go.Sort.flatK,hd]
   have hcs:j<cur.size:=by rw [hs];exact dP hj (Nat.mul_le_mul_right 2 hc)
   unfold Go.Sort.putCells;rw [Array.getElem?_mapIdx,Array.getElem?_eq_getElem hcs,Option.map_some,if_pos ⟨Nat.zero_le _,by rw [hfs];omega⟩,Nat.sub_zero,Array.getElem?_eq_getElem (by rw [hfs];exact hj),getElem!_pos _ j (by rw [hfs];exact hj)];rfl
  ·rw [if_neg hj,List.getElem?_eq_none (by rw [hfl];omega)]
structure qW (w:World) (zc:List Value) (cy:Int) (A:Option Addr) (n c:Nat) (ts:List Tr) (W:World):Prop where
 lo:Below w.heap.size w W
 z:AV w.heap.size 69 zc.toArray W
 k:AV (w.heap.size+1) 205 (zc++ [Value.slice A n c,I cy]).toArray W
 own:iO (w.heap.size+2) W A n c ts
 len:ts.length=n
section
variable {w W W':World} {zc:List Value} {cy:Int} {A:Option Addr} {n c:Nat} {ts:List Tr}
theorem qW.grow (h:qW w zc cy A n c ts W) (hb:Below W.heap.size W W'):qW w zc cy A n c ts W':=⟨ah h.lo hb,h.z.below hb,h.k.below hb,h.own.below hb,h.len⟩
theorem qW.drew (h:qW w zc cy A n c ts W):qW w zc cy A n c ts W.drew:=h.grow ((Below.refl _ W).drew)
theorem qW.drewN (h:qW w zc cy A n c ts W) (q:Nat):qW w zc cy A n c ts (W.drewN q):=h.grow (below_drewN' _ _)
theorem qW.setCy (h:qW w zc cy A n c ts W) (h8:zc.length=8) (v:Int):qW w zc v A n c ts (W.setCell ⟨w.heap.size+1,9,none⟩ (I v)):=by
 refine ⟨h.lo.setCell (p:=⟨w.heap.size+1,9,none⟩) (by show w.heap.size<=w.heap.size+1;omega) _,h.z.far (by omega) 9 _,?_,eP (p:=⟨w.heap.size+1,9,none⟩) h.own (eG h.own _ (by show w.heap.size+1<_;omega)),h.len⟩;have h2:=h.k.put 9 (I v);have e:(zc++ [Value.slice A n c,I cy]).toArray.setIfInBounds 9 (I v)=(zc++ [Value.slice A n c,I v]).toArray:=by
  match zc,h8 with
  | [_,_,_,_,_,_,_,_],_=>rfl
 rw [e] at h2;exact h2
theorem qW.add {Wb w6:World} {gg cap:Nat} {x:Tr} (h:qW w zc cy A n c ts W) (h8:zc.length=8) (Ai:Wb=W.alloc (.cells #[I x.at_,I x.off] 108))
  (hown:w6.ownsRow (w.heap.size+2) 108 2 (.slice (Option.some ⟨gg,0,none⟩) (n+1) cap) (n+1) (ts.flatMap Tr.cells++ [I x.at_,I x.off])) (hg:Wb.grownBy w6 (Value.slice A n c).ownBlock):
  qW w zc cy (Option.some ⟨gg,0,none⟩) (n+1) cap (ts++ [x]) (w6.setCell ⟨w.heap.size+1,8,none⟩ (.slice (Option.some ⟨gg,0,none⟩) (n+1) cap)):=by
 have hsb:Wb.heap.size=W.heap.size+1:=by rw [Ai];simp
 have hlt:=h.k.lt;have hbl:∀b,b<W.heap.size->Option.some b≠(Value.slice A n c).ownBlock->w6.heap[b]? =W.heap[b]? :=fun b hb hn=>
  (hg.block b (by omega) hn).trans (by rw [Ai];exact Below.heap_alloc W _ b hb)
 have hlow:=eG h.own;have hset:∀b,b≠w.heap.size+1->(w6.setCell ⟨w.heap.size+1,8,none⟩ (.slice (Option.some ⟨gg,0,none⟩) (n+1) cap)).heap[b]? =w6.heap[b]? :=fun b hb=>heap_setCell_other w6 ⟨w.heap.size+1,8,none⟩ b _ hb;have h1:Below w.heap.size w Wb:=by rw [Ai];exact ah h.lo (ag W _)
 have hob:Wb.ownsRow (w.heap.size+2) 108 2 (.slice A n c) n (ts.flatMap Tr.cells):=by rw [Ai];exact own_below h.own (ag W _)
 have hk6:AV (w.heap.size+1) 205 (zc++ [Value.slice A n c,I cy]).toArray w6:=⟨(hbl _ hlt (hlow _ (by omega))).trans h.k.var⟩;have hup:Below w.heap.size w w6:=di h1 (aX hob (by omega)) h1.size hg;have hgl:=jC hown;refine ⟨hup.setCell (p:=⟨w.heap.size+1,8,none⟩) (by show w.heap.size<=w.heap.size+1;omega) _,⟨(hset _ (by omega)).trans ((hbl _ (by omega) (hlow _ (by omega))).trans h.z.var)⟩,?_,?_,by rw [bF,h.len];rfl⟩
 ·have h2:=hk6.put 8 (.slice (Option.some ⟨gg,0,none⟩) (n+1) cap);have e:(zc++ [Value.slice A n c,I cy]).toArray.setIfInBounds 8 (.slice (Option.some ⟨gg,0,none⟩) (n+1) cap)=(zc++ [Value.slice (Option.some ⟨gg,0,none⟩) (n+1) cap,I cy]).toArray:=by
   match zc,h8 with
   | [_,_,_,_,_,_,_,_],_=>rfl
  rw [e] at h2;exact h2
 ·unfold iO;have e:(ts++ [x]).flatMap Tr.cells=ts.flatMap Tr.cells++ [I x.at_,I x.off]:=by simp [Tr.cells]
  rw [e];exact eP (p:=⟨w.heap.size+1,8,none⟩) hown (fun e=>by
   have:w.heap.size+1=gg:=by simpa [Value.ownBlock] using e
   omega)
theorem qW.sorted {us:List Tr} (h:qW w zc cy A n c ts W) (hl:us.length=n) (ho:iO (w.heap.size+2) W' A n c us) (hg:W.grownBy W' (Value.slice A n c).ownBlock):qW w zc cy A n c us W':=by
 have hlow:=eG h.own;have hlt:=h.k.lt;exact ⟨di h.lo (aX h.own (by omega)) h.lo.size hg,⟨(hg.block _ (by omega) (hlow _ (by omega))).trans h.z.var⟩,⟨(hg.block _ hlt (hlow _ (by omega))).trans h.k.var⟩,ho,hl⟩
end
def KF (rb zb yb yo:Nat) (mi of of2:Int) (yv:Value) (W:World):Prop:=
 W.cell? ⟨rb,3,none⟩=some (I mi)/\W.cell? ⟨rb,4,none⟩=some (I of)/\W.cell? ⟨zb,7,none⟩=some yv/\W.cell? ⟨yb,yo,none⟩=some (I of2)
theorem JG {lo g n c:Nat} {w:World} {ts:List Tr} (h:iO lo w (some ⟨g,0,none⟩) n c ts) (hl:ts.length=n) (hn:n<=10000000):
  Calls Tryz.prog 111 #[.slice (some ⟨g,0,none⟩) n c, .func (.func 112) #[] #[]] w fun e w'=>
   e= .returned (.tuple #[])/\∃us:List Tr,us.Perm ts/\us.Pairwise (fun a b=>a.at_<=b.at_)/\iO lo w' (some ⟨g,0,none⟩) n c us/\w.grownBy w' (some g):=by
 have hH:Go.Sort.HoldsK Tr.cells 2 w g 0 ts.toArray:=by
  intro j hj;have hj2:j<n*2:=by
   have:(Go.Sort.flatK Tr.cells 2 ts.toArray).size=n*2:=by simp [Go.Sort.flatK,hl]
   omega
  have h3:=ER ts.toArray j (by simpa [hl] using hj2);rw [getElem!_pos _ j hj];rw [Array.getElem?_eq_getElem hj] at h3;rw [Nat.zero_add];exact ⟨pJ h j _ h3.symm,Cf h j⟩
 have hg:=jC h;have eg:∀args w,(callFunc 112 args).run Tryz.prog w= .ok (.enter 112 args) w:=enters_of Tryz.func112 (by kernel_rfl) rfl;have hcon:=Go.Proofs.AnyQ.slices_SortFunc U1 2 Tryz.isAgg108 Tryz.sizeOf108 Tr.cells (fun _=>rfl) (fun x v hv=>by simp [Tr.cells] at hv;rcases hv with rfl|rfl<;>rfl) EO swoTr 112 #[] g 0 c ts.toArray w eg (fun _ _ _ _ x y=>YL x y _) hH hg.2 (by simp [hl];omega);rw [show ts.toArray.size=n by simpa using hl] at hcon;refine hcon.mono ?_;rintro e w' ⟨rfl,d',m,os,hp,hs,rfl⟩;obtain ⟨hsz,_,hpm⟩:=hp;have hdn:d'.size=n:=by rw [hsz];simpa using hl
 have e1:d'.extract 0 n=d':=by rw [<-hdn];exact Array.extract_size
 have e2:ts.toArray.extract 0 n=ts.toArray:=by
  have:ts.toArray.size=n:=by simpa using hl
  rw [<-this];exact Array.extract_size
 rw [e1,e2] at hpm;refine ⟨rfl,d'.toList,hpm,?_,U2 h hdn,ND⟩;rw [List.pairwise_iff_getElem];intro i j hi hj hij;have hi':i<d'.size:=by simpa using hi
 have hj':j<d'.size:=by simpa using hj
 have h4:=hs i j (Nat.zero_le _) hij (by omega);rw [Yc,getElem!_pos d' i hi',getElem!_pos d' j hj'] at h4;have h5:=of_decide_eq_false h4;simp only [Array.getElem_toList];omega
theorem JF {lo n c:Nat} {A:Option Addr} {w:World} {ts:List Tr} (h:iO lo w A n c ts) (hl:ts.length=n) (hn:n<=10000000):
  Calls Tryz.prog 111 #[.slice A n c, .func (.func 112) #[] #[]] w fun e w'=>
   e= .returned (.tuple #[])/\∃us:List Tr,us.Perm ts/\us.Pairwise (fun a b=>a.at_<=b.at_)/\iO lo w' A n c us/\w.grownBy w' (Value.slice A n c).ownBlock:=by
 by_cases h0:n=0
 ·subst h0;have ht:ts= []:=List.eq_nil_of_length_eq_zero hl;subst ht;refine (Go.Proofs.AnyF.slices_SortFunc_none {U1 with} A c _ w).mono ?_;rintro e w' ⟨rfl,rfl⟩;exact ⟨rfl,[],List.Perm.refl _,List.Pairwise.nil,h,⟨rfl,rfl,rfl,Nat.le_refl _,fun _ _ _=>rfl⟩⟩
 ·obtain ⟨g,rfl⟩:∃g,A=some ⟨g,0,none⟩:=by
   rcases h.2 with ⟨hv,hz⟩|⟨g,cap,cur,hv,_⟩
   ·exact absurd hz h0
   ·injection hv with h1 _ _;exact ⟨g,h1⟩
  exact JG h hl hn
def pM (c:Cal) (bg y:Int) (r r':Yr) (out:List Tr):List Tr:=if (Q8 c bg y r).2=true then out++ [⟨(Q8 c bg y r).1*1440+r.minute - r'.off,r.off⟩] else out
def pR (c:Cal) (r0 r1:Yr) (stop:Int):Nat->Int->Int->List Tr->List Tr
 |0,_,_,out=>out
 |n+1,bg,y,out=>if bg<stop then pR c r0 r1 stop n (bg+uY c y) (y+1) (pM c bg y r1 r0 (pM c bg y r0 r1 out)) else out
theorem UM {c:Cal} {r0 r1:Yr} {stop bg y:Int} {f:Nat} {ts res:List Tr} (h:pR c r0 r1 stop f bg y ts=res) (hb:bg<stop) (hf:(stop - bg).toNat<=f) (hy:1<=uY c y):
  ∃f',(stop - (bg+uY c y)).toNat<=f'/\pR c r0 r1 stop f' (bg+uY c y) (y+1) (pM c bg y r1 r0 (pM c bg y r0 r1 ts))=res:=by
 cases f with
 |zero=>omega
 |succ f=>exact ⟨f,by omega,by rw [pR,if_pos hb] at h;exact h⟩
theorem QA {c:Cal} {r0 r1:Yr} {stop bg y:Int} {f:Nat} {ts res:List Tr} (h:pR c r0 r1 stop f bg y ts=res) (hb:¬bg<stop):ts=res:=by
 cases f with
 |zero=>exact h
 |succ f=>rw [pR,if_neg hb] at h;exact h
def gy (z:Zn):Int:=match z.aH with| []=>1|_::_=>I9 (Ic z.cal)
def uy (z:Zn):List Tr:=match z.aH with
 | [r0,r1]=>pR z.cal r0 r1 (z.cal.bn+gy z) (gy z).toNat z.cal.bn 1 []
 |_=> []
def tJ (z:Zn):List Tr:=(uy z).mergeSort (fun a b=>decide (a.at_<=b.at_))
theorem uK (z:Zn):(tJ z).Perm (uy z):=List.mergeSort_perm _ _
theorem Dn (z:Zn):(tJ z).Pairwise (fun a b=>a.at_<=b.at_):=by
 have h:=List.pairwise_mergeSort (le:=fun (a b:Tr)=>decide (a.at_<=b.at_)) (fun a b c h1 h2=>by simp only [decide_eq_true_eq] at*;omega) (fun a b=>by simp only [Bool.or_eq_true,decide_eq_true_eq];omega) (uy z);exact h.imp (fun h=>by simpa using h)
theorem ES {ts us:List Tr} {size:Int} (hp:us.Perm ts) (hs:us.Pairwise (fun a b=>a.at_<=b.at_)) (ht:ts.Pairwise (fun a b=>a.at_<=b.at_)):eH us size=eH ts size:=by
 cases h:eH ts size with
 |true=>rw [uT h hp hs,h]
 |false=>
  cases h2:eH us size with
  |false=>rfl
  |true=>
   rw [uT h2 hp.symm ht,h2] at h;cases h
theorem Ja {ts:List Tr} {size:Int} {k:Nat} (hk:k<ts.length) (h:lq ts size k<2160):eH ts size=false:=by
 cases e:eH ts size with
 |false=>rfl
 |true=>
  have:=Gl e k hk;omega
theorem xU (z:Zn) (hc:fJ z.cal):1<=gy z/\gy z<=1836800:=by
 have h1:=Md hc;unfold gy I9;split
 ·omega
 ·split<;>omega
theorem Vu (c:Cal) (bg y:Int) (r:Yr) (hc:fJ c) (hr:ui c.au.length r):bg - 10<=(Q8 c bg y r).1/\(Q8 c bg y r).1<=bg+800:=by
 have h1:=hr.mo;have h2:=rZ c y hc (r.month - 1).toNat (by omega);have h3:=wP c y (r.month - 1).toNat hc (by omega);have h4:=hc.ml;have h5:=hr.wk;unfold Q8 Qe;split
 ·simp only;omega
 ·simp only;omega
def oG (ts:List Tr):Prop:=∀x∈ts, -100000<=x.at_/\x.at_<=10000000000
theorem nG {ts:List Tr} (k:Nat) (h:oG ts): -100000<=gU ts k/\gU ts k<=10000000000:=by
 unfold gU;cases e:ts[k]? with
 |none=>simp
 |some x=>exact h x (gZ e)
theorem Cm (c:Cal) (bg y:Int) (r r':Yr) (ts:List Tr) (hc:fJ c) (hr:ui c.au.length r) (hr':ui c.au.length r') (hb:0<=bg) (hb2:bg<=4000000) (h:oG ts):oG (pM c bg y r r' ts):=by
 have h1:=Vu c bg y r hc hr;have h2:=hr.mi;have h3:=hr'.of;unfold pM;split
 ·intro x hx;rcases List.mem_append.1 hx with hx|hx
  ·exact h x hx
  ·rw [List.mem_singleton.1 hx];simp only;omega
 ·exact h
theorem oG.perm {ts us:List Tr} (h:oG ts) (hp:us.Perm ts):oG us:=fun x hx=>h x (hp.mem_iff.1 hx)
theorem EX (kb:Nat) (cy:Int) (w:World) (h:w.cell? ⟨kb,9,none⟩=some (I cy)) (h0:0<=cy) (h1:cy<=2000000):Calls Tryz.prog 114 #[.pointer (some ⟨kb,0,none⟩)] w fun e w'=>e= .returned (I (cy*1440))/\w'=w:=by
 go_enter Tryz.func114,Tryz.ntmps114;go_wp2_with fail;go_ret;exact ⟨rfl,rfl⟩
theorem wO (kb:Nat) (cy:Int) (w:World) (h:w.cell? ⟨kb,9,none⟩=some (I cy)) (h0:0<=cy) (h1:cy<=2000000) (k:Nat):Calls Tryz.prog 114 #[.pointer (some ⟨kb,0,none⟩)] (w.drewN k) fun e w'=>e= .returned (I (cy*1440))/\∃m,w'=w.drewN m:=
 (EX kb cy (w.drewN k) h h0 h1).mono fun _ _ ⟨h2,h3⟩=>⟨h2,k,h3⟩
def qw (z:Zn):Prop:=z.aH= []\/∃r0 r1,z.aH= [r0,r1]/\ui z.cal.au.length r0/\ui z.cal.au.length r1
def lH (z:Zn) (i:Nat):Prop:=(-1080<=jI z.trans i/\jI z.trans i<=1080)/\(-2251799813685248<=gU z.trans i/\gU z.trans i<=2251799813685248)/\gU z.trans i<z.hor/\(i=0\/2160<=gU z.trans i - gU z.trans (i - 1))
def qF (z:Zn) (i:Nat):Bool:=decide (-1080<=jI z.trans i/\jI z.trans i<=1080)&&(decide (-2251799813685248<=gU z.trans i/\gU z.trans i<=2251799813685248)&&(decide (gU z.trans i<z.hor)&&decide (i=0\/2160<=gU z.trans i - gU z.trans (i - 1))))
theorem gz (z:Zn) (i:Nat):qF z i=true↔lH z i:=by
 unfold qF lH;simp only [Bool.and_eq_true,decide_eq_true_eq]
def wX (n:Nat) (r:Yr):Bool:=decide (1<=r.month/\r.month<=(n:Int))&&(decide (1<=r.cZ/\r.cZ<=5)&&(decide (0<=r.dh/\r.dh<=6)&&(decide (0<=r.minute/\r.minute<1440)&&decide (-1080<=r.off/\r.off<=1080))))
theorem iF (n:Nat) (r:Yr):wX n r=true↔ui n r:=by
 unfold wX;simp only [Bool.and_eq_true,decide_eq_true_eq];exact ⟨fun ⟨h1,h2,h3,h4,h5⟩=>⟨h1,h2,h3,h4,h5⟩,fun ⟨h1,h2,h3,h4,h5⟩=>⟨h1,h2,h3,h4,h5⟩⟩
def Vz (z:Zn):Bool:=match z.aH with
 | []=>true
 | [r0,r1]=>wX z.cal.au.length r0&&wX z.cal.au.length r1
 |_=>false
theorem Q9 (z:Zn):Vz z=true↔qw z:=by
 unfold Vz qw;split
 ·rename_i e;exact ⟨fun _=> .inl e,fun _=>rfl⟩
 ·rename_i r0 r1 e;rw [Bool.and_eq_true,iF,iF];refine ⟨fun ⟨h1,h2⟩=> .inr ⟨r0,r1,e,h1,h2⟩,fun h=>?_⟩;rcases h with h|⟨a,b,e2,h1,h2⟩
  ·rw [e] at h;cases h
  ·rw [e] at e2;injection e2 with e3 e4;injection e4 with e5 _;subst e3 e5;exact ⟨h1,h2⟩
 ·rename_i h1 h2;refine ⟨(fun h=>by cases h),fun h=>?_⟩;rcases h with h|⟨a,b,e2,_⟩
  ·exact absurd h h1
  ·exact absurd e2 (h2 a b)
def yZ (z:Zn):Prop:=0<z.trans.length->(tJ z).length≠0->2160<=(eY (tJ z) (gy z*1440) z.hor).1.at_ - gU z.trans (z.trans.length - 1)
structure Ag (z:Zn):Prop where
 QS:z.trans.length<=512
 cal:fJ z.cal
 st: -1080<=z.start/\z.start<=1080
 ho: -2251799813685248<=z.hor/\z.hor<=2251799813685248
 tr:∀i,i<z.trans.length->lH z i
 yr:qw z
 dS:eH (tJ z) (gy z*1440)=true
 late:yZ z
def Cb (z:Zn):Bool:=decide (z.trans.length<=512)&&(vC z.cal&&(decide (-1080<=z.start/\z.start<=1080)&&(decide (-2251799813685248<=z.hor/\z.hor<=2251799813685248)&&((List.range z.trans.length).all (qF z)&&(Vz z&&(eH (tJ z) (gy z*1440)&&decide (0<z.trans.length->(tJ z).length≠0->2160<=(eY (tJ z) (gy z*1440) z.hor).1.at_ - gU z.trans (z.trans.length - 1))))))))
theorem Gx (z:Zn):Cb z=true↔Ag z:=by
 unfold Cb;simp only [Bool.and_eq_true,decide_eq_true_eq,List.all_eq_true,List.mem_range,CZ,gz,Q9];exact ⟨fun ⟨h1,h2,h3,h4,h5,h6,h7,h8⟩=>⟨h1,h2,h3,h4,h5,h6,h7,h8⟩,fun ⟨h1,h2,h3,h4,h5,h6,h7,h8⟩=>⟨h1,h2,h3,h4,h5,h6,h7,h8⟩⟩
theorem Gy {z:Zn} (h:Ag z):Cb z=true:=(Gx z).2 h
def vg (z:Zn):Int:=if 512<z.trans.length then 2 else if Cb z=true then 0 else 1
end Go.Proofs.YtbaehbbonkljpaaGreatDoor
