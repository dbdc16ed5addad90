/- The texts Jg, Js, Jh, in this order. -/
import Derived.Test.YtdibbemgpikgjaaGreatW00
import Derived.Shelf.SlSortCmp.WholeK
import Derived.Shelf.SlSortCmp.NoneTotal
import Derived.Shelf.SlicesG.Cmp
import Derived.Test.YtdibbemgpikgjaaGreatW30
import Derived.Test.YtdibbemgpikgjaaGreatW31
import Derived.Test.YtdibbemgpikgjaaGreatW34
import Derived.Test.YtdibbemgpikgjaaGreatW35
set_option maxRecDepth 10000
set_option maxHeartbeats 8000000
namespace Go.Proofs.YtdibbemgpikgjaaGreat
open Go Go.RowKit
structure En (n:Nat) (r:Yr):Prop where
 mo:1≤r.month∧r.month≤(n:Int)
 wk:1≤r.di∧r.di≤5
 wd:0≤r.dm∧r.dm≤6
 mi:0≤r.minute∧r.minute<1440
 of: -1080≤r.off∧r.off≤1080
def QP (c:Cal) (bg y:Int) (r:Yr):Int×Bool:=Aj r.dm r.di (bg+oh c y (r.month - 1).toNat) (zF c y (r.month - 1).toNat)
theorem Vk (c:Cal) (A R:Option Addr) (a r:Nat) (bg y:Int) (x:Yr) (w:World) (hc:kZ c) (h:oC w w.heap.size A R c) (hb:0≤bg) (hb2:bg≤100000000) (hr:En c.aj.length x):
  Calls Tryz.prog 76 #[.agg (aG c A a R r),I bg,I y, .agg #[I x.month,I x.di,I x.dm,I x.minute,I x.off]] w (Gives (.tuple #[I (QP c bg y x).1, .bool (QP c bg y x).2]) w):=by
 have hm:=hr.mo;have hwk:=hr.wk;have hwd:=hr.wd;clear hr;obtain ⟨mo,wk,wd,mi,of⟩:=x;simp only at hm hwk hwd ⊢;obtain ⟨M,rfl⟩:∃M:Nat,mo=(M:Int)+1:=⟨(mo - 1).toNat,by omega⟩;have h16:=hc.ml;have hMn:M<c.aj.length:=by omega
 have nJ:Hid (∀m,m<c.aj.length→∀W,Below w.heap.size w W→Calls Tryz.prog 100 #[.agg (aG c A a R r),I y,I ((m:Int)+1)] W (Gives (I (zF c y m)) W)):=ae fun m hm W hb=>Qo c A R a r y m W hc (h.grow hb) hm;have PO:=ae (fun k (hk:k≤c.aj.length)=>Bi c y hc k hk);have Z4:=ae (fun k (hk:k<c.aj.length)=>G5 c y k hc hk);have h1:=PO.out M (by omega);have h2:=Z4.out M (by omega);obtain ⟨res,hres⟩:∃res,QP c bg y ⟨(M:Int)+1,wk,wd,mi,of⟩=res:=⟨_,rfl⟩;rw [hres];unfold QP Aj at hres;simp only at hres;rw [show ((M:Int)+1 - 1).toNat=M by omega] at hres;obtain ⟨b0,hb0⟩:∃b,bg+oh c y M=b:=⟨_,rfl⟩;obtain ⟨n,hn⟩:∃n,zF c y M=n:=⟨_,rfl⟩;have rE:=ae hb0;have HQ:=ae hn;rw [hb0,hn] at hres;rw [hn] at h2;have hb01:0≤b0∧b0≤100001000:=by omega
 obtain ⟨nm,hnm⟩:∃n,c.aj.length=n:=⟨_,rfl⟩;rw [hnm] at hMn h16 nJ;simp only [hnm] at PO Z4;obtain ⟨ep,lp,A',R',n0,n1,hcs⟩:∃ep lp,∃A' R':Option Addr,∃n m:Nat,aG c A a R r= #[I ep, .slice A' n a,I lp, .slice R' m r]:=⟨_,_,_,_,_,_,rfl⟩;rw [hcs] at nJ ⊢;obtain ⟨p,hp⟩:∃p,(wd - b0)%7=p:=⟨_,rfl⟩;have hp0:0≤p∧p<7:=by omega
 obtain ⟨p2,hp2⟩:∃p,(b0+n - 1 - wd)%7=p:=⟨_,rfl⟩;have hp3:0≤p2∧p2<7:=by omega
 have HWD:=ae (fun W=>zU (wd - b0) W);have HWE:=ae (fun W=>zU (b0+n - 1 - wd) W);rw [hp] at HWD hres;rw [hp2] at HWE hres;clear hcs hn hc h hnm hb0 hp hp2 h1 hm;by_cases h5:wk=5
 ·subst h5;rw [if_pos rfl] at hres;have lh:=ae hres;clear hres;have vg:=ae (pY.Hg w 0 47 130 #[I ep, .slice A' n0 a,I lp, .slice R' n1 r] #[I ((M:Int)+1),I 5,I wd,I mi,I of]);go_enter Tryz.func76,Tryz.ntmps76;go_wp2_with fail;generalize (w.alloc (.cells #[I ep, .slice A' n0 a,I lp, .slice R' n1 r] 47)).alloc (.cells #[I ((M:Int)+1),I 5,I wd,I mi,I of] 130)=W0 at vg ⊢
  go_loopw [1,10] (fun s i wr=>∃k:Nat,k≤M∧s=I (bg+oh c y k)∧i=I ((k:Int)+1)∧pY w 0 #[I ep, .slice A' n0 a,I lp, .slice R' n1 r] #[I ((M:Int)+1),I 5,I wd,I mi,I of] wr) (fun _ i _=>M+1 - (intOf i).toNat)
  case atStart=>exact ⟨0,Nat.zero_le _,by rw [show bg+oh c y 0=bg from Int.add_zero bg],rfl,vg.out⟩
  case round=>
   obtain ⟨k,hk,rfl,rfl,hv⟩:=hrel;have HV:=ae hv;clear hv vg;by_cases hlt:k<M
   ·have i1:(k:Int)+1<(M:Int)+1:=by omega
    have b1:=PO.out k (by omega);have b2:=Z4.out k (by omega);have HC:=ae (nJ.out k (by omega) wr HV.out.up);have ET:Hid (oh c y (k+1)=oh c y k+zF c y k):=ae rfl;obtain ⟨s,hs⟩:∃s,oh c y k=s:=⟨_,rfl⟩;obtain ⟨q,hq⟩:∃s,zF c y k=s:=⟨_,rfl⟩;rw [hs,hq] at ET;rw [hq] at HC b2;rw [hs] at b1 ⊢;have sw:IntKind.i64.wrap (bg+s+q)=bg+s+q:=by rw [IntKind.wrap_i64];omega
    have sw2:IntKind.i64.wrap ((k:Int)+1+1)=(k:Int)+1+1:=by rw [IntKind.wrap_i64];omega
    clear hs hq;have v0:wr.cell? ⟨w.heap.size,0,none⟩=some (I ep):=HV.out.a.2 0;have v1:wr.cell? ⟨w.heap.size,1,none⟩=some (.slice A' n0 a):=HV.out.a.2 1;have v2:wr.cell? ⟨w.heap.size,2,none⟩=some (I lp):=HV.out.a.2 2;have v3:wr.cell? ⟨w.heap.size,3,none⟩=some (.slice R' n1 r):=HV.out.a.2 3;have u0:wr.cell? ⟨w.heap.size+1,0,none⟩=some (I ((M:Int)+1)):=HV.out.b.2 0;have u1:wr.cell? ⟨w.heap.size+1,1,none⟩=some (I 5):=HV.out.b.2 1;have u2:wr.cell? ⟨w.heap.size+1,2,none⟩=some (I wd):=HV.out.b.2 2;go_wp2_with fail;refine HC.out.mono ?_;rintro e w1 ⟨rfl,hb1⟩;have ni:=ae (HV.out.below hb1);clear hb1 HV v0 v1 v2 v3 u0 u1 u2 HC;go_wp2_with fail;go_roundw
    case rel=>exact ⟨k+1,by omega,by rw [ET.out];go_num,by go_num,ni.out⟩
    case measure=>simp [intOf];omega
   ·have hkM:k=M:=by omega
    have hlt':¬(k:Int)+1<(M:Int)+1:=by omega
    have HC:=ae (nJ.out M hMn wr HV.out.up);rw [hkM,rE.out];rw [hkM] at hlt';rw [HQ.out] at HC;clear hlt hkM hk;have v0:wr.cell? ⟨w.heap.size,0,none⟩=some (I ep):=HV.out.a.2 0;have v1:wr.cell? ⟨w.heap.size,1,none⟩=some (.slice A' n0 a):=HV.out.a.2 1;have v2:wr.cell? ⟨w.heap.size,2,none⟩=some (I lp):=HV.out.a.2 2;have v3:wr.cell? ⟨w.heap.size,3,none⟩=some (.slice R' n1 r):=HV.out.a.2 3;have u0:wr.cell? ⟨w.heap.size+1,0,none⟩=some (I ((M:Int)+1)):=HV.out.b.2 0;have u1:wr.cell? ⟨w.heap.size+1,1,none⟩=some (I 5):=HV.out.b.2 1;have u2:wr.cell? ⟨w.heap.size+1,2,none⟩=some (I wd):=HV.out.b.2 2;go_wp2_with fail;refine HC.out.mono ?_;rintro e w2 ⟨rfl,hb2⟩;have HX:=ae (HV.out.below hb2);clear v0 v1 v2 v3 u0 u1 u2 hb2 HV HC;have u1:w2.cell? ⟨w.heap.size+1,1,none⟩=some (I 5):=HX.out.b.2 1;have u2:w2.cell? ⟨w.heap.size+1,2,none⟩=some (I wd):=HX.out.b.2 2;go_wp2_with fail;refine (HWD.out _).mono ?_;rintro e w3 ⟨rfl,rfl⟩;go_wp2_with fail;refine (HWE.out _).mono ?_;rintro e w4 ⟨rfl,rfl⟩;go_wp2_with fail;go_ret2;exact ⟨by rw [←lh.out];rfl,HX.out.up⟩
 ·rw [if_neg h5] at hres;have lh:=ae hres;clear hres;have vg:=ae (pY.Hg w 0 47 130 #[I ep, .slice A' n0 a,I lp, .slice R' n1 r] #[I ((M:Int)+1),I wk,I wd,I mi,I of]);go_enter Tryz.func76,Tryz.ntmps76;go_wp2_with fail;generalize (w.alloc (.cells #[I ep, .slice A' n0 a,I lp, .slice R' n1 r] 47)).alloc (.cells #[I ((M:Int)+1),I wk,I wd,I mi,I of] 130)=W0 at vg ⊢
  go_loopw [1,10] (fun s i wr=>∃k:Nat,k≤M∧s=I (bg+oh c y k)∧i=I ((k:Int)+1)∧pY w 0 #[I ep, .slice A' n0 a,I lp, .slice R' n1 r] #[I ((M:Int)+1),I wk,I wd,I mi,I of] wr) (fun _ i _=>M+1 - (intOf i).toNat)
  case atStart=>exact ⟨0,Nat.zero_le _,by rw [show bg+oh c y 0=bg from Int.add_zero bg],rfl,vg.out⟩
  case round=>
   obtain ⟨k,hk,rfl,rfl,hv⟩:=hrel;have HV:=ae hv;clear hv vg;by_cases hlt:k<M
   ·have i1:(k:Int)+1<(M:Int)+1:=by omega
    have b1:=PO.out k (by omega);have b2:=Z4.out k (by omega);have HC:=ae (nJ.out k (by omega) wr HV.out.up);have ET:Hid (oh c y (k+1)=oh c y k+zF c y k):=ae rfl;obtain ⟨s,hs⟩:∃s,oh c y k=s:=⟨_,rfl⟩;obtain ⟨q,hq⟩:∃s,zF c y k=s:=⟨_,rfl⟩;rw [hs,hq] at ET;rw [hq] at HC b2;rw [hs] at b1 ⊢;have sw:IntKind.i64.wrap (bg+s+q)=bg+s+q:=by rw [IntKind.wrap_i64];omega
    have sw2:IntKind.i64.wrap ((k:Int)+1+1)=(k:Int)+1+1:=by rw [IntKind.wrap_i64];omega
    clear hs hq;have v0:wr.cell? ⟨w.heap.size,0,none⟩=some (I ep):=HV.out.a.2 0;have v1:wr.cell? ⟨w.heap.size,1,none⟩=some (.slice A' n0 a):=HV.out.a.2 1;have v2:wr.cell? ⟨w.heap.size,2,none⟩=some (I lp):=HV.out.a.2 2;have v3:wr.cell? ⟨w.heap.size,3,none⟩=some (.slice R' n1 r):=HV.out.a.2 3;have u0:wr.cell? ⟨w.heap.size+1,0,none⟩=some (I ((M:Int)+1)):=HV.out.b.2 0;have u1:wr.cell? ⟨w.heap.size+1,1,none⟩=some (I wk):=HV.out.b.2 1;have u2:wr.cell? ⟨w.heap.size+1,2,none⟩=some (I wd):=HV.out.b.2 2;go_wp2_with fail;refine HC.out.mono ?_;rintro e w1 ⟨rfl,hb1⟩;have ni:=ae (HV.out.below hb1);clear hb1 HV v0 v1 v2 v3 u0 u1 u2 HC;go_wp2_with fail;go_roundw
    case rel=>exact ⟨k+1,by omega,by rw [ET.out];go_num,by go_num,ni.out⟩
    case measure=>simp [intOf];omega
   ·have hkM:k=M:=by omega
    have hlt':¬(k:Int)+1<(M:Int)+1:=by omega
    have HC:=ae (nJ.out M hMn wr HV.out.up);rw [hkM,rE.out];rw [hkM] at hlt';rw [HQ.out] at HC;clear hlt hkM hk;have v0:wr.cell? ⟨w.heap.size,0,none⟩=some (I ep):=HV.out.a.2 0;have v1:wr.cell? ⟨w.heap.size,1,none⟩=some (.slice A' n0 a):=HV.out.a.2 1;have v2:wr.cell? ⟨w.heap.size,2,none⟩=some (I lp):=HV.out.a.2 2;have v3:wr.cell? ⟨w.heap.size,3,none⟩=some (.slice R' n1 r):=HV.out.a.2 3;have u0:wr.cell? ⟨w.heap.size+1,0,none⟩=some (I ((M:Int)+1)):=HV.out.b.2 0;have u1:wr.cell? ⟨w.heap.size+1,1,none⟩=some (I wk):=HV.out.b.2 1;have u2:wr.cell? ⟨w.heap.size+1,2,none⟩=some (I wd):=HV.out.b.2 2;go_wp2_with fail;refine HC.out.mono ?_;rintro e w2 ⟨rfl,hb2⟩;have HX:=ae (HV.out.below hb2);clear v0 v1 v2 v3 u0 u1 u2 hb2 HV HC;have u1:w2.cell? ⟨w.heap.size+1,1,none⟩=some (I wk):=HX.out.b.2 1;have u2:w2.cell? ⟨w.heap.size+1,2,none⟩=some (I wd):=HX.out.b.2 2;go_wp2_with fail;refine (HWD.out _).mono ?_;rintro e w3 ⟨rfl,rfl⟩;go_wp2_with fail;go_ret2;exact ⟨by rw [←lh.out];rfl,HX.out.up⟩
theorem JV {lo g n c:Nat} {w:World} {ts:List Tr} (h:iO lo w (some ⟨g,0,none⟩) n c ts) (hl:ts.length=n) (hn:n≤10000000):
  Calls Tryz.prog 78 #[.slice (some ⟨g,0,none⟩) n c, .func (.func 79) #[] #[]] w fun e w'=>
   e= .returned (.tuple #[])∧∃us:List Tr,us.Perm ts∧us.Pairwise (fun a b=>a.at_≤b.at_)∧iO lo w' (some ⟨g,0,none⟩) n c us∧w.grownBy w' (some g):=by
 have hH:Go.Sort.HoldsK Tr.cells 2 w g 0 ts.toArray:=by
  intro j hj;have hj2:j<n*2:=by
   have:(Go.Sort.flatK Tr.cells 2 ts.toArray).size=n*2:=by simp [Go.Sort.flatK,hl]
   omega
  have h3:=Fv ts.toArray j (by simpa [hl] using hj2);rw [getElem!_pos _ j hj];rw [Array.getElem?_eq_getElem hj] at h3;rw [Nat.zero_add];exact ⟨l9 h j _ h3.symm,xK h j⟩
 have hg:=fM h;have eg:∀args w,(callFunc 79 args).run Tryz.prog w= .ok (.enter 79 args) w:=enters_of Tryz.func79 (by kernel_rfl) rfl;have hcon:=Go.Proofs.AnyQ.slices_SortFunc UR 2 Tryz.isAgg100 Tryz.sizeOf100 Tr.cells (fun _=>rfl) (fun x v hv=>by simp [Tr.cells] at hv;rcases hv with rfl|rfl<;>rfl) Fp swoTr 79 #[] g 0 c ts.toArray w eg (fun _ _ _ _ x y=>X8 x y _) hH hg.2 (by simp [hl];omega);rw [show ts.toArray.size=n by simpa using hl] at hcon;refine hcon.mono ?_;rintro e w' ⟨rfl,d',m,os,hp,hs,rfl⟩;obtain ⟨hsz,_,hpm⟩:=hp;have hdn:d'.size=n:=by rw [hsz];simpa using hl
 have e1:d'.extract 0 n=d':=by rw [←hdn];exact Array.extract_size
 have e2:ts.toArray.extract 0 n=ts.toArray:=by
  have:ts.toArray.size=n:=by simpa using hl
  rw [←this];exact Array.extract_size
 rw [e1,e2] at hpm;refine ⟨rfl,d'.toList,hpm,?_,UT h hdn,Nq⟩;rw [List.pairwise_iff_getElem];intro i j hi hj hij;have hi':i<d'.size:=by simpa using hi
 have hj':j<d'.size:=by simpa using hj
 have h4:=hs i j (Nat.zero_le _) hij (by omega);rw [Xu,getElem!_pos d' i hi',getElem!_pos d' j hj'] at h4;have h5:=of_decide_eq_false h4;simp only [Array.getElem_toList];omega
theorem JU {lo n c:Nat} {A:Option Addr} {w:World} {ts:List Tr} (h:iO lo w A n c ts) (hl:ts.length=n) (hn:n≤10000000):
  Calls Tryz.prog 78 #[.slice A n c, .func (.func 79) #[] #[]] w fun e w'=>
   e= .returned (.tuple #[])∧∃us:List Tr,us.Perm ts∧us.Pairwise (fun a b=>a.at_≤b.at_)∧iO lo w' A n c us∧w.grownBy w' (Value.slice A n c).ownBlock:=by
 by_cases h0:n=0
 ·subst h0;have ht:ts= []:=List.eq_nil_of_length_eq_zero hl;subst ht;refine (Go.Proofs.AnyF.slices_SortFunc_none {UR with} A c _ w).mono ?_;rintro e w' ⟨rfl,rfl⟩;exact ⟨rfl,[],List.Perm.refl _,List.Pairwise.nil,h,⟨rfl,rfl,rfl,Nat.le_refl _,fun _ _ _=>rfl⟩⟩
 ·obtain ⟨g,rfl⟩:∃g,A=some ⟨g,0,none⟩:=by
   rcases h.2 with ⟨hv,hz⟩|⟨g,cap,cur,hv,_⟩
   ·exact absurd hz h0
   ·injection hv with h1 _ _;exact ⟨g,h1⟩
  exact JV h hl hn
def pg (c:Cal) (bg y:Int) (r r':Yr) (out:List Tr):List Tr:=if (QP c bg y r).2=true then out++ [⟨(QP c bg y r).1*1440+r.minute - r'.off,r.off⟩] else out
def ou (c:Cal) (r0 r1:Yr) (stop:Int):Nat→Int→Int→List Tr→List Tr
 |0,_,_,out=>out
 |n+1,bg,y,out=>if bg<stop then ou c r0 r1 stop n (bg+Bh c y) (y+1) (pg c bg y r1 r0 (pg c bg y r0 r1 out)) else out
theorem UI {c:Cal} {r0 r1:Yr} {stop bg y:Int} {f:Nat} {ts res:List Tr} (h:ou c r0 r1 stop f bg y ts=res) (hb:bg<stop) (hf:(stop - bg).toNat≤f) (hy:1≤Bh c y):
  ∃f',(stop - (bg+Bh c y)).toNat≤f'∧ou c r0 r1 stop f' (bg+Bh c y) (y+1) (pg c bg y r1 r0 (pg c bg y r0 r1 ts))=res:=by
 cases f with
 |zero=>omega
 |succ f=>exact ⟨f,by omega,by rw [ou,if_pos hb] at h;exact h⟩
theorem Qu {c:Cal} {r0 r1:Yr} {stop bg y:Int} {f:Nat} {ts res:List Tr} (h:ou c r0 r1 stop f bg y ts=res) (hb:¬bg<stop):ts=res:=by
 cases f with
 |zero=>exact h
 |succ f=>rw [ou,if_neg hb] at h;exact h
def lH (z:Zn):Int:=match z.az with| []=>1|_::_=>Ai (KR z.cal)
def tu (z:Zn):List Tr:=match z.az with
 | [r0,r1]=>ou z.cal r0 r1 (z.cal.aI+lH z) (lH z).toNat z.cal.aI 1 []
 |_=> []
def Bj (z:Zn):List Tr:=(tu z).mergeSort (fun a b=>decide (a.at_≤b.at_))
theorem rf (z:Zn):(Bj z).Perm (tu z):=List.mergeSort_perm _ _
theorem DZ (z:Zn):(Bj z).Pairwise (fun a b=>a.at_≤b.at_):=by
 have h:=List.pairwise_mergeSort (le:=fun (a b:Tr)=>decide (a.at_≤b.at_)) (fun a b c h1 h2=>by simp only [decide_eq_true_eq] at*;omega) (fun a b=>by simp only [Bool.or_eq_true,decide_eq_true_eq];omega) (tu z);exact h.imp (fun h=>by simpa using h)
theorem Qd {ts us:List Tr} {size:Int} (hp:us.Perm ts) (hs:us.Pairwise (fun a b=>a.at_≤b.at_)) (ht:ts.Pairwise (fun a b=>a.at_≤b.at_)):dZ us size=dZ ts size:=by
 cases h:dZ ts size with
 |true=>rw [uU h hp hs,h]
 |false=>
  cases h2:dZ us size with
  |false=>rfl
  |true=>
   rw [uU h2 hp.symm ht,h2] at h;cases h
theorem Js {ts:List Tr} {size:Int} {k:Nat} (hk:k<ts.length) (h:lK ts size k<2160):dZ ts size=false:=by
 cases e:dZ ts size with
 |false=>rfl
 |true=>
  have:=GH e k hk;omega
theorem Ij (z:Zn) (hc:kZ z.cal):1≤lH z∧lH z≤1836800:=by
 have h1:=Tz hc;unfold lH Ai;split
 ·omega
 ·split<;>omega
theorem Vj (c:Cal) (bg y:Int) (r:Yr) (hc:kZ c) (hr:En c.aj.length r):bg - 10≤(QP c bg y r).1∧(QP c bg y r).1≤bg+800:=by
 have h1:=hr.mo;have h2:=Bi c y hc (r.month - 1).toNat (by omega);have h3:=G5 c y (r.month - 1).toNat hc (by omega);have h4:=hc.ml;have h5:=hr.wk;unfold QP Aj;split
 ·simp only;omega
 ·simp only;omega
def vY (ts:List Tr):Prop:=∀x∈ts, -100000≤x.at_∧x.at_≤10000000000
theorem xk {ts:List Tr} (k:Nat) (h:vY ts): -100000≤fU ts k∧fU ts k≤10000000000:=by
 unfold fU;cases e:ts[k]? with
 |none=>simp
 |some x=>exact h x (gz e)
theorem Dn (c:Cal) (bg y:Int) (r r':Yr) (ts:List Tr) (hc:kZ c) (hr:En c.aj.length r) (hr':En c.aj.length r') (hb:0≤bg) (hb2:bg≤4000000) (h:vY ts):vY (pg c bg y r r' ts):=by
 have h1:=Vj c bg y r hc hr;have h2:=hr.mi;have h3:=hr'.of;unfold pg;split
 ·intro x hx;rcases List.mem_append.1 hx with hx|hx
  ·exact h x hx
  ·rw [List.mem_singleton.1 hx];simp only;omega
 ·exact h
theorem vY.perm {ts us:List Tr} (h:vY ts) (hp:us.Perm ts):vY us:=fun x hx=>h x (hp.mem_iff.1 hx)
theorem FH (kb:Nat) (cy:Int) (w:World) (h:w.cell? ⟨kb,9,none⟩=some (I cy)) (h0:0≤cy) (h1:cy≤2000000):Calls Tryz.prog 59 #[.pointer (some ⟨kb,0,none⟩)] w fun e w'=>e= .returned (I (cy*1440))∧w'=w:=by
 go_enter Tryz.func59,Tryz.ntmps59;go_wp2_with fail;go_ret;exact ⟨rfl,rfl⟩
theorem wH (kb:Nat) (cy:Int) (w:World) (h:w.cell? ⟨kb,9,none⟩=some (I cy)) (h0:0≤cy) (h1:cy≤2000000) (k:Nat):Calls Tryz.prog 59 #[.pointer (some ⟨kb,0,none⟩)] (w.drewN k) fun e w'=>e= .returned (I (cy*1440))∧∃m,w'=w.drewN m:=
 (FH kb cy (w.drewN k) h h0 h1).mono fun _ _ ⟨h2,h3⟩=>⟨h2,k,h3⟩
end Go.Proofs.YtdibbemgpikgjaaGreat
