/- The texts Jg, Ng2, Ns0, Nh, Js, Jh, Jy, in this order. -/
import Derived.Test.YtbaehbbonkljpaaGreatR00
import Derived.Shelf.SlSortCmp.WholeK
import Derived.Shelf.SlicesG.Cmp
import Derived.Shelf.SlSortCmp.NoneTotal
import Derived.Test.YtbaehbbonkljpaaGreatR03
import Derived.Test.YtbaehbbonkljpaaGreatR12
import Derived.Test.YtbaehbbonkljpaaGreatR14
import Derived.Test.YtbaehbbonkljpaaGreatR15
import Derived.Test.YtbaehbbonkljpaaGreatR16
set_option maxRecDepth 10000
set_option maxHeartbeats 8000000
namespace Go.Proofs.YtbaehbbonkljpaaGreat
open Go Go.RowKit
structure rM (n:Nat) (r:Yr):Prop where
 mo:1≤r.month∧r.month≤(n:Int)
 wk:1≤r.cZ∧r.cZ≤5
 wd:0≤r.dh∧r.dh≤6
 mi:0≤r.minute∧r.minute<1440
 of: -1080≤r.off∧r.off≤1080
def Qm (c:Cal) (bg y:Int) (r:Yr):Int×Bool:=O9 r.dh r.cZ (bg+jS c y (r.month - 1).toNat) (uI c y (r.month - 1).toNat)
theorem UU (c:Cal) (A R:Option Addr) (a r:Nat) (bg y:Int) (x:Yr) (w:World) (hc:eH c) (h:nD w w.heap.size A R c) (hb:0≤bg) (hb2:bg≤100000000) (hr:rM c.aj.length x):
  Calls Tryz.prog 91 #[.agg (aH c A a R r),I bg,I y, .agg #[I x.month,I x.cZ,I x.dh,I x.minute,I x.off]] w (Gives (.tuple #[I (Qm c bg y x).1, .bool (Qm c bg y x).2]) w):=by
 have hm:=hr.mo;have hwk:=hr.wk;have hwd:=hr.wd;clear hr;obtain ⟨mo,wk,wd,mi,of⟩:=x;simp only at hm hwk hwd ⊢;obtain ⟨M,rfl⟩:∃M:Nat,mo=(M:Int)+1:=⟨(mo - 1).toNat,by omega⟩;have h16:=hc.ml;have hMn:M<c.aj.length:=by omega
 have qY:Hid (∀m,m<c.aj.length→∀W,Below w.heap.size w W→Calls Tryz.prog 108 #[.agg (aH c A a R r),I y,I ((m:Int)+1)] W (Gives (I (uI c y m)) W)):=ae fun m hm W hb=>PG c A R a r y m W hc (h.grow hb) hm;have JW:=ae (fun k (hk:k≤c.aj.length)=>qV c y hc k hk);have Vo:=ae (fun k (hk:k<c.aj.length)=>vF c y k hc hk);have h1:=JW.out M (by omega);have h2:=Vo.out M (by omega);obtain ⟨res,hres⟩:∃res,Qm c bg y ⟨(M:Int)+1,wk,wd,mi,of⟩=res:=⟨_,rfl⟩;rw [hres];unfold Qm O9 at hres;simp only at hres;rw [show ((M:Int)+1 - 1).toNat=M by omega] at hres;obtain ⟨b0,hb0⟩:∃b,bg+jS c y M=b:=⟨_,rfl⟩;obtain ⟨n,hn⟩:∃n,uI c y M=n:=⟨_,rfl⟩;have xk:=ae hb0;have HQ:=ae hn;rw [hb0,hn] at hres;rw [hn] at h2;have hb01:0≤b0∧b0≤100001000:=by omega
 obtain ⟨nm,hnm⟩:∃n,c.aj.length=n:=⟨_,rfl⟩;rw [hnm] at hMn h16 qY;simp only [hnm] at JW Vo;obtain ⟨ep,lp,A',R',n0,n1,hcs⟩:∃ep lp,∃A' R':Option Addr,∃n m:Nat,aH c A a R r= #[I ep, .slice A' n a,I lp, .slice R' m r]:=⟨_,_,_,_,_,_,rfl⟩;rw [hcs] at qY ⊢;obtain ⟨p,hp⟩:∃p,(wd - b0)%7=p:=⟨_,rfl⟩;have hp0:0≤p∧p<7:=by omega
 obtain ⟨p2,hp2⟩:∃p,(b0+n - 1 - wd)%7=p:=⟨_,rfl⟩;have hp3:0≤p2∧p2<7:=by omega
 have HWD:=ae (fun W=>yD (wd - b0) W);have HWE:=ae (fun W=>yD (b0+n - 1 - wd) W);rw [hp] at HWD hres;rw [hp2] at HWE hres;clear hcs hn hc h hnm hb0 hp hp2 h1 hm;by_cases h5:wk=5
 ·subst h5;rw [if_pos rfl] at hres;have qE:=ae hres;clear hres;have xm:=ae (oM.MB w 0 50 107 #[I ep, .slice A' n0 a,I lp, .slice R' n1 r] #[I ((M:Int)+1),I 5,I wd,I mi,I of]);go_enter Tryz.func91,Tryz.ntmps91;go_wp2_with fail;generalize (w.alloc (.cells #[I ep, .slice A' n0 a,I lp, .slice R' n1 r] 50)).alloc (.cells #[I ((M:Int)+1),I 5,I wd,I mi,I of] 107)=W0 at xm ⊢
  go_loopw [1,10] (fun s i wr=>∃k:Nat,k≤M∧s=I (bg+jS c y k)∧i=I ((k:Int)+1)∧oM w 0 #[I ep, .slice A' n0 a,I lp, .slice R' n1 r] #[I ((M:Int)+1),I 5,I wd,I mi,I of] wr) (fun _ i _=>M+1 - (intOf i).toNat)
  case atStart=>exact ⟨0,Nat.zero_le _,by rw [show bg+jS c y 0=bg from Int.add_zero bg],rfl,xm.out⟩
  case round=>
   obtain ⟨k,hk,rfl,rfl,hv⟩:=hrel;have HV:=ae hv;clear hv xm;by_cases hlt:k<M
   ·have i1:(k:Int)+1<(M:Int)+1:=by omega
    have b1:=JW.out k (by omega);have b2:=Vo.out k (by omega);have HC:=ae (qY.out k (by omega) wr HV.out.up);have EI:Hid (jS c y (k+1)=jS c y k+uI c y k):=ae rfl;obtain ⟨s,hs⟩:∃s,jS c y k=s:=⟨_,rfl⟩;obtain ⟨q,hq⟩:∃s,uI c y k=s:=⟨_,rfl⟩;rw [hs,hq] at EI;rw [hq] at HC b2;rw [hs] at b1 ⊢;have sw:IntKind.i64.wrap (bg+s+q)=bg+s+q:=by rw [IntKind.wrap_i64];omega
    have sw2:IntKind.i64.wrap ((k:Int)+1+1)=(k:Int)+1+1:=by rw [IntKind.wrap_i64];omega
    clear hs hq;have v0:wr.cell? ⟨w.heap.size,0,none⟩=some (I ep):=HV.out.a.2 0;have v1:wr.cell? ⟨w.heap.size,1,none⟩=some (.slice A' n0 a):=HV.out.a.2 1;have v2:wr.cell? ⟨w.heap.size,2,none⟩=some (I lp):=HV.out.a.2 2;have v3:wr.cell? ⟨w.heap.size,3,none⟩=some (.slice R' n1 r):=HV.out.a.2 3;have u0:wr.cell? ⟨w.heap.size+1,0,none⟩=some (I ((M:Int)+1)):=HV.out.b.2 0;have u1:wr.cell? ⟨w.heap.size+1,1,none⟩=some (I 5):=HV.out.b.2 1;have u2:wr.cell? ⟨w.heap.size+1,2,none⟩=some (I wd):=HV.out.b.2 2;go_wp2_with fail;refine HC.out.mono ?_;rintro e w1 ⟨rfl,hb1⟩;have jk:=ae (HV.out.below hb1);clear hb1 HV v0 v1 v2 v3 u0 u1 u2 HC;go_wp2_with fail;go_roundw
    case rel=>exact ⟨k+1,by omega,by rw [EI.out];go_num,by go_num,jk.out⟩
    case measure=>simp [intOf];omega
   ·have hkM:k=M:=by omega
    have hlt':¬(k:Int)+1<(M:Int)+1:=by omega
    have HC:=ae (qY.out M hMn wr HV.out.up);rw [hkM,xk.out];rw [hkM] at hlt';rw [HQ.out] at HC;clear hlt hkM hk;have v0:wr.cell? ⟨w.heap.size,0,none⟩=some (I ep):=HV.out.a.2 0;have v1:wr.cell? ⟨w.heap.size,1,none⟩=some (.slice A' n0 a):=HV.out.a.2 1;have v2:wr.cell? ⟨w.heap.size,2,none⟩=some (I lp):=HV.out.a.2 2;have v3:wr.cell? ⟨w.heap.size,3,none⟩=some (.slice R' n1 r):=HV.out.a.2 3;have u0:wr.cell? ⟨w.heap.size+1,0,none⟩=some (I ((M:Int)+1)):=HV.out.b.2 0;have u1:wr.cell? ⟨w.heap.size+1,1,none⟩=some (I 5):=HV.out.b.2 1;have u2:wr.cell? ⟨w.heap.size+1,2,none⟩=some (I wd):=HV.out.b.2 2;go_wp2_with fail;refine HC.out.mono ?_;rintro e w2 ⟨rfl,hb2⟩;have HX:=ae (HV.out.below hb2);clear v0 v1 v2 v3 u0 u1 u2 hb2 HV HC;have u1:w2.cell? ⟨w.heap.size+1,1,none⟩=some (I 5):=HX.out.b.2 1;have u2:w2.cell? ⟨w.heap.size+1,2,none⟩=some (I wd):=HX.out.b.2 2;go_wp2_with fail;refine (HWD.out _).mono ?_;rintro e w3 ⟨rfl,rfl⟩;go_wp2_with fail;refine (HWE.out _).mono ?_;rintro e w4 ⟨rfl,rfl⟩;go_wp2_with fail;go_ret2;exact ⟨by rw [←qE.out];rfl,HX.out.up⟩
 ·rw [if_neg h5] at hres;have qE:=ae hres;clear hres;have xm:=ae (oM.MB w 0 50 107 #[I ep, .slice A' n0 a,I lp, .slice R' n1 r] #[I ((M:Int)+1),I wk,I wd,I mi,I of]);go_enter Tryz.func91,Tryz.ntmps91;go_wp2_with fail;generalize (w.alloc (.cells #[I ep, .slice A' n0 a,I lp, .slice R' n1 r] 50)).alloc (.cells #[I ((M:Int)+1),I wk,I wd,I mi,I of] 107)=W0 at xm ⊢
  go_loopw [1,10] (fun s i wr=>∃k:Nat,k≤M∧s=I (bg+jS c y k)∧i=I ((k:Int)+1)∧oM w 0 #[I ep, .slice A' n0 a,I lp, .slice R' n1 r] #[I ((M:Int)+1),I wk,I wd,I mi,I of] wr) (fun _ i _=>M+1 - (intOf i).toNat)
  case atStart=>exact ⟨0,Nat.zero_le _,by rw [show bg+jS c y 0=bg from Int.add_zero bg],rfl,xm.out⟩
  case round=>
   obtain ⟨k,hk,rfl,rfl,hv⟩:=hrel;have HV:=ae hv;clear hv xm;by_cases hlt:k<M
   ·have i1:(k:Int)+1<(M:Int)+1:=by omega
    have b1:=JW.out k (by omega);have b2:=Vo.out k (by omega);have HC:=ae (qY.out k (by omega) wr HV.out.up);have EI:Hid (jS c y (k+1)=jS c y k+uI c y k):=ae rfl;obtain ⟨s,hs⟩:∃s,jS c y k=s:=⟨_,rfl⟩;obtain ⟨q,hq⟩:∃s,uI c y k=s:=⟨_,rfl⟩;rw [hs,hq] at EI;rw [hq] at HC b2;rw [hs] at b1 ⊢;have sw:IntKind.i64.wrap (bg+s+q)=bg+s+q:=by rw [IntKind.wrap_i64];omega
    have sw2:IntKind.i64.wrap ((k:Int)+1+1)=(k:Int)+1+1:=by rw [IntKind.wrap_i64];omega
    clear hs hq;have v0:wr.cell? ⟨w.heap.size,0,none⟩=some (I ep):=HV.out.a.2 0;have v1:wr.cell? ⟨w.heap.size,1,none⟩=some (.slice A' n0 a):=HV.out.a.2 1;have v2:wr.cell? ⟨w.heap.size,2,none⟩=some (I lp):=HV.out.a.2 2;have v3:wr.cell? ⟨w.heap.size,3,none⟩=some (.slice R' n1 r):=HV.out.a.2 3;have u0:wr.cell? ⟨w.heap.size+1,0,none⟩=some (I ((M:Int)+1)):=HV.out.b.2 0;have u1:wr.cell? ⟨w.heap.size+1,1,none⟩=some (I wk):=HV.out.b.2 1;have u2:wr.cell? ⟨w.heap.size+1,2,none⟩=some (I wd):=HV.out.b.2 2;go_wp2_with fail;refine HC.out.mono ?_;rintro e w1 ⟨rfl,hb1⟩;have jk:=ae (HV.out.below hb1);clear hb1 HV v0 v1 v2 v3 u0 u1 u2 HC;go_wp2_with fail;go_roundw
    case rel=>exact ⟨k+1,by omega,by rw [EI.out];go_num,by go_num,jk.out⟩
    case measure=>simp [intOf];omega
   ·have hkM:k=M:=by omega
    have hlt':¬(k:Int)+1<(M:Int)+1:=by omega
    have HC:=ae (qY.out M hMn wr HV.out.up);rw [hkM,xk.out];rw [hkM] at hlt';rw [HQ.out] at HC;clear hlt hkM hk;have v0:wr.cell? ⟨w.heap.size,0,none⟩=some (I ep):=HV.out.a.2 0;have v1:wr.cell? ⟨w.heap.size,1,none⟩=some (.slice A' n0 a):=HV.out.a.2 1;have v2:wr.cell? ⟨w.heap.size,2,none⟩=some (I lp):=HV.out.a.2 2;have v3:wr.cell? ⟨w.heap.size,3,none⟩=some (.slice R' n1 r):=HV.out.a.2 3;have u0:wr.cell? ⟨w.heap.size+1,0,none⟩=some (I ((M:Int)+1)):=HV.out.b.2 0;have u1:wr.cell? ⟨w.heap.size+1,1,none⟩=some (I wk):=HV.out.b.2 1;have u2:wr.cell? ⟨w.heap.size+1,2,none⟩=some (I wd):=HV.out.b.2 2;go_wp2_with fail;refine HC.out.mono ?_;rintro e w2 ⟨rfl,hb2⟩;have HX:=ae (HV.out.below hb2);clear v0 v1 v2 v3 u0 u1 u2 hb2 HV HC;have u1:w2.cell? ⟨w.heap.size+1,1,none⟩=some (I wk):=HX.out.b.2 1;have u2:w2.cell? ⟨w.heap.size+1,2,none⟩=some (I wd):=HX.out.b.2 2;go_wp2_with fail;refine (HWD.out _).mono ?_;rintro e w3 ⟨rfl,rfl⟩;go_wp2_with fail;go_ret2;exact ⟨by rw [←qE.out];rfl,HX.out.up⟩
theorem Pq (ts:List Tr) (t:Tr):(qJ ts t).Perm (ts++ [t]):=by
 unfold qJ;refine (List.perm_middle).trans ?_;rw [List.take_append_drop];exact (List.perm_append_comm (l₁:= [t]) (l₂:=ts))
theorem Lj {ts us:List Tr} (t:Tr) (h:ts.Perm us):(qJ ts t).Perm (us++ [t]):=(Pq ts t).trans (List.Perm.append_right [t] h)
theorem E5 {ts:List Tr} {size:Int} (h:ed ts size=true) (i:Nat) (hi:i<ts.length):2160≤kT ts size i:=by
 unfold ed at h;rw [List.all_eq_true] at h;exact of_decide_eq_true (h i (List.mem_range.2 hi))
theorem Xa {ts:List Tr} {size:Int} (h:ed ts size=true):∀(k i:Nat),i+k+1<ts.length→gG ts i<gG ts (i+k+1):=by
 intro k
 induction k with
 |zero=>
  intro i hi;have:=E5 h i (by omega);unfold kT at this;rw [if_pos (by omega)] at this;rw [Nat.add_zero];omega
 |succ k ih=>
  intro i hi;have h1:=ih i (by omega);have h2:=E5 h (i+k+1) (by omega);unfold kT at h2;rw [if_pos (by omega)] at h2;rw [show i+(k+1)+1=i+k+1+1 by omega];omega
theorem EP {ts:List Tr} {i:Nat} (hi:i<ts.length):gG ts i=ts[i].at_:=by
 unfold gG;rw [bZ hi];rfl
theorem Ph {ts:List Tr} {size:Int} (h:ed ts size=true):ts.Pairwise (fun a b=>a.at_<b.at_):=by
 rw [List.pairwise_iff_getElem];intro i j hi hj hij;have:=Xa h (j - i - 1) i (by omega);rw [show i+(j - i - 1)+1=j by omega,EP hi,EP hj] at this;exact this
theorem um {ts us:List Tr} {size:Int} (h:ed ts size=true) (hp:us.Perm ts) (hs:us.Pairwise (fun a b=>a.at_≤b.at_)):us=ts:=by
 have hw:=Ph h;refine List.Perm.eq_of_pairwise (le:=fun a b=>a.at_≤b.at_) ?_ hs (hw.imp (fun h=>by omega)) hp;intro a b ha hb h1 h2;obtain ⟨i,hi,rfl⟩:=List.mem_iff_getElem.1 (hp.mem_iff.1 ha);obtain ⟨j,hj,rfl⟩:=List.mem_iff_getElem.1 hb;rw [List.pairwise_iff_getElem] at hw;rcases Nat.lt_trichotomy i j with h3|h3|h3
 ·have:=hw i j hi hj h3;omega
 ·subst h3;rfl
 ·have:=hw j i hj hi h3;omega
section
open Go.Shelf
def Md:Go.Shelf.Ren:=⟨fun|6=>93|15=>112|14=>111|28=>126|29=>127|20=>118|21=>119|22=>120|23=>121|24=>122|25=>123|26=>124|27=>125|46=>131|47=>132|48=>133|49=>134|50=>135|57=>138|n=>n,fun|22=>51|24=>105|25=>192|3=>3|39=>211|0=>0|53=>170|55=>102|4=>4|46=>215|45=>214|50=>83|5=>5|9=>9|66=>223|70=>112|76=>231|77=>207|n=>n,fun|n=>n⟩
theorem Ut:SlLaysF0.n6 Tryz.prog Md:= {
 mixed:=by kernel_rfl
 f6:=⟨Tryz.f93.name,by decide,Tryz.func93.trans (congrArg some (by kernel_rfl))⟩
 f14:=⟨Tryz.f111.name,by decide,Tryz.func111.trans (congrArg some (by kernel_rfl))⟩
 f15:=Tryz.func112.trans (congrArg some (by kernel_rfl))
 f20:=⟨Tryz.f118.name,by decide,Tryz.func118.trans (congrArg some (by kernel_rfl))⟩
 f21:=⟨Tryz.f119.name,by decide,Tryz.func119.trans (congrArg some (by kernel_rfl))⟩
 f22:=⟨Tryz.f120.name,by decide,Tryz.func120.trans (congrArg some (by kernel_rfl))⟩
 f23:=⟨Tryz.f121.name,by decide,Tryz.func121.trans (congrArg some (by kernel_rfl))⟩
 f24:=⟨Tryz.f122.name,by decide,Tryz.func122.trans (congrArg some (by kernel_rfl))⟩
 f25:=⟨Tryz.f123.name,by decide,Tryz.func123.trans (congrArg some (by kernel_rfl))⟩
 f26:=⟨Tryz.f124.name,by decide,Tryz.func124.trans (congrArg some (by kernel_rfl))⟩
 f27:=⟨Tryz.f125.name,by decide,Tryz.func125.trans (congrArg some (by kernel_rfl))⟩
 f28:=Tryz.func126.trans (congrArg some (by kernel_rfl))
 f29:=Tryz.func127.trans (congrArg some (by kernel_rfl))
 f46:=⟨Tryz.f131.name,by decide,Tryz.func131.trans (congrArg some (by kernel_rfl))⟩
 f47:=Tryz.func132.trans (congrArg some (by kernel_rfl))
 f48:=Tryz.func133.trans (congrArg some (by kernel_rfl))
 f49:=⟨Tryz.f134.name,by decide,Tryz.func134.trans (congrArg some (by kernel_rfl))⟩
 f50:=⟨Tryz.f135.name,by decide,Tryz.func135.trans (congrArg some (by kernel_rfl))⟩
 f57:=⟨Tryz.f138.name,by decide,Tryz.func138.trans (congrArg some (by kernel_rfl))⟩
 t0:=Tryz.underlying0
 a0:=Tryz.isAgg0
 z0:=Tryz.sizeOf0
 v0:=Tryz.zeroValue0
 t3:=Tryz.underlying3
 a3:=Tryz.isAgg3
 z3:=Tryz.sizeOf3
 v3:=Tryz.zeroValue3
 t4:=Tryz.underlying4
 a4:=Tryz.isAgg4
 z4:=Tryz.sizeOf4
 v4:=Tryz.zeroValue4
 t5:=Tryz.underlying5
 a5:=Tryz.isAgg5
 z5:=Tryz.sizeOf5
 v5:=Tryz.zeroValue5
 t9:=Tryz.underlying9
 a9:=Tryz.isAgg9
 z9:=Tryz.sizeOf9
 v9:=Tryz.zeroValue9
 t22:=Tryz.underlying51
 a22:=Tryz.isAgg51
 z22:=Tryz.sizeOf51
 v22:=Tryz.zeroValue51
 t25:=Tryz.underlying192
 a25:=Tryz.isAgg192
 z25:=Tryz.sizeOf192
 v25:=Tryz.zeroValue192
 t39:=Tryz.underlying211
 a39:=Tryz.isAgg211
 z39:=Tryz.sizeOf211
 v39:=Tryz.zeroValue211
 t45:=Tryz.underlying214
 a45:=Tryz.isAgg214
 z45:=Tryz.sizeOf214
 v45:=Tryz.zeroValue214
 t46:=Tryz.underlying215
 a46:=Tryz.isAgg215
 z46:=Tryz.sizeOf215
 v46:=Tryz.zeroValue215
 t50:=Tryz.underlying83
 a50:=Tryz.isAgg83
 z50:=Tryz.sizeOf83
 v50:=Tryz.zeroValue83
 t53:=Tryz.underlying170
 a53:=Tryz.isAgg170
 z53:=Tryz.sizeOf170
 v53:=Tryz.zeroValue170
 t55:=Tryz.underlying102
 a55:=Tryz.isAgg102
 z55:=Tryz.sizeOf102
 v55:=Tryz.zeroValue102
 t66:=Tryz.underlying223
 a66:=Tryz.isAgg223
 z66:=Tryz.sizeOf223
 v66:=Tryz.zeroValue223
 t70:=Tryz.underlying112
 a70:=Tryz.isAgg112
 z70:=Tryz.sizeOf112
 v70:=Tryz.zeroValue112
 t76:=Tryz.underlying231
 a76:=Tryz.isAgg231
 z76:=Tryz.sizeOf231
 v76:=Tryz.zeroValue231
 t77:=Tryz.underlying207
 a77:=Tryz.isAgg207
 z77:=Tryz.sizeOf207
 v77:=Tryz.zeroValue207}
def KI:Go.Shelf.Ren:=⟨fun|5=>95|7=>113|n=>n,fun|22=>3|3=>3|4=>4|n=>n,fun|n=>n⟩
theorem cmpInt:SlLaysC2.n5 Tryz.prog KI:= {
 mixed:=by kernel_rfl
 f5:=⟨Tryz.f95.name,by decide,Tryz.func95.trans (congrArg some (by kernel_rfl))⟩
 f7:=⟨Tryz.f113.name,by decide,Tryz.func113.trans (congrArg some (by kernel_rfl))⟩
 t3:=Tryz.underlying3
 a3:=Tryz.isAgg3
 z3:=Tryz.sizeOf3
 v3:=Tryz.zeroValue3
 t4:=Tryz.underlying4
 a4:=Tryz.isAgg4
 z4:=Tryz.sizeOf4
 v4:=Tryz.zeroValue4
 t22:=Tryz.underlying3
 a22:=Tryz.isAgg3
 z22:=Tryz.sizeOf3
 v22:=Tryz.zeroValue3}
end
instance:Inhabited Tr:=⟨⟨0,0⟩⟩
def D7 (x y:Tr):Int:=Lib.compareInt x.at_ y.at_
theorem Xx (x y:Tr):Go.Proofs.ltOf D7 x y=decide (x.at_<y.at_):=by
 unfold Go.Proofs.ltOf D7 Lib.compareInt;by_cases h1:x.at_<y.at_
 ·simp [h1]
 ·by_cases h2:y.at_<x.at_<;>simp [h1,h2]
theorem swoTr:Go.Sort.SWO (Go.Proofs.ltOf D7) where
 irrefl x:=by rw [Xx];simp
 trans x y z h1 h2:=by rw [Xx] at*;simp at*;omega
 ntrans x y z h1 h2:=by rw [Xx] at*;simp at*;omega
theorem X4 (x y:Tr) (W:World):Calls Tryz.prog 94 #[.agg #[I x.at_,I x.off], .agg #[I y.at_,I y.off]] W fun e w'=>e= .returned (I (D7 x y))∧∃q os',w'=Go.Sort.grow (W.drewN q) os':=by
 have hcon:=fun W'=>Go.Proofs.AnyG.cmp_Compare_int cmpInt x.at_ y.at_ W';change∀W',Calls Tryz.prog 95 _ _ _ at hcon;have HC:=ae hcon;clear hcon;unfold D7;generalize Lib.compareInt x.at_ y.at_=r at HC ⊢;go_enter Tryz.func94,Tryz.ntmps94;go_wp2_with fail;refine (HC.out _).mono ?_;rintro e w1 ⟨rfl,rfl⟩;go_wp2_with fail;go_ret;exact ⟨rfl,0,_,by rw [Go.Sort.alloc_eq_grow,Go.Sort.alloc_eq_grow,Go.Sort.grow_grow];rfl⟩
theorem PZ {w:World} {g m:Nat} {d:Array Tr} {os:Array Obj} {cur:Array Value} {t:TypeId} (h:w.heap[g]? =some (.cells cur t (0,0))):
  (Go.Proofs.sortWorldK Tr.cells 2 w g 0 m d os).heap[g]? =some (.cells (Go.Sort.putCells id 0 (Go.Sort.flatK Tr.cells 2 d) cur) t (0,0)):=by
 have hg:=(bK.1 h).1;unfold Go.Proofs.sortWorldK Go.Sort.grow Go.Sort.putRowK Go.Sort.putRow Go.Sort.mapBlock Go.Sort.ahead;simp only;rw [Array.getElem?_append_left (by simpa using hg),Array.getElem?_modify,if_pos rfl,h];rfl
theorem Me {w:World} {g m:Nat} {d:Array Tr} {os:Array Obj}:w.grownBy (Go.Proofs.sortWorldK Tr.cells 2 w g 0 m d os) (some g):=by
 refine ⟨rfl,rfl,rfl,?_,fun k hk hn=>?_⟩
 ·unfold Go.Proofs.sortWorldK Go.Sort.grow Go.Sort.putRowK Go.Sort.putRow Go.Sort.mapBlock Go.Sort.ahead;simp
 ·have hne:g≠k:=fun e=>hn (by rw [e]);unfold Go.Proofs.sortWorldK Go.Sort.grow Go.Sort.putRowK Go.Sort.putRow Go.Sort.mapBlock Go.Sort.ahead;simp only;rw [Array.getElem?_append_left (by simpa using hk),Array.getElem?_modify,if_neg hne]
theorem D9 (d:Array Tr) (j:Nat) (hj:j<d.size*2):(Go.Sort.flatK Tr.cells 2 d)[j]? =(d.toList.flatMap Tr.cells)[j]? :=by
 have hq:j / 2<d.size:=by omega
 have hx:d.toList[j / 2]? =some d[j / 2]! :=by
  rw [Array.getElem?_toList,Array.getElem?_eq_getElem hq,getElem!_pos d (j / 2) hq]
 have h1:=flat_get (s:=2) Tr.cells d.toList (fun _ _=>rfl) (j / 2) (j%2) d[j / 2]! hx (by omega);rw [show j / 2*2+j%2=j by omega] at h1;rw [h1];unfold Go.Sort.flatK;rw [Array.getElem?_map,Array.getElem?_range,if_pos hj];have h2:j%2=0∨j%2=1:=by omega
 rcases h2 with h2|h2<;>rw [Option.map_some,h2]<;>rfl
theorem Uu {lo g n c m:Nat} {w:World} {ts:List Tr} {d:Array Tr} {os:Array Obj} (h:iG lo w (some ⟨g,0,none⟩) n c ts) (hd:d.size=n):
  iG lo (Go.Proofs.sortWorldK Tr.cells 2 w g 0 m d os) (some ⟨g,0,none⟩) n c d.toList:=by
 obtain ⟨h0,⟨hv,hn⟩|⟨g',cap,cur,hv,hg,hh,hc,hm,hs,ht⟩⟩:=h
 ·cases hv
 ·injection hv with h1 h2 h3;injection h1 with h1;injection h1 with h1;subst h1 h3;have hfl:(d.toList.flatMap Tr.cells).length=n*2:=by rw [cu (s:=2) Tr.cells _ (fun _ _=>rfl),Array.length_toList,hd]
  refine ⟨hfl, .inr ⟨g,c,_,rfl,hg,PZ hh,hc,hm,by rw [←hs];simp [Go.Sort.putCells],?_⟩⟩;apply List.ext_getElem?;intro j;rw [List.getElem?_take];by_cases hj:j<n*2
  ·rw [if_pos hj,Array.getElem?_toList,←D9 d j (by rw [hd];exact hj)];have hfs:(Go.Sort.flatK Tr.cells 2 d).size=n*2:=by simp [Go.Sort.flatK,hd]
   have hcs:j<cur.size:=by rw [hs];exact dW hj (Nat.mul_le_mul_right 2 hc)
   unfold Go.Sort.putCells;rw [Array.getElem?_mapIdx,Array.getElem?_eq_getElem hcs,Option.map_some,if_pos ⟨Nat.zero_le _,by rw [hfs];omega⟩,Nat.sub_zero,Array.getElem?_eq_getElem (by rw [hfs];exact hj),getElem!_pos _ j (by rw [hfs];exact hj)];rfl
  ·rw [if_neg hj,List.getElem?_eq_none (by rw [hfl];omega)]
structure pW (w:World) (zc:List Value) (cy:Int) (A:Option Addr) (n c:Nat) (ts:List Tr) (W:World):Prop where
 lo:Below w.heap.size w W
 z:AV w.heap.size 54 zc.toArray W
 k:AV (w.heap.size+1) 190 (zc++ [Value.slice A n c,I cy]).toArray W
 own:iG (w.heap.size+2) W A n c ts
 len:ts.length=n
section
variable {w W W':World} {zc:List Value} {cy:Int} {A:Option Addr} {n c:Nat} {ts:List Tr}
theorem pW.grow (h:pW w zc cy A n c ts W) (hb:Below W.heap.size W W'):pW w zc cy A n c ts W':=⟨ai h.lo hb,h.z.below hb,h.k.below hb,h.own.below hb,h.len⟩
theorem pW.drew (h:pW w zc cy A n c ts W):pW w zc cy A n c ts W.drew:=h.grow ((Below.refl _ W).drew)
theorem pW.drewN (h:pW w zc cy A n c ts W) (q:Nat):pW w zc cy A n c ts (W.drewN q):=h.grow (below_drewN' _ _)
theorem pW.Zz (h:pW w zc cy A n c ts W) (h8:zc.length=8) (v:Int):pW w zc v A n c ts (W.setCell ⟨w.heap.size+1,9,none⟩ (I v)):=by
 refine ⟨h.lo.setCell (p:=⟨w.heap.size+1,9,none⟩) (by show w.heap.size≤w.heap.size+1;omega) _,h.z.far (by omega) 9 _,?_,bY (p:=⟨w.heap.size+1,9,none⟩) h.own (dZ h.own _ (by show w.heap.size+1<_;omega)),h.len⟩;have h2:=h.k.put 9 (I v);have e:(zc++ [Value.slice A n c,I cy]).toArray.setIfInBounds 9 (I v)=(zc++ [Value.slice A n c,I v]).toArray:=by
  match zc,h8 with
  | [_,_,_,_,_,_,_,_],_=>rfl
 rw [e] at h2;exact h2
theorem pW.add {Wb w6:World} {gg cap:Nat} {x:Tr} (h:pW w zc cy A n c ts W) (h8:zc.length=8) (Fb:Wb=W.alloc (.cells #[I x.at_,I x.off] 105))
  (hown:w6.ownsRow (w.heap.size+2) 105 2 (.slice (Option.some ⟨gg,0,none⟩) (n+1) cap) (n+1) (ts.flatMap Tr.cells++ [I x.at_,I x.off])) (hg:Wb.grownBy w6 (Value.slice A n c).ownBlock):
  pW w zc cy (Option.some ⟨gg,0,none⟩) (n+1) cap (ts++ [x]) (w6.setCell ⟨w.heap.size+1,8,none⟩ (.slice (Option.some ⟨gg,0,none⟩) (n+1) cap)):=by
 have hsb:Wb.heap.size=W.heap.size+1:=by rw [Fb];simp
 have hlt:=h.k.lt;have hbl:∀b,b<W.heap.size→Option.some b≠(Value.slice A n c).ownBlock→w6.heap[b]? =W.heap[b]? :=fun b hb hn=>
  (hg.block b (by omega) hn).trans (by rw [Fb];exact Below.heap_alloc W _ b hb)
 have hlow:=dZ h.own;have hset:∀b,b≠w.heap.size+1→(w6.setCell ⟨w.heap.size+1,8,none⟩ (.slice (Option.some ⟨gg,0,none⟩) (n+1) cap)).heap[b]? =w6.heap[b]? :=fun b hb=>heap_setCell_other w6 ⟨w.heap.size+1,8,none⟩ b _ hb;have h1:Below w.heap.size w Wb:=by rw [Fb];exact ai h.lo (ag W _)
 have hob:Wb.ownsRow (w.heap.size+2) 105 2 (.slice A n c) n (ts.flatMap Tr.cells):=by rw [Fb];exact own_below h.own (ag W _)
 have hk6:AV (w.heap.size+1) 190 (zc++ [Value.slice A n c,I cy]).toArray w6:=⟨(hbl _ hlt (hlow _ (by omega))).trans h.k.var⟩;have hup:Below w.heap.size w w6:=dm h1 (aK hob (by omega)) h1.size hg;have hgl:=iV hown;refine ⟨hup.setCell (p:=⟨w.heap.size+1,8,none⟩) (by show w.heap.size≤w.heap.size+1;omega) _,⟨(hset _ (by omega)).trans ((hbl _ (by omega) (hlow _ (by omega))).trans h.z.var)⟩,?_,?_,by rw [bH,h.len];rfl⟩
 ·have h2:=hk6.put 8 (.slice (Option.some ⟨gg,0,none⟩) (n+1) cap);have e:(zc++ [Value.slice A n c,I cy]).toArray.setIfInBounds 8 (.slice (Option.some ⟨gg,0,none⟩) (n+1) cap)=(zc++ [Value.slice (Option.some ⟨gg,0,none⟩) (n+1) cap,I cy]).toArray:=by
   match zc,h8 with
   | [_,_,_,_,_,_,_,_],_=>rfl
  rw [e] at h2;exact h2
 ·unfold iG;have e:(ts++ [x]).flatMap Tr.cells=ts.flatMap Tr.cells++ [I x.at_,I x.off]:=by simp [Tr.cells]
  rw [e];exact bY (p:=⟨w.heap.size+1,8,none⟩) hown (fun e=>by
   have:w.heap.size+1=gg:=by simpa [Value.ownBlock] using e
   omega)
theorem pW.sorted {us:List Tr} (h:pW w zc cy A n c ts W) (hl:us.length=n) (ho:iG (w.heap.size+2) W' A n c us) (hg:W.grownBy W' (Value.slice A n c).ownBlock):pW w zc cy A n c us W':=by
 have hlow:=dZ h.own;have hlt:=h.k.lt;exact ⟨dm h.lo (aK h.own (by omega)) h.lo.size hg,⟨(hg.block _ (by omega) (hlow _ (by omega))).trans h.z.var⟩,⟨(hg.block _ hlt (hlow _ (by omega))).trans h.k.var⟩,ho,hl⟩
end
def JM (rb zb yb yo:Nat) (mi of of2:Int) (yv:Value) (W:World):Prop:=
 W.cell? ⟨rb,3,none⟩=some (I mi)∧W.cell? ⟨rb,4,none⟩=some (I of)∧W.cell? ⟨zb,7,none⟩=some yv∧W.cell? ⟨yb,yo,none⟩=some (I of2)
theorem Ja {lo g n c:Nat} {w:World} {ts:List Tr} (h:iG lo w (some ⟨g,0,none⟩) n c ts) (hl:ts.length=n) (hn:n≤10000000):
  Calls Tryz.prog 93 #[.slice (some ⟨g,0,none⟩) n c, .func (.func 94) #[] #[]] w fun e w'=>
   e= .returned (.tuple #[])∧∃us:List Tr,us.Perm ts∧us.Pairwise (fun a b=>a.at_≤b.at_)∧iG lo w' (some ⟨g,0,none⟩) n c us∧w.grownBy w' (some g):=by
 have hH:Go.Sort.HoldsK Tr.cells 2 w g 0 ts.toArray:=by
  intro j hj;have hj2:j<n*2:=by
   have:(Go.Sort.flatK Tr.cells 2 ts.toArray).size=n*2:=by simp [Go.Sort.flatK,hl]
   omega
  have h3:=D9 ts.toArray j (by simpa [hl] using hj2);rw [getElem!_pos _ j hj];rw [Array.getElem?_eq_getElem hj] at h3;rw [Nat.zero_add];exact ⟨oq h j _ h3.symm,Bg h j⟩
 have hg:=iV h;have eg:∀args w,(callFunc 94 args).run Tryz.prog w= .ok (.enter 94 args) w:=enters_of Tryz.func94 (by kernel_rfl) rfl;have hcon:=Go.Proofs.AnyQ.slices_SortFunc Ut 2 Tryz.isAgg105 Tryz.sizeOf105 Tr.cells (fun _=>rfl) (fun x v hv=>by simp [Tr.cells] at hv;rcases hv with rfl|rfl<;>rfl) D7 swoTr 94 #[] g 0 c ts.toArray w eg (fun _ _ _ _ x y=>X4 x y _) hH hg.2 (by simp [hl];omega);rw [show ts.toArray.size=n by simpa using hl] at hcon;refine hcon.mono ?_;rintro e w' ⟨rfl,d',m,os,hp,hs,rfl⟩;obtain ⟨hsz,_,hpm⟩:=hp;have hdn:d'.size=n:=by rw [hsz];simpa using hl
 have e1:d'.extract 0 n=d':=by rw [←hdn];exact Array.extract_size
 have e2:ts.toArray.extract 0 n=ts.toArray:=by
  have:ts.toArray.size=n:=by simpa using hl
  rw [←this];exact Array.extract_size
 rw [e1,e2] at hpm;refine ⟨rfl,d'.toList,hpm,?_,Uu h hdn,Me⟩;rw [List.pairwise_iff_getElem];intro i j hi hj hij;have hi':i<d'.size:=by simpa using hi
 have hj':j<d'.size:=by simpa using hj
 have h4:=hs i j (Nat.zero_le _) hij (by omega);rw [Xx,getElem!_pos d' i hi',getElem!_pos d' j hj'] at h4;have h5:=of_decide_eq_false h4;simp only [Array.getElem_toList];omega
theorem I9 {lo n c:Nat} {A:Option Addr} {w:World} {ts:List Tr} (h:iG lo w A n c ts) (hl:ts.length=n) (hn:n≤10000000):
  Calls Tryz.prog 93 #[.slice A n c, .func (.func 94) #[] #[]] w fun e w'=>
   e= .returned (.tuple #[])∧∃us:List Tr,us.Perm ts∧us.Pairwise (fun a b=>a.at_≤b.at_)∧iG lo w' A n c us∧w.grownBy w' (Value.slice A n c).ownBlock:=by
 by_cases h0:n=0
 ·subst h0;have ht:ts= []:=List.eq_nil_of_length_eq_zero hl;subst ht;refine (Go.Proofs.AnyF.slices_SortFunc_none {Ut with} A c _ w).mono ?_;rintro e w' ⟨rfl,rfl⟩;exact ⟨rfl,[],List.Perm.refl _,List.Pairwise.nil,h,⟨rfl,rfl,rfl,Nat.le_refl _,fun _ _ _=>rfl⟩⟩
 ·obtain ⟨g,rfl⟩:∃g,A=some ⟨g,0,none⟩:=by
   rcases h.2 with ⟨hv,hz⟩|⟨g,cap,cur,hv,_⟩
   ·exact absurd hz h0
   ·injection hv with h1 _ _;exact ⟨g,h1⟩
  exact Ja h hl hn
def ou (c:Cal) (bg y:Int) (r r':Yr) (out:List Tr):List Tr:=if (Qm c bg y r).2=true then out++ [⟨(Qm c bg y r).1*1440+r.minute - r'.off,r.off⟩] else out
def oz (c:Cal) (r0 r1:Yr) (stop:Int):Nat→Int→Int→List Tr→List Tr
 |0,_,_,out=>out
 |n+1,bg,y,out=>if bg<stop then oz c r0 r1 stop n (bg+uw c y) (y+1) (ou c bg y r1 r0 (ou c bg y r0 r1 out)) else out
theorem Uc {c:Cal} {r0 r1:Yr} {stop bg y:Int} {f:Nat} {ts res:List Tr} (h:oz c r0 r1 stop f bg y ts=res) (hb:bg<stop) (hf:(stop - bg).toNat≤f) (hy:1≤uw c y):
  ∃f',(stop - (bg+uw c y)).toNat≤f'∧oz c r0 r1 stop f' (bg+uw c y) (y+1) (ou c bg y r1 r0 (ou c bg y r0 r1 ts))=res:=by
 cases f with
 |zero=>omega
 |succ f=>exact ⟨f,by omega,by rw [oz,if_pos hb] at h;exact h⟩
theorem PO {c:Cal} {r0 r1:Yr} {stop bg y:Int} {f:Nat} {ts res:List Tr} (h:oz c r0 r1 stop f bg y ts=res) (hb:¬bg<stop):ts=res:=by
 cases f with
 |zero=>exact h
 |succ f=>rw [oz,if_neg hb] at h;exact h
def fV (z:Zn):Int:=match z.ax with| []=>1|_::_=>Io (GH z.cal)
def sU (z:Zn):List Tr:=match z.ax with
 | [r0,r1]=>oz z.cal r0 r1 (z.cal.aJ+fV z) (fV z).toNat z.cal.aJ 1 []
 |_=> []
def rP (z:Zn):List Tr:=(sU z).mergeSort (fun a b=>decide (a.at_≤b.at_))
theorem tY (z:Zn):(rP z).Perm (sU z):=List.mergeSort_perm _ _
theorem BU (z:Zn):(rP z).Pairwise (fun a b=>a.at_≤b.at_):=by
 have h:=List.pairwise_mergeSort (le:=fun (a b:Tr)=>decide (a.at_≤b.at_)) (fun a b c h1 h2=>by simp only [decide_eq_true_eq] at*;omega) (fun a b=>by simp only [Bool.or_eq_true,decide_eq_true_eq];omega) (sU z);exact h.imp (fun h=>by simpa using h)
theorem Ea {ts us:List Tr} {size:Int} (hp:us.Perm ts) (hs:us.Pairwise (fun a b=>a.at_≤b.at_)) (ht:ts.Pairwise (fun a b=>a.at_≤b.at_)):ed us size=ed ts size:=by
 cases h:ed ts size with
 |true=>rw [um h hp hs,h]
 |false=>
  cases h2:ed us size with
  |false=>rfl
  |true=>
   rw [um h2 hp.symm ht,h2] at h;cases h
theorem Ip {ts:List Tr} {size:Int} {k:Nat} (hk:k<ts.length) (h:kT ts size k<2160):ed ts size=false:=by
 cases e:ed ts size with
 |false=>rfl
 |true=>
  have:=E5 e k hk;omega
theorem wX (z:Zn) (hc:eH z.cal):1≤fV z∧fV z≤1836800:=by
 have h1:=KN hc;unfold fV Io;split
 ·omega
 ·split<;>omega
theorem UT (c:Cal) (bg y:Int) (r:Yr) (hc:eH c) (hr:rM c.aj.length r):bg - 10≤(Qm c bg y r).1∧(Qm c bg y r).1≤bg+800:=by
 have h1:=hr.mo;have h2:=qV c y hc (r.month - 1).toNat (by omega);have h3:=vF c y (r.month - 1).toNat hc (by omega);have h4:=hc.ml;have h5:=hr.wk;unfold Qm O9;split
 ·simp only;omega
 ·simp only;omega
def nI (ts:List Tr):Prop:=∀x∈ts, -100000≤x.at_∧x.at_≤10000000000
theorem lY {ts:List Tr} (k:Nat) (h:nI ts): -100000≤gG ts k∧gG ts k≤10000000000:=by
 unfold gG;cases e:ts[k]? with
 |none=>simp
 |some x=>exact h x (gU e)
theorem Bo (c:Cal) (bg y:Int) (r r':Yr) (ts:List Tr) (hc:eH c) (hr:rM c.aj.length r) (hr':rM c.aj.length r') (hb:0≤bg) (hb2:bg≤4000000) (h:nI ts):nI (ou c bg y r r' ts):=by
 have h1:=UT c bg y r hc hr;have h2:=hr.mi;have h3:=hr'.of;unfold ou;split
 ·intro x hx;rcases List.mem_append.1 hx with hx|hx
  ·exact h x hx
  ·rw [List.mem_singleton.1 hx];simp only;omega
 ·exact h
theorem nI.perm {ts us:List Tr} (h:nI ts) (hp:us.Perm ts):nI us:=fun x hx=>h x (hp.mem_iff.1 hx)
theorem Ef (kb:Nat) (cy:Int) (w:World) (h:w.cell? ⟨kb,9,none⟩=some (I cy)) (h0:0≤cy) (h1:cy≤2000000):Calls Tryz.prog 96 #[.pointer (some ⟨kb,0,none⟩)] w fun e w'=>e= .returned (I (cy*1440))∧w'=w:=by
 go_enter Tryz.func96,Tryz.ntmps96;go_wp2_with fail;go_ret;exact ⟨rfl,rfl⟩
theorem vk (kb:Nat) (cy:Int) (w:World) (h:w.cell? ⟨kb,9,none⟩=some (I cy)) (h0:0≤cy) (h1:cy≤2000000) (k:Nat):Calls Tryz.prog 96 #[.pointer (some ⟨kb,0,none⟩)] (w.drewN k) fun e w'=>e= .returned (I (cy*1440))∧∃m,w'=w.drewN m:=
 (Ef kb cy (w.drewN k) h h0 h1).mono fun _ _ ⟨h2,h3⟩=>⟨h2,k,h3⟩
def oN (z:Zn):Prop:=z.ax= []∨∃r0 r1,z.ax= [r0,r1]∧rM z.cal.aj.length r0∧rM z.cal.aj.length r1
def kW (z:Zn) (i:Nat):Prop:=(-1080≤jE z.trans i∧jE z.trans i≤1080)∧(-2251799813685248≤gG z.trans i∧gG z.trans i≤2251799813685248)∧gG z.trans i<z.hor∧(i=0∨2160≤gG z.trans i - gG z.trans (i - 1))
def oU (z:Zn) (i:Nat):Bool:=decide (-1080≤jE z.trans i∧jE z.trans i≤1080)&&(decide (-2251799813685248≤gG z.trans i∧gG z.trans i≤2251799813685248)&&(decide (gG z.trans i<z.hor)&&decide (i=0∨2160≤gG z.trans i - gG z.trans (i - 1))))
theorem gm (z:Zn) (i:Nat):oU z i=true↔kW z i:=by
 unfold oU kW;simp only [Bool.and_eq_true,decide_eq_true_eq]
def vN (n:Nat) (r:Yr):Bool:=decide (1≤r.month∧r.month≤(n:Int))&&(decide (1≤r.cZ∧r.cZ≤5)&&(decide (0≤r.dh∧r.dh≤6)&&(decide (0≤r.minute∧r.minute<1440)&&decide (-1080≤r.off∧r.off≤1080))))
theorem ig (n:Nat) (r:Yr):vN n r=true↔rM n r:=by
 unfold vN;simp only [Bool.and_eq_true,decide_eq_true_eq];exact ⟨fun ⟨h1,h2,h3,h4,h5⟩=>⟨h1,h2,h3,h4,h5⟩,fun ⟨h1,h2,h3,h4,h5⟩=>⟨h1,h2,h3,h4,h5⟩⟩
def UZ (z:Zn):Bool:=match z.ax with
 | []=>true
 | [r0,r1]=>vN z.cal.aj.length r0&&vN z.cal.aj.length r1
 |_=>false
theorem Qn (z:Zn):UZ z=true↔oN z:=by
 unfold UZ oN;split
 ·rename_i e;exact ⟨fun _=> .inl e,fun _=>rfl⟩
 ·rename_i r0 r1 e;rw [Bool.and_eq_true,ig,ig];refine ⟨fun ⟨h1,h2⟩=> .inr ⟨r0,r1,e,h1,h2⟩,fun h=>?_⟩;rcases h with h|⟨a,b,e2,h1,h2⟩
  ·rw [e] at h;cases h
  ·rw [e] at e2;injection e2 with e3 e4;injection e4 with e5 _;subst e3 e5;exact ⟨h1,h2⟩
 ·rename_i h1 h2;refine ⟨(fun h=>by cases h),fun h=>?_⟩;rcases h with h|⟨a,b,e2,_⟩
  ·exact absurd h h1
  ·exact absurd e2 (h2 a b)
def xU (z:Zn):Prop:=0<z.trans.length→(rP z).length≠0→2160≤(eU (rP z) (fV z*1440) z.hor).1.at_ - gG z.trans (z.trans.length - 1)
structure yR (z:Zn):Prop where
 Oq:z.trans.length≤512
 cal:eH z.cal
 st: -1080≤z.start∧z.start≤1080
 ho: -2251799813685248≤z.hor∧z.hor≤2251799813685248
 tr:∀i,i<z.trans.length→kW z i
 yr:oN z
 dU:ed (rP z) (fV z*1440)=true
 late:xU z
def Bc (z:Zn):Bool:=decide (z.trans.length≤512)&&(vC z.cal&&(decide (-1080≤z.start∧z.start≤1080)&&(decide (-2251799813685248≤z.hor∧z.hor≤2251799813685248)&&((List.range z.trans.length).all (oU z)&&(UZ z&&(ed (rP z) (fV z*1440)&&decide (0<z.trans.length→(rP z).length≠0→2160≤(eU (rP z) (fV z*1440) z.hor).1.at_ - gG z.trans (z.trans.length - 1))))))))
theorem FD (z:Zn):Bc z=true↔yR z:=by
 unfold Bc;simp only [Bool.and_eq_true,decide_eq_true_eq,List.all_eq_true,List.mem_range,BJ,gm,Qn];exact ⟨fun ⟨h1,h2,h3,h4,h5,h6,h7,h8⟩=>⟨h1,h2,h3,h4,h5,h6,h7,h8⟩,fun ⟨h1,h2,h3,h4,h5,h6,h7,h8⟩=>⟨h1,h2,h3,h4,h5,h6,h7,h8⟩⟩
theorem FH {z:Zn} (h:yR z):Bc z=true:=(FD z).2 h
def uA (z:Zn):Int:=if 512<z.trans.length then 2 else if Bc z=true then 0 else 1
end Go.Proofs.YtbaehbbonkljpaaGreat
