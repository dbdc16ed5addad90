/- The texts Wh, in this order. -/
import Derived.Test.YtbaehbbonkljpaaGreatDoorS00
import Derived.Test.YtbaehbbonkljpaaGreatDoorS35
set_option maxRecDepth 10000
set_option maxHeartbeats 8000000
namespace Go.Proofs.YtbaehbbonkljpaaGreatDoor
open Go Go.RowKit
def SmE (e:Ze):Prop:=e.name.size<=100/\e.z.cal.au.length<=40/\e.z.cal.rules.length<=40/\e.z.trans.length<=40/\e.z.aH.length<=10
def SmP (w:World) (zs:List dw) (e:Ending) (w':World):Prop:=∃q,e= .returned (.bool q)/\(q=true->zs.length<=6/\∀y∈zs,SmE y.e)/\Below w.heap.size w w'
theorem QH (x:dF) (w:World) (h:fV w w.heap.size x):
  Calls Tryz.prog 6 #[.agg (ai x.t (.slice x.A x.zs.length x.c))] w (SmP w x.zs):=by
 obtain ⟨t,A,c,zs⟩:=x;simp only at h ⊢;obtain ⟨n,hn⟩:∃n,zs.length=n:=⟨_,rfl⟩;have HN:=ae hn;have HC:=ae h.aF;have HR0:=ae (Row.new w (ai t (.slice A n c)) 26);have HB0:=ae (ag w (.cells (ai t (.slice A n c)) 26));rw [hn];clear h hn;go_enter Tryz.func6,Tryz.ntmps6;go_upto_region 1 with fail;generalize w.alloc (.cells (ai t (.slice A n c)) 26)=W0 at HR0 HB0 ⊢;have c3:W0.cell? ⟨w.heap.size,3,none⟩=some (.slice A n c):=HR0.out.2 3;by_cases h6:6<n
 ·have h6':(6:Int)<(n:Int):=by omega
  go_wp2_with fail;go_ret;exact ⟨false,rfl,(fun h=>by cases h),HB0.out⟩
 have h6':¬(6:Int)<(n:Int):=by omega
 go_wp2_with fail;have Oc:Hid (∀W,Below W0.heap.size W0 W->Row W w.heap.size (ai t (.slice A n c))):=ae fun W hb=>HR0.out.keep hb;have N7:=HB0;clear c3 HR0 HB0
 go_loopw [3,4] (fun i _ wr=>∃k:Nat,k<=n/\i= .int .i64 k/\(∀(j:Nat) (y:dw),j<k->zs[j]? =some y->SmE y.e)/\Below W0.heap.size W0 wr) (fun i _ _=>n - (intOf i).toNat)
 case atStart=>exact ⟨0,Nat.zero_le _,rfl,fun j y hj=>absurd hj (Nat.not_lt_zero _),Below.refl _ _⟩
 case round=>
  obtain ⟨k,hk,rfl,hall,hbl⟩:=hrel;have iq:=ae hall;have HB:=ae hbl;have c3:wr.cell? ⟨w.heap.size,3,none⟩=some (.slice A n c):=(Oc.out wr hbl).2 3;clear hall hbl;by_cases hlt:k<n
  ·have hkl:k<zs.length:=by rw [HN.out];exact hlt
   obtain ⟨x,hx⟩:∃x,zs[k]? =some x:=⟨_,bK hkl⟩;obtain ⟨b,off,rfl,hbw,hcl⟩:=HC.out.row.there (by rw [dX];omega);have HXX:=ae hx;have hb0:=ah N7.out HB.out;have yf:Hid (∀W,Below w.heap.size w W->W.rangeAt b (off+k*9) x.cells.toList):=ae fun W hW j u hu=>by
    have hj:j<9:=(gQ.1 hu).1;rw [Nat.add_assoc];refine (hW.cell (p:=⟨b,off+(k*9+j),none⟩) hbw).trans (hcl _ u ?_);rw [lG zs k j x hx hj];simpa using hu
   have WJ:Hid (wr.rangeAt b (off+k*9+1) (ay x.e.z x.s).toList):=ae fun j u hu=>by
    rw [Nat.add_assoc];exact yf.out wr hb0 (1+j) u (by rw [Nat.add_comm];exact hu)
   have i0:(0:Int)<=(k:Int):=by omega
   have i1:(k:Int)<(n:Int):=by omega
   have hsw:=HB.out.size;have qh:=ae hb0;clear hkl hx hcl hb0;go_upto_region 7 with (first
    |((with_reducible refine dY 69 ?_);go_must (refine wpList_load_mid rfl _ _ rfl b (off+k*9+1) rfl (ay x.e.z x.s).toList _ WJ.out Tryz.underlying69 rfl (rC x.e.z x.s) ?_))
    |((with_reducible refine aZ 69 ?_);go_must (refine jM rfl rfl _ _ _ rfl rfl rfl rfl (.agg iH) (ay x.e.z x.s) (by kernel_rfl) rfl rfl rfl (Ar _ _) ?_)))
   have hx:=ag wr (.cells (ay x.e.z x.s) 69);have hr:=(Row.new wr (ay x.e.z x.s) 69).2;have DN:=ae (ah HB.out hx);have c3':(wr.alloc (.cells (ay x.e.z x.s) 69)).cell? ⟨w.heap.size,3,none⟩=some (.slice (some ⟨b,off,none⟩) n c):=(Oc.out _ DN.out).2 3;have hnm:(wr.alloc (.cells (ay x.e.z x.s) 69)).cell? ⟨b,off+k*9,none⟩=some (.string x.e.name):=yf.out _ (ah qh.out hx) 0 _ rfl;obtain ⟨m0,e0⟩:∃m,x.e.name.size=m:=⟨_,rfl⟩;obtain ⟨m1,e1⟩:∃m,x.e.z.cal.au.length=m:=⟨_,rfl⟩;obtain ⟨m2,e2⟩:∃m,x.e.z.cal.rules.length=m:=⟨_,rfl⟩;obtain ⟨m3,e3⟩:∃m,x.e.z.trans.length=m:=⟨_,rfl⟩;obtain ⟨m4,e4⟩:∃m,x.e.z.aH.length=m:=⟨_,rfl⟩;have HM:Hid (x.e.name.size=m0/\x.e.z.cal.au.length=m1/\x.e.z.cal.rules.length=m2/\x.e.z.trans.length=m3/\x.e.z.aH.length=m4):=ae ⟨e0,e1,e2,e3,e4⟩;have q1:=hr 1;have q3:=hr 3;have q5:=hr 5;have q7:=hr 7;rw [Px,e1] at q1;rw [Py,e2] at q3;rw [Pz,e3] at q5;rw [PD,e4] at q7;obtain ⟨zb,hzb⟩:∃b,wr.heap.size=b:=⟨_,rfl⟩;rw [hzb] at q1 q3 q5 q7;try rw [hzb]
   generalize wr.alloc (.cells (ay x.e.z x.s) 69)=W1 at DN c3' hnm q1 q3 q5 q7 ⊢;clear hx hr c3 WJ yf e1 e2 e3 e4 hzb qh;by_cases t0:100<m0
   ·have u0:(100:Int)<(m0:Int):=by omega
    go_wp2_with fail;go_ret;exact ⟨false,rfl,(fun h=>by cases h),ah N7.out DN.out⟩
   ·have u0:¬(100:Int)<(m0:Int):=by omega
    by_cases t1:40<m1
    ·have u1:(40:Int)<(m1:Int):=by omega
     go_wp2_with fail;go_ret;exact ⟨false,rfl,(fun h=>by cases h),ah N7.out DN.out⟩
    ·have u1:¬(40:Int)<(m1:Int):=by omega
     by_cases t2:40<m2
     ·have u2:(40:Int)<(m2:Int):=by omega
      go_wp2_with fail;go_ret;exact ⟨false,rfl,(fun h=>by cases h),ah N7.out DN.out⟩
     ·have u2:¬(40:Int)<(m2:Int):=by omega
      by_cases t3:40<m3
      ·have u3:(40:Int)<(m3:Int):=by omega
       go_wp2_with fail;go_ret;exact ⟨false,rfl,(fun h=>by cases h),ah N7.out DN.out⟩
      ·have u3:¬(40:Int)<(m3:Int):=by omega
       by_cases t4:10<m4
       ·have u4:(10:Int)<(m4:Int):=by omega
        go_wp2_with fail;go_ret;exact ⟨false,rfl,(fun h=>by cases h),ah N7.out DN.out⟩
       ·have u4:¬(10:Int)<(m4:Int):=by omega
        go_wp2_with fail;go_roundw
        case rel=>
         refine ⟨k+1,by omega,by go_num,fun j y hj hy=>?_,DN.out⟩;by_cases e:j=k
         ·subst e;have h1:=HXX.out;rw [hy] at h1;injection h1 with h1;subst h1;exact ⟨by have:=HM.out.1;omega,by have:=HM.out.2.1;omega,by have:=HM.out.2.2.1;omega,by have:=HM.out.2.2.2.1;omega,by have:=HM.out.2.2.2.2;omega⟩
         ·exact iq.out j y (by omega) hy
        case measure=>simp [intOf];omega
  ·have hke:k=n:=by omega
   have PI:Hid (∀y∈zs,SmE y.e):=ae fun y hy=>by
    obtain ⟨j,hj⟩:=List.getElem?_of_mem hy;exact iq.out j y (by have h1:=(gQ.1 hj).1;have:=HN.out;omega) hj
   have hnl:¬(k:Int)<(n:Int):=by omega
   clear hke hlt;go_wp2_with fail;go_ret;exact ⟨true,rfl,fun _=>⟨by rw [HN.out];omega,PI.out⟩,ah N7.out HB.out⟩
end Go.Proofs.YtbaehbbonkljpaaGreatDoor
