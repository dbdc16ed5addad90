/- The texts Uk, in this order. -/
import Derived.Test.YtbaehbbonkljpaaGreatR00
import Derived.Test.YtbaehbbonkljpaaGreatR25
set_option maxRecDepth 10000
set_option maxHeartbeats 8000000
namespace Go.Proofs.YtbaehbbonkljpaaGreat
open Go Go.RowKit
theorem Di (A A2:Option Addr) (n m c c2:Nat) (bs cs:List UInt8) (w:World) (hl:bs.length=n) (hl2:cs.length=m) (hn:n≤1000000) (h1:az w w.heap.size A (bs.map Extern.Stop.cell)) (h2:az w w.heap.size A2 (cs.map Extern.Stop.cell)):
  Calls Tryz.prog 11 #[.slice A n c, .slice A2 m c2] w (Gives (.bool (decide (bs=cs))) w):=by
 by_cases hnm:n=m
 ·subst hnm;have H1:=ae h1;have H2:=ae h2;have HL:=ae hl;have HL2:=ae hl2;clear h1 h2 hl hl2;go_enter Tryz.func11,Tryz.ntmps11;go_wp2_with fail
  go_loopw [5] (fun i wr=>∃k:Nat,k≤n∧i=I k∧(∀j,j<k→bs[j]? =cs[j]?)∧∃m,wr=w.drewN m) (fun i _=>n - (intOf i).toNat)
  case atStart=>exact ⟨0,Nat.zero_le _,rfl,fun _ h=>absurd h (Nat.not_lt_zero _),0,rfl⟩
  case round=>
   obtain ⟨k,hk,rfl,hz,m,rfl⟩:=hrel;have HZ:=ae hz;clear hz;by_cases hlt:(k:Int)<(n:Int)
   ·have hk2:k<n:=by omega
    obtain ⟨b,off,rfl,hb,hc⟩:=H1.out.there (by rw [List.length_map,HL.out];omega);obtain ⟨b2,wJ,rfl,hb2,hc2⟩:=H2.out.there (by rw [List.length_map,HL2.out];omega);obtain ⟨x,hx⟩:∃x,bs[k]? =some x:=⟨_,bZ (by rw [HL.out];exact hk2)⟩;obtain ⟨y,hy⟩:∃y,cs[k]? =some y:=⟨_,bZ (by rw [HL2.out];exact hk2)⟩;have e1:w.cell? ⟨b,off+k,none⟩=some (.int .u8 (x.toNat:Int)):=hc k _ (by rw [List.getElem?_map,hx];rfl);have e2:w.cell? ⟨b2,wJ+k,none⟩=some (.int .u8 (y.toNat:Int)):=hc2 k _ (by rw [List.getElem?_map,hy];rfl);have HX:=ae hx;have HY:=ae hy;clear hc hc2 hx hy;by_cases hxy:x=y
    ·subst hxy;have hne:=KF x;go_wp2_with fail;go_quiet (fail);go_wp2_with fail;go_roundw
     case rel=>exact ⟨k+1,by omega,by go_num,fun j hj=>by
      rcases Nat.lt_succ_iff_lt_or_eq.1 hj with h|h
      ·exact HZ.out j h
      ·subst h;rw [HX.out,HY.out],_,rfl⟩
     case measure=>simp [intOf];omega
    ·have hne:=RN hxy;have zn:=ae hxy;clear hxy;go_wp2_with fail;go_quiet (fail);go_wp2_with fail;go_ret;have hf:decide (bs=cs)=false:=decide_eq_false fun h=>by
      have h3:=HX.out;rw [h,HY.out] at h3;injection h3 with h3;exact zn.out h3.symm
     refine ⟨by rw [hf];rfl,?_⟩
     first|exact below_drewN' _ _|(rw [World.drewN_drewN];exact below_drewN' _ _)
   ·go_wp2_with fail;go_ret;have ht:bs=cs:=List.ext_getElem? fun j=>by
     have h1:=HL.out;have h2:=HL2.out;by_cases hj:j<k
     ·exact HZ.out j hj
     ·rw [List.getElem?_eq_none (by omega),List.getElem?_eq_none (by omega)]
    exact ⟨by rw [decide_eq_true ht];rfl,below_drewN' _ _⟩
 ·have hne:((n:Int) !=(m:Int))=true:=by rw [FC];exact decide_eq_true (by omega)
  have zq:=ae hnm;clear hnm h1 h2;go_enter Tryz.func11,Tryz.ntmps11;go_wp2_with fail;go_ret;have hf:decide (bs=cs)=false:=decide_eq_false fun h=>zq.out (by rw [←hl,←hl2,h]);exact ⟨by rw [hf];rfl,Below.refl _ _⟩
end Go.Proofs.YtbaehbbonkljpaaGreat
