/- The texts TrI, TrC, TbV, in this order. -/
import Derived.Test.YtdibbemgpikgjaaGreatDoorW00
import Derived.Test.YtdibbemgpikgjaaGreatDoorW02
import Derived.Test.YtdibbemgpikgjaaGreatDoorW03
import Derived.Test.YtdibbemgpikgjaaGreatDoorW16
set_option maxRecDepth 10000
set_option maxHeartbeats 8000000
namespace Go.Proofs.YtdibbemgpikgjaaGreatDoor
open Go Go.RowKit
attribute [local go_sem] kT kX kU kY pg pz kR kV kS kW
theorem MM (M:Nat) (w:World) (rb pb po:Nat) (t:TypeId) (cs:Array Value) (n:Int) (R:List UInt8) (hr:jW M w rb (le n 1++R)) (h0:0≤n) (h1:n<256) (hp:w.heap[pb]? =some (.cells cs t (0,0))) (hpo:po<cs.size) (Ey:M≤pb) (hne:pb≠rb):
  Calls Tryz.prog 91 #[.iface 134 (pt rb), .pointer (some ⟨pb,po,none⟩)] w (QW M w rb pb po t cs n R):=by
 have HC:=ae (iM M w rb pb po 1 t cs n n R hr (by omega) (qh n h0 h1 R) hp hpo Ey hne);clear hr hp;go_enter Tryz.func91,Tryz.ntmps91;go_wp2_with fail;refine HC.out.mono ?_;rintro e w1 ⟨rfl,h⟩;have H:=ae h;clear h HC;go_wp2_with fail
 go_end0
 exact ⟨rfl,H.out⟩
theorem Tm {W W':World} {lo e size g n m cap rb o:Nat} {xs:List Value} {v:Value} {cur:Array Value} (h:W.ownsRow lo e size (.slice (some ⟨g,0,none⟩) n cap) m xs) (hg:W.heap[g]? =some (.cells cur e (0,0))) (hp:dU W rb g e (cur.setIfInBounds o v) W'):
  W'.ownsRow lo e size (.slice (some ⟨g,0,none⟩) n cap) m (xs.set o v):=by
 obtain ⟨cur',h1,h2,h3,h4,h5,h6,h7,rfl⟩:=oH h;rw [hg] at h1;injection h1 with h1;injection h1 with h1;subst h1;exact LU hp.tgt h2 h3 h4 (by rw [Array.size_setIfInBounds];exact h5) (by rw [Array.toList_setIfInBounds,List.take_set,h6]) (by rw [List.length_set];exact h7)
theorem ints_set (zs:List Int) (z:Int):((zs.map I)++ [I 0]).set zs.length (I z)=(zs++ [z]).map I:=by
 rw [List.set_append_right _ _ (by simp)];simp
def RlRel (M:Nat) (w:World) (rb pb po:Nat) (t:TypeId) (cs:Array Value) (n:Nat) (zs:List Int) (R:List UInt8) (i:Value) (wr:World):Prop:=
 ∃(k:Nat) (A:Option Addr) (c:Nat),k≤n∧i= .int .i64 k∧jW M wr rb (dA (zs.drop k)++R)∧dU w rb pb t (cs.setIfInBounds po (.slice A k c)) wr∧wr.ownsRow w.heap.size 3 1 (.slice A k c) k ((zs.take k).map I)
def TLiR (M:Nat) (w:World) (rb pb po:Nat) (t:TypeId) (cs:Array Value) (zs:List Int) (n:Nat) (R:List UInt8) (e:Ending) (w':World):Prop:=
 e= .returned (.tuple #[])∧∃A c,jW M w' rb R∧dU w rb pb t (cs.setIfInBounds po (.slice A n c)) w'∧w'.ownsRow w.heap.size 3 1 (.slice A n c) n (zs.map I)
theorem PV (M:Nat) (w:World) (rb pb po n:Nat) (t:TypeId) (cs:Array Value) (zs:List Int) (R:List UInt8) (hn:zs.length=n) (hn2:n≤100) (hfit:∀z∈zs,0≤z∧z<256) (hr:jW M w rb ((le n 1++dA zs)++R)) (hp:w.heap[pb]? =some (.cells cs t (0,0))) (hpo:cs[po]? =some (.slice none 0 0)) (Ey:M≤pb) (hne:pb≠rb):
  Calls Tryz.prog 90 #[.iface 134 (pt rb), .pointer (some ⟨pb,po,none⟩),I 1, .func (.func 91) #[] #[]] w (TLiR M w rb pb po t cs zs n R):=by
 rw [List.append_assoc] at hr;have hpl:pb<w.heap.size:=(bT.1 hp).1;have hlo:=hr.lo;have hrl:=hr.lt;have hcs:cs.setIfInBounds po (.slice none 0 0)=cs:=by
  apply Array.ext_getElem?;intro i;rw [Array.getElem?_setIfInBounds];split
  ·rename_i e;subst e;split
   ·exact hpo.symm
   ·rename_i e2;rw [Array.getElem?_eq_none (by omega)] at hpo;cases hpo
  ·rfl
 have hc0:w.cell? ⟨pb,po,none⟩=some (.slice none 0 0):=(cell_of_row w pb po _ _ _ hp).trans hpo;have hpos:po<cs.size:=(bT.1 hpo).1;have HC:=ae (jJ M w.drew rb 1 0 n n (dA zs++R) hr.drew (by omega) (qh _ (by omega) (by omega) _));have HP:Hid (dU w rb pb t (cs.setIfInBounds po (.slice none 0 0)) w):=ae (by rw [hcs];exact dU.refl hp);have HN:=ae hn;have HF:=ae hfit;clear hr hp hpo hcs hn hfit;obtain ⟨i0,hi,hz0,hz1,hz2⟩:=info_parts uu;go_enter Tryz.func90,Tryz.ntmps90;go_wp2_with fail;go_still_tail 9,(by kernel_rfl);go_wp2_with fail;refine HC.out.mono ?_;rintro e w1 ⟨rfl,hr1,hk1⟩;have HR1:=ae hr1;have wZ:=ae (HP.out.drew.uw hk1 hpl hne);clear hr1 hk1 HC hc0;go_wp2_with fail
 go_loopw [22] (fun i wr=>RlRel M w rb pb po t cs n zs R i wr) (fun i _=>n - (intOf i).toNat)
 case atStart=>exact ⟨0,none,0,Nat.zero_le _,rfl,HR1.out,wZ.out,World.ownsRow_nil _ _ _ _⟩
 case round=>
  obtain ⟨k,A,c,hk,rfl,hr,hp,hown⟩:=hrel;have HR:=ae hr;have Ec:=ae hp;have HO:=ae hown;have hcp:wr.cell? ⟨pb,po,none⟩=some (.slice A k c):=(hp.cell po).trans (by simp [hpos]);have hsw:=hp.size;clear hr hp hown HR1 wZ HP;by_cases hlt:k<n
  ·have i0':(0:Int)≤(k:Int):=by omega
   have i1:(k:Int)<(n:Int):=by omega
   have hkz:k<zs.length:=by rw [HN.out];exact hlt
   obtain ⟨z,hz⟩:∃z,zs[k]? =some z:=⟨_,dw hkz⟩;have hzr:=HF.out z (fZ hz);have HZ:=ae hz;have hbase:w.heap.size≤(wr.alloc (.cells #[I 0] 3)).heap.size:=by simp;omega
   clear hz;go_wp2_with (at_builtin;refine wpList_append_own_at _ rfl _ _ 60 rfl w.heap.size 3 i0 (.int .i64 0) 1 8 Tryz.underlying60 hi hz0 hz1 hz2 rfl (by decide) _ _ _ rfl (HO.out.alloc _) ⟨wr.heap.size,0,none⟩ 1 1 [I 0] rfl rfl ?c1 ?c2 ?c3 ?c4 ?c5 ?_)
   case c1=>exact cell_one_new _ _ _
   case c2=>intro u hu;simp at hu;subst hu;rfl
   case c3=>unfold maxLen;omega
   case c4=>omega
   case c5=>exact hbase
   intro v' w2 hown2 hgrow2 _ KX;rw [←List.map_take] at hown2;obtain ⟨g2,c2,rfl,hg2⟩:=dE hown2 (Nat.succ_pos _);have hbw:∀b,b<w.heap.size→w2.heap[b]? =wr.heap[b]? :=fun b hb=>by rw [hgrow2.block b (by simp;omega) (eQ HO.out b hb),Below.heap_alloc wr _ b (by omega)]
   have hs2:wr.heap.size≤w2.heap.size:=by have:=hgrow2.size;rw [World.size_alloc] at this;omega
   have hp2:w2.heap[pb]? =some (.cells (cs.setIfInBounds po (.slice A k c)) t (0,0)):=(hbw pb hpl).trans Ec.out.tgt;have hcp2:w2.cell? ⟨pb,po,none⟩=some (.slice A k c):=(cell_of_row w2 pb po _ _ _ hp2).trans (by simp [hpos]);have VO:=frozen_of_row w2 pb po _ _ hp2;have hlo2:=kH hown2;have hP3:dU w rb pb t (cs.setIfInBounds po (.slice (some ⟨g2,0,none⟩) (k+1) c2)) (w2.setCell ⟨pb,po,none⟩ (.slice (some ⟨g2,0,none⟩) (k+1) c2)):=by
    have h:dU w rb pb t (cs.setIfInBounds po (.slice A k c)) w2:=⟨hgrow2.os.trans Ec.out.os,hgrow2.tape.trans Ec.out.tape,hgrow2.output.trans Ec.out.output,Nat.le_trans Ec.out.size hs2,fun b hb h1 h2=>(hbw b hb).trans (Ec.out.block b hb h1 h2),hp2⟩;have h:=h.put po (.slice (some ⟨g2,0,none⟩) (k+1) c2)
    rwa [Array.setIfInBounds_setIfInBounds] at h
   have XW:jW M (w2.setCell ⟨pb,po,none⟩ (.slice (some ⟨g2,0,none⟩) (k+1) c2)) rb (dA (zs.drop k)++R):=(HR.out.of (hbw rb hrl) fun b hb=>hbw b (by omega)).put Ey hne _;have hO3:(w2.setCell ⟨pb,po,none⟩ (.slice (some ⟨g2,0,none⟩) (k+1) c2)).ownsRow w.heap.size 3 1 (.slice (some ⟨g2,0,none⟩) (k+1) c2) (k+1) ((zs.take k).map I++ [I 0]):=dW (p:=⟨pb,po,none⟩) hown2 (by intro e;injection e with e;simp only at e;omega);have rD:=ae hP3;have HR3:=ae XW;have wU:=ae hO3;clear hown2 hgrow2 KX hbw hp2 hP3 XW hO3 hg2 hcp;go_wp2_with fail;obtain ⟨w3,hw3⟩:∃W,w2.setCell ⟨pb,po,none⟩ (.slice (some ⟨g2,0,none⟩) (k+1) c2)=W:=⟨_,rfl⟩;rw [hw3] at rD HR3 wU ⊢;obtain ⟨cur,q1,q2,q3,q4,q5,q6,q7,_⟩:=oH wU.out;have hcz:dA (zs.drop k)++R=le z 1++(dA (zs.drop (k+1))++R):=by
    have hd:zs.drop k=z::zs.drop (k+1):=by
     rw [List.drop_eq_getElem_cons hkz];have h:=HZ.out;rw [dw hkz] at h;injection h with h;rw [h]
    rw [hd];simp [dA]
   have hr3:=HR3.out;rw [hcz] at hr3;refine (MM M w3 rb g2 k 3 cur z _ hr3 hzr.1 hzr.2 q1 (by rw [q5];omega) (by omega) (by omega)).mono ?_;rintro e w4 ⟨rfl,hr4,tu⟩;have hO4:=Tm wU.out q1 tu;have hlen:((zs.take k).map I).length=k:=by rw [List.length_map,List.length_take];omega
   have hset:((zs.take k).map I++ [I 0]).set k (I z)=(zs.take (k+1)).map I:=by
    have h:=ints_set (zs.take k) z;rw [show (zs.take k).length=k by rw [List.length_take];omega] at h;rw [h,lC zs k z HZ.out]
   rw [hset] at hO4;have hP4:dU w rb pb t (cs.setIfInBounds po (.slice (some ⟨g2,0,none⟩) (k+1) c2)) w4:=⟨tu.os.trans rD.out.os,tu.tape.trans rD.out.tape,tu.output.trans rD.out.output,Nat.le_trans rD.out.size tu.size,fun b hb h1 h2=>(tu.block b (dQ hb rD.out.size) (by omega) h2).trans (rD.out.block b hb h1 h2),(tu.block pb (dQ hpl rD.out.size) (by omega) hne).trans rD.out.tgt⟩;have HR4:=ae hr4;have Fa:=ae hP4;have GU:=ae hO4;clear hr4 tu hO4 hP4 hset hlen hr3 hcz q1 q2 q3 q4 q5 q6 q7 hw3 hcp2 VO;go_wp2_with fail;go_roundw
   case rel=>exact ⟨k+1,some ⟨g2,0,none⟩,c2,by omega,by go_num,HR4.out,Fa.out,GU.out⟩
   case measure=>simp [intOf];omega
  ·have hkn:k=n:=by omega
   have tJ:=ae hkn;have hlt':¬(k:Int)<(n:Int):=by omega
   clear hkn hlt hcp;go_wp2_with fail
   go_end0
   refine ⟨rfl,A,c,?_,?_,?_⟩
   ·have h:=HR.out;rw [tJ.out,List.drop_of_length_le (by rw [HN.out];exact Nat.le_refl _)] at h;exact h
   ·have h:=Ec.out
    rwa [tJ.out] at h
   ·have h:=HO.out
    rwa [tJ.out,List.take_of_length_le (by rw [HN.out];exact Nat.le_refl _)] at h
end Go.Proofs.YtdibbemgpikgjaaGreatDoor
namespace Go.Proofs.YtdibbemgpikgjaaGreatDoor
open Go Go.RowKit
attribute [local go_sem] kT kX kU kY pg pz kR kV kS kW
def Kz (M:Nat) (w:World) (rb:Nat) (R:List UInt8) (e:Ending) (w':World):Prop:=e= .returned (.tuple #[])∧jW M w' rb R∧l7 rb w w'
theorem wJ {rb:Nat} {w w':World} (h:l7 rb w.drew w'):l7 rb w w':=⟨h.os,h.tape,h.output,h.size,h.block⟩
theorem zO (M:Nat) (w:World) (rb lb lo:Nat) (A:Option Addr) (c:Nat) (R:List UInt8) (hp:w.cell? ⟨lb,lo,none⟩=some (.slice A 0 c)) (hr:jW M w rb (le 0 1++R)):
  Calls Tryz.prog 92 #[.iface 134 (pt rb), .pointer (some ⟨lb,lo,none⟩),I 1, .func (.func 93) #[] #[]] w (Kz M w rb R):=by
 have HC:=ae (jJ M w.drew rb 1 0 0 0 R hr.drew (by omega) (qh 0 (by omega) (by omega) R));clear hr;go_enter Tryz.func92,Tryz.ntmps92;go_wp2_with fail;go_still_tail 9,(by kernel_rfl);go_wp2_with fail;refine HC.out.mono ?_;rintro e w1 ⟨rfl,hr1,hk1⟩;have HR1:=ae hr1;have iH:=ae (wJ hk1);clear hr1 hk1 HC hp;go_wp2_with fail
 go_loop [22] (fun i=>i= .int .i64 0) (fun _=>0)
 case atStart=>rfl
 case round=>
  subst hrel;go_wp2_with fail
  go_end0
  exact ⟨rfl,HR1.out,iH.out⟩
theorem qW (M:Nat) (w:World) (rb lb lo:Nat) (A:Option Addr) (c:Nat) (R:List UInt8) (hp:w.cell? ⟨lb,lo,none⟩=some (.slice A 0 c)) (hr:jW M w rb (le 0 2++R)):
  Calls Tryz.prog 69 #[.iface 134 (pt rb), .pointer (some ⟨lb,lo,none⟩),I 2, .func (.func 70) #[] #[]] w (Kz M w rb R):=by
 have HC:=ae (jJ M w.drew rb 2 0 0 0 R hr.drew (by omega) ((X6 0 R).trans (by decide)));clear hr;go_enter Tryz.func69,Tryz.ntmps69;go_wp2_with fail;go_still_tail 9,(by kernel_rfl);go_wp2_with fail;refine HC.out.mono ?_;rintro e w1 ⟨rfl,hr1,hk1⟩;have HR1:=ae hr1;have iH:=ae (wJ hk1);clear hr1 hk1 HC hp;go_wp2_with fail
 go_loop [22] (fun i=>i= .int .i64 0) (fun _=>0)
 case atStart=>rfl
 case round=>
  subst hrel;go_wp2_with fail
  go_end0
  exact ⟨rfl,HR1.out,iH.out⟩
theorem zQ (M:Nat) (w:World) (rb lb lo:Nat) (A:Option Addr) (c:Nat) (R:List UInt8) (hp:w.cell? ⟨lb,lo,none⟩=some (.slice A 0 c)) (hr:jW M w rb (le 0 1++R)):
  Calls Tryz.prog 71 #[.iface 134 (pt rb), .pointer (some ⟨lb,lo,none⟩),I 1, .func (.func 72) #[] #[]] w (Kz M w rb R):=by
 have HC:=ae (jJ M w.drew rb 1 0 0 0 R hr.drew (by omega) (qh 0 (by omega) (by omega) R));clear hr;go_enter Tryz.func71,Tryz.ntmps71;go_wp2_with fail;go_still_tail 9,(by kernel_rfl);go_wp2_with fail;refine HC.out.mono ?_;rintro e w1 ⟨rfl,hr1,hk1⟩;have HR1:=ae hr1;have iH:=ae (wJ hk1);clear hr1 hk1 HC hp;go_wp2_with fail
 go_loop [22] (fun i=>i= .int .i64 0) (fun _=>0)
 case atStart=>rfl
 case round=>
  subst hrel;go_wp2_with fail
  go_end0
  exact ⟨rfl,HR1.out,iH.out⟩
def XO (M:Nat) (w:World) (rb cb co:Nat) (t:TypeId) (cs:Array Value) (c:Cal) (R:List UInt8) (e:Ending) (w':World):Prop:=
 e= .returned (.tuple #[])∧∃A a,jW M w' rb R∧dU w rb cb t (((cs.setIfInBounds co (I c.aY)).setIfInBounds (co+1) (.slice A c.az.length a)).setIfInBounds (co+2) (I (-1))) w'∧w'.ownsRow w.heap.size 3 1 (.slice A c.az.length a) c.az.length (c.az.map I)
theorem sH (M:Nat) (w:World) (rb cb co:Nat) (t:TypeId) (cs:Array Value) (c:Cal) (R:List UInt8) (hc:zW c) (hr:jW M w rb (je c++R)) (hp:w.heap[cb]? =some (.cells cs t (0,0))) (h0:co<cs.size) (h1:cs[co+1]? =some (.slice none 0 0)) (h2:cs[co+2]? =some (I 0)) (h3:cs[co+3]? =some (.slice none 0 0))
  (hM:M≤cb) (hne:cb≠rb):
  Calls Tryz.prog 68 #[.iface 134 (pt rb), .pointer (some ⟨cb,co,none⟩)] w (XO M w rb cb co t cs c R):=by
 have hcl:cb<w.heap.size:=(bT.1 hp).1;have hlo:=hr.lo;have hrw:=hr.lt;have e1:co+1<cs.size:=(bT.1 h1).1;have e2:co+2<cs.size:=(bT.1 h2).1;have e3:co+3<cs.size:=(bT.1 h3).1;obtain ⟨n,hn⟩:∃n,c.az.length=n:=⟨_,rfl⟩;have hn2:n≤16:=by have:=hc.mo.2;omega
 have hr':jW M w.drew rb (le c.aY 4++((le n 1++dA c.az)++(le 0 1++(le 0 1++R)))):=by
  have h:=hr.drew;unfold je at h;rw [hn] at h;simpa only [List.append_assoc] using h
 have lY:=ae (iM M w.drew rb cb co 4 t cs c.aY c.aY _ hr' (by omega) (rdN_4 _ hc.ep.1 (by have:=hc.ep.2;omega) _) hp h0 hM hne);have HN:=ae hn;have HM:Hid (∀z∈c.az,0≤z∧z<256):=ae fun z hz=>by have:=hc.all z hz;omega
 have HX:Hid (cs[co+1]? =some (.slice none 0 0)∧cs[co+2]? =some (I 0)∧cs[co+3]? =some (.slice none 0 0)):=ae ⟨h1,h2,h3⟩;clear hc hr hr' hp hn h1 h2 h3;unfold XO;go_enter Tryz.func68,Tryz.ntmps68;go_wp2_with fail;go_still_tail 7,(by kernel_rfl);go_wp2_with fail;refine lY.out.mono ?_;rintro e w1 ⟨rfl,hr1,hp1⟩;have wZ:=ae hp1.ja;have HL:=ae (PV M w1 rb cb (co+1) n t (cs.setIfInBounds co (I c.aY)) c.az _ HN.out (by omega) HM.out hr1 hp1.tgt (by rw [Array.getElem?_setIfInBounds_ne (by omega)];exact HX.out.1) hM hne);clear hr1 hp1 lY;go_wp2_with fail;refine HL.out.mono ?_;rintro e w2 ⟨rfl,A,a,hr2,hp2,ho2⟩;obtain ⟨C2,hC2⟩:∃C,(cs.setIfInBounds co (I c.aY)).setIfInBounds (co+1) (.slice A n a)=C:=⟨_,rfl⟩;rw [hC2] at hp2;have g2:C2[co+2]? =some (I 0):=by rw [←hC2,Array.getElem?_setIfInBounds_ne (by omega),Array.getElem?_setIfInBounds_ne (by omega)];exact HX.out.2.1
 have g3:C2[co+3]? =some (.slice none 0 0):=by rw [←hC2,Array.getElem?_setIfInBounds_ne (by omega),Array.getElem?_setIfInBounds_ne (by omega)];exact HX.out.2.2
 have HP2:=ae (wZ.out.trans hp2);have rC:=ae (bD ho2 wZ.out.size);have mV:=ae hC2;have d2:w2.cell? ⟨cb,co+2,none⟩=some (I 0):=(hp2.cell (co+2)).trans g2;have hs2:=hp2.size;have hs1:=wZ.out.size;have hb2:=ag w2 (.cells #[I 1] 3);have HB2:=ae hb2;have hrl:=hr2.lt;have HC2:=ae (iM M (w2.alloc (.cells #[I 1] 3)) rb w2.heap.size 0 1 3 #[I 1] 0 0 _ (hr2.below hb2 hrl) (by omega) (qh 0 (by omega) (by omega) _) (heap_alloc_last w2 _) (by decide) (by omega) (by omega));clear hr2 hp2 ho2 hC2 HL hb2;go_wp2_with fail;refine HC2.out.mono ?_;rintro e w3 ⟨rfl,hr3,hp3⟩;have d3:w3.cell? ⟨w2.heap.size,0,none⟩=some (I 0):=hp3.cell 0;have hs3:=hp3.size;rw [World.size_alloc] at hs3;have hk3:l7 rb w2 w3:=⟨hp3.os,hp3.tape,hp3.output,by omega,fun b hb hbr=>(hp3.block b (by simp;omega) (by omega) hbr).trans (HB2.out.block b hb)⟩;have VS:dU w rb cb t C2 w3:=HP2.out.uw hk3 (by omega) hne;have e3':w3.cell? ⟨cb,co+2,none⟩=some (I 0):=(VS.cell (co+2)).trans g2;have f3:=VS.dV (co+2);have Fa:=ae (VS.put (co+2) (I (-1)));have HR4:=ae (hr3.put (o:=co+2) hM hne (I (-1)));have ho3:w3.ownsRow w.heap.size 3 1 (.slice A n a) n (c.az.map I):=kz rC.out hk3 hrw;have GU:=ae (dW (u:=I (-1)) (p:=⟨cb,co+2,none⟩) ho3 (eQ ho3 cb hcl));clear hr3 hp3 hk3 VS HC2 ho3 d2;go_wp2_with fail;obtain ⟨w4,hw4⟩:∃W,w3.setCell ⟨cb,co+2,none⟩ (I (-1))=W:=⟨_,rfl⟩;rw [hw4] at Fa HR4 GU ⊢;refine (zO M w4 rb cb (co+3) none 0 R ((Fa.out.cell (co+3)).trans (by rw [Array.getElem?_setIfInBounds_ne (by omega)];exact g3)) HR4.out).mono ?_;rintro e w5 ⟨rfl,uO,hk5⟩;have mZ:=ae uO;have Ql:=ae (Fa.out.uw hk5 (dQ hcl Fa.out.size) hne);have kL:=ae (kz GU.out hk5 hrw);clear uO hk5 hw4 d3 e3' f3 g2 g3;go_wp2_with fail
 go_end0
 refine ⟨rfl,A,a,mZ.out,?_,?_⟩
 ·have h:=Ql.out;rw [←mV.out] at h;rw [HN.out];exact h
 ·rw [HN.out];exact kL.out
def uo (cs:Array Value) (eo:Nat) (e:Ze) (A:Option Addr) (a:Nat):Array Value:=
 (((((cs.setIfInBounds eo (.string e.name)).setIfInBounds (eo+1) (I e.z.cal.aY)).setIfInBounds (eo+1+1) (.slice A e.z.cal.az.length a)).setIfInBounds (eo+1+2) (I (-1))).setIfInBounds (eo+1+4) (I e.z.start)).setIfInBounds (eo+1+6) (I e.z.hor)
def XP (M:Nat) (w:World) (rb eb eo:Nat) (t:TypeId) (cs:Array Value) (x:Ze) (R:List UInt8) (e:Ending) (w':World):Prop:=
 e= .returned (.tuple #[])∧∃A a,jW M w' rb R∧dU w rb eb t (uo cs eo x A a) w'∧w'.ownsRow w.heap.size 3 1 (.slice A x.z.cal.az.length a) x.z.cal.az.length (x.z.cal.az.map I)
theorem Gt (M:Nat) (w:World) (rb eb eo:Nat) (t:TypeId) (cs:Array Value) (x:Ze) (R:List UInt8) (hf:gU x.z) (hs:x.name.size≤32) (hr:jW M w rb (oK x++R)) (hp:w.heap[eb]? =some (.cells cs t (0,0))) (hz:∀j,j<9→cs[eo+j]? =jo[j]?) (hM:M≤eb) (hne:eb≠rb):
  Calls Tryz.prog 49 #[.iface 134 (pt rb), .pointer (some ⟨eb,eo,none⟩)] w (XP M w rb eb eo t cs x R):=by
 have hel:eb<w.heap.size:=(bT.1 hp).1;have hrw:=hr.lt;have hz0:cs[eo]? =some (.string ⟨#[]⟩):=hz 0 (by decide);have hz8:eo+8<cs.size:=(bT.1 ((hz 8 (by decide)).trans (rfl:jo[8]? =some (.slice none 0 0)))).1;have hr':jW M w.drew rb ((le x.name.size 1++x.name.data.toList)++(je x.z.cal++(le x.z.start 2++(le 0 2++(le x.z.hor 8++(le 0 1++R)))))):=by
  have h:=hr.drew;unfold oK at h;simpa only [List.append_assoc] using h
 have lY:=ae (EN M w.drew rb eb eo t cs ⟨#[]⟩ x.name _ hr' (by omega) hp hz0 hM hne);have HZ:Hid (∀j,1≤j→j<9→cs[eo+j]? =jo[j]?):=ae fun j _ hj=>hz j hj;have HF:=ae hf;have Sz:=hf.start;have hho0:=hf.hor;clear hf hs hr hr' hp hz hz0;unfold XP;go_enter Tryz.func49,Tryz.ntmps49;go_wp2_with fail;go_still_tail 7,(by kernel_rfl);go_wp2_with fail;refine lY.out.mono ?_;rintro e w1 ⟨rfl,hr1,hp1⟩;obtain ⟨C1,RH⟩:∃C,cs.setIfInBounds eo (.string x.name)=C:=⟨_,rfl⟩;rw [RH] at hp1;have k1:∀j,1≤j→j<9→C1[eo+j]? =jo[j]? :=fun j h1 h2=>by rw [←RH,Array.getElem?_setIfInBounds_ne (by omega)];exact HZ.out j h1 h2
 have l1:C1.size=cs.size:=by rw [←RH,Array.size_setIfInBounds]
 have wZ:=ae hp1.ja;have qB:=ae RH;have HC2:=ae (sH M w1 rb eb (eo+1) t C1 x.z.cal _ HF.out.cal hr1 hp1.tgt (by omega) (k1 2 (by decide) (by decide)) (k1 3 (by decide) (by decide)) (k1 4 (by decide) (by decide)) hM hne);have iH:=ae k1;clear hr1 hp1 lY RH k1;go_wp2_with fail;refine HC2.out.mono ?_;rintro e w2 ⟨rfl,A,a,hr2,hp2,ho2⟩;obtain ⟨C2,hC2⟩:∃C,((C1.setIfInBounds (eo+1) (I x.z.cal.aY)).setIfInBounds (eo+1+1) (.slice A x.z.cal.az.length a)).setIfInBounds (eo+1+2) (I (-1))=C:=⟨_,rfl⟩;rw [hC2] at hp2;have k2:∀j,4≤j→j<9→C2[eo+j]? =jo[j]? :=fun j h1 h2=>by rw [←hC2,Array.getElem?_setIfInBounds_ne (by omega),Array.getElem?_setIfInBounds_ne (by omega),Array.getElem?_setIfInBounds_ne (by omega)];exact iH.out j (by omega) h2
 have l2:C2.size=cs.size:=by rw [←hC2,Array.size_setIfInBounds,Array.size_setIfInBounds,Array.size_setIfInBounds];exact l1
 have HP2:=ae (wZ.out.trans hp2);have rC:=ae (bD ho2 wZ.out.size);have mV:=ae hC2;have sO:=ae (zt M w2.drew rb eb (eo+1+4) t C2 x.z.start _ hr2.drew (by omega) (by omega) hp2.tgt (by omega) hM hne);have iR:=ae k2;clear hr2 hp2 ho2 HC2 hC2 k2;go_wp2_with fail;go_still_tail 7,(by kernel_rfl);go_wp2_with fail;refine sO.out.mono ?_;rintro e w3 ⟨rfl,hr3,hp3⟩;obtain ⟨C3,RI⟩:∃C,C2.setIfInBounds (eo+1+4) (I x.z.start)=C:=⟨_,rfl⟩;rw [RI] at hp3;have k3:∀j,6≤j→j<9→C3[eo+j]? =jo[j]? :=fun j h1 h2=>by rw [←RI,Array.getElem?_setIfInBounds_ne (by omega)];exact iR.out j (by omega) h2
 have l3:C3.size=cs.size:=by rw [←RI,Array.size_setIfInBounds];exact l2
 have hk3:∀b,w.heap.size≤b→b<w2.heap.size→w3.heap[b]? =w2.heap[b]? :=fun b h1 h2=>hp3.block b h2 (by omega) (by omega);have wU:=ae (dF rC.out hk3);have rD:=ae (HP2.out.trans hp3.ja);have Aa:=ae RI;have sV:=ae (qW M w3 rb eb (eo+1+5) none 0 _ ((hp3.cell _).trans (k3 6 (by decide) (by decide))) hr3);have mQ:=ae k3;clear hr3 hp3 sO RI k3 hk3;go_wp2_with fail;refine sV.out.mono ?_;rintro e w4 ⟨rfl,hr4,hk4⟩;have Fa:=ae (rD.out.uw hk4 (dQ hel rD.out.size) hne);have GU:=ae (kz wU.out hk4 hrw);have zX:=ae (iM M w4.drew rb eb (eo+1+6) 8 t C3 x.z.hor x.z.hor _ hr4.drew (by omega) (X7 _ (by unfold fits;omega) _) Fa.out.tgt (by omega) hM hne);clear hr4 hk4 sV;go_wp2_with fail;go_still_tail 7,(by kernel_rfl);go_wp2_with fail;refine zX.out.mono ?_;rintro e w5 ⟨rfl,uO,JQ⟩;have hk5:∀b,w.heap.size≤b→b<w4.heap.size→w5.heap[b]? =w4.heap[b]? :=fun b h1 h2=>JQ.block b h2 (by omega) (by omega);have kL:=ae (dF GU.out hk5);have Ql:=ae (Fa.out.trans JQ.ja);have sQ:=ae (zQ M w5 rb eb (eo+1+7) none 0 R ((JQ.cell _).trans (by rw [Array.getElem?_setIfInBounds_ne (by omega)];exact mQ.out 8 (by decide) (by decide))) uO);clear uO JQ zX hk5;go_wp2_with fail;refine sQ.out.mono ?_;rintro e w6 ⟨rfl,Dv,hk6⟩;have ou:=ae Dv;have Ha:=ae (Ql.out.uw hk6 (dQ hel Ql.out.size) hne);have qA:=ae (kz kL.out hk6 hrw);clear Dv hk6 sQ;go_wp2_with fail
 go_end0
 refine ⟨rfl,A,a,ou.out,?_,qA.out⟩;have h:=Ha.out;rw [←Aa.out,←mV.out,←qB.out] at h;exact h
end Go.Proofs.YtdibbemgpikgjaaGreatDoor
namespace Go.Proofs.YtdibbemgpikgjaaGreatDoor
open Go Go.RowKit
structure TV (w:World) (cs:Array Value) (A:Option Addr) (zs:List dD) (W:World):Prop where
 row:Row W w.heap.size cs
 mem:Eg W w.heap.size A zs
 up:Below w.heap.size w W
theorem TV.below {w W W':World} {cs:Array Value} {A:Option Addr} {zs:List dD} (h:TV w cs A zs W) (hb:Below W.heap.size W W'):TV w cs A zs W':=
 ⟨h.row.keep hb,h.mem.keep (hb.mono h.up.size),ah h.up hb⟩
def gG (zs:List dD):Nat→ByteArray
 |0=>⟨#[]⟩
 |k+1=>(zs[k]?.map (·.e.name)).getD ⟨#[]⟩
theorem pI (w:World) (r:List UInt8) (h:r.length=32):(Op.equalIn 10000 23 (.agg (r.map Extern.Stop.cell).toArray) (.agg (r.map Extern.Stop.cell).toArray)).run Tryz.prog w= .ok true w:=by
 rw [run_equalIn_bytes w 9998 23 5 32 Tryz.underlying23 Tryz.underlying5 (fun w=>Ai w) r r h h,beq_self_eq_true]
def mW (zs:List dD):Prop:=∀k x,zs[k]? =some x→Op.bytesLess x.e.name.toList (gG zs k).toList=false∧(x.e.name.toList==(gG zs k).toList)=false
attribute [local go_sem] jQ jR kJ bC
theorem zM (t:Tb) (A:Option Addr) (n c:Nat) (zs:List dD) (w:World) (h:kN t) (hz:t.aS=zs.map (·.e)) (hn:zs.length=n) (hA:Eg w w.heap.size A zs) (hup:mW zs):
  Calls Tryz.prog 26 #[.agg (ai t (.slice A n c))] w (Gives (I 0) w):=by
 have HR0:=ae (Row.new w (ai t (.slice A n c)) 37);have HB0:=ae (ag w (.cells (ai t (.slice A n c)) 37));have k0:=HR0.out.2;have q1:=h.aT.1;have q2:=h.aT.2;have q3:=h.version.1;have q4:=h.version.2;have q5:=h.aJ.1;have q6:=h.aJ.2;have q7:¬(128:Int)<(n:Int):=by
  have:=h.num;rw [hz,List.length_map,hn] at this;omega
 have HF:=ae h;have HZ:=ae hz;have J4:Hid (TV w (ai t (.slice A n c)) A zs (w.alloc (.cells (ai t (.slice A n c)) 37))):=ae ⟨HR0.out,hA.keep HB0.out,HB0.out⟩;have Dl:=ae hn;have NC:=ae hup;clear h hz hA hn HR0 HB0 hup;by_cases hv:t.version=1
 ·have hpz:t.prev=aX:=HF.out.first hv;have hneq:∀W,(binOp .neq 23 (.agg (aj t.prev).toArray) (.agg (aj aX).toArray)).run Tryz.prog W= .ok (.bool false) W:=fun W=>by
   rw [hpz];unfold aj;rw [run_neq_struct,Go.Proofs.YtdibbemgpikgjaaGreatDoor.pI W aX rfl];simp [Result.andThen]
  have h32:(Tryz.prog.info? 23).map (·.size)=some (aj t.prev).length:=by rw [show (aj t.prev).length=32 by simp [aj,HF.out.prev]];kernel_rfl
  have HP:=ae (oI t (.slice A n c) J4.out.row);have Um:=ae h32;clear hpz h32;rw [rY] at hneq;go_enter Tryz.func26,Tryz.ntmps26;go_wp2_with (with_reducible refine dY 23 ?_;refine bY rfl _ _ rfl w.heap.size 4 rfl (aj t.prev) HP.out _ Tryz.underlying23 rfl Um.out ?_);clear hneq
  go_loopw [3,56] (fun l i wr=>∃k:Nat,k≤n∧l= .string (gG zs k)∧i=I k∧TV w (ai t (.slice A n c)) A zs wr) (fun _ i _=>n - (intOf i).toNat)
  case atStart=>exact ⟨0,Nat.zero_le _,rfl,rfl,J4.out⟩
  case round=>
   obtain ⟨k,hk,rfl,rfl,zJ⟩:=hrel;have HV:=ae zJ;have k1:=zJ.row.2;have hlt1:=zJ.row.1;clear zJ J4 k0;by_cases hlt:k<n
   ·have hkz:k<zs.length:=by rw [Dl.out];exact hlt
    obtain ⟨x,hx⟩:∃x,zs[k]? =some x:=⟨_,dw hkz⟩;obtain ⟨b,rfl,hbl,hr,hi⟩:∃b,A=some ⟨b,0,none⟩∧b<w.heap.size∧wr.rangeAt b (k*9) x.cells.toList∧fG wr w.heap.size x.s.A x.e.z.cal.az:=by
     rcases HV.out.mem with h|⟨b,h1,h2,h3⟩
     ·omega
     ·exact ⟨b,h1,h2,h3 k x hx⟩
    have i0:(0:Int)≤(k:Int):=by omega
    have i1:(k:Int)<(n:Int):=by omega
    have c0:wr.cell? ⟨b,k*9,none⟩=some (.string x.e.name):=hr 0 _ rfl;have c1:wr.cell? ⟨b,k*9+1,none⟩=some (I x.e.z.cal.aY):=hr 1 _ rfl;have c2:wr.cell? ⟨b,k*9+2,none⟩=some (.slice x.s.A x.e.z.cal.az.length x.s.a):=hr 2 _ rfl;have c3:wr.cell? ⟨b,k*9+3,none⟩=some (I x.e.z.cal.dP):=hr 3 _ rfl;have c4:wr.cell? ⟨b,k*9+4,none⟩=some (.slice x.s.B x.e.z.cal.rules.length x.s.b):=hr 4 _ rfl;have c5:wr.cell? ⟨b,k*9+5,none⟩=some (I x.e.z.start):=hr 5 _ rfl;have c6:wr.cell? ⟨b,k*9+6,none⟩=some (.slice x.s.C x.e.z.trans.length x.s.c):=hr 6 _ rfl;have c7:wr.cell? ⟨b,k*9+7,none⟩=some (I x.e.z.hor):=hr 7 _ rfl;have c8:wr.cell? ⟨b,k*9+8,none⟩=some (.slice x.s.D x.e.z.aK.length x.s.d):=hr 8 _ rfl;have HX:=ae hx;have HI:=ae hi;have hxm:x.e∈t.aS:=by rw [HZ.out];exact List.mem_map_of_mem (fZ hx)
    have G7:=ae (HF.out.flat _ hxm);have q8:¬(32:Int)<(x.e.name.size:Int):=by have:=HF.out.short _ hxm;omega
    obtain ⟨s1,s2⟩:=NC.out k x hx;obtain ⟨L,hL⟩:∃L,gG zs k=L:=⟨_,rfl⟩;have Kw:Hid (∀w',Below wr.heap.size wr w'→Calls Tryz.prog 43 #[.agg #[I x.e.z.cal.aY, .slice x.s.A x.e.z.cal.az.length x.s.a,I x.e.z.cal.dP, .slice x.s.B x.e.z.cal.rules.length x.s.b,I x.e.z.start, .slice x.s.C x.e.z.trans.length x.s.c,I x.e.z.hor, .slice x.s.D x.e.z.aK.length x.s.d]] w' (Gives (I 0) w')):=ae fun w' hb=>
     uH x.e.z x.s w' G7.out (((HI.out.more HV.out.up.size).keep hb).more hb.size)
    rw [hL] at s1 s2 ⊢;have hlb:b<wr.heap.size:=by omega
    have HB2:=ae (ag wr (.cells x.cells 90));have Nw:Hid (gG zs (k+1)=x.e.name):=ae (by show (zs[k]?.map (·.e.name)).getD ⟨#[]⟩=_;rw [hx];rfl);clear hx hr hi hxm hkz hL;go_wp2_with fail;refine (Kw.out _ HB2.out).mono ?_;rintro e w2 ⟨rfl,hb2⟩;have nK:=ae (HV.out.below (ah HB2.out hb2));have d0:w2.cell? ⟨wr.heap.size,0,none⟩=some (.string x.e.name):=((Row.new wr x.cells 90).keep hb2).2 0;clear hb2 c0 c1 c2 c3 c4 c5 c6 c7 c8 k1 Kw;go_wp2_with fail;go_roundw
    case rel=>exact ⟨k+1,by omega,by rw [Nw.out],by go_num,nK.out⟩
    case measure=>simp [intOf];omega
   ·go_wp2_with fail;go_ret;exact ⟨rfl,HV.out.up⟩
 ·go_enter Tryz.func26,Tryz.ntmps26;go_wp2_with fail
  go_loopw [3,56] (fun l i wr=>∃k:Nat,k≤n∧l= .string (gG zs k)∧i=I k∧TV w (ai t (.slice A n c)) A zs wr) (fun _ i _=>n - (intOf i).toNat)
  case atStart=>exact ⟨0,Nat.zero_le _,rfl,rfl,J4.out⟩
  case round=>
   obtain ⟨k,hk,rfl,rfl,zJ⟩:=hrel;have HV:=ae zJ;have k1:=zJ.row.2;have hlt1:=zJ.row.1;clear zJ J4 k0;by_cases hlt:k<n
   ·have hkz:k<zs.length:=by rw [Dl.out];exact hlt
    obtain ⟨x,hx⟩:∃x,zs[k]? =some x:=⟨_,dw hkz⟩;obtain ⟨b,rfl,hbl,hr,hi⟩:∃b,A=some ⟨b,0,none⟩∧b<w.heap.size∧wr.rangeAt b (k*9) x.cells.toList∧fG wr w.heap.size x.s.A x.e.z.cal.az:=by
     rcases HV.out.mem with h|⟨b,h1,h2,h3⟩
     ·omega
     ·exact ⟨b,h1,h2,h3 k x hx⟩
    have i0:(0:Int)≤(k:Int):=by omega
    have i1:(k:Int)<(n:Int):=by omega
    have c0:wr.cell? ⟨b,k*9,none⟩=some (.string x.e.name):=hr 0 _ rfl;have c1:wr.cell? ⟨b,k*9+1,none⟩=some (I x.e.z.cal.aY):=hr 1 _ rfl;have c2:wr.cell? ⟨b,k*9+2,none⟩=some (.slice x.s.A x.e.z.cal.az.length x.s.a):=hr 2 _ rfl;have c3:wr.cell? ⟨b,k*9+3,none⟩=some (I x.e.z.cal.dP):=hr 3 _ rfl;have c4:wr.cell? ⟨b,k*9+4,none⟩=some (.slice x.s.B x.e.z.cal.rules.length x.s.b):=hr 4 _ rfl;have c5:wr.cell? ⟨b,k*9+5,none⟩=some (I x.e.z.start):=hr 5 _ rfl;have c6:wr.cell? ⟨b,k*9+6,none⟩=some (.slice x.s.C x.e.z.trans.length x.s.c):=hr 6 _ rfl;have c7:wr.cell? ⟨b,k*9+7,none⟩=some (I x.e.z.hor):=hr 7 _ rfl;have c8:wr.cell? ⟨b,k*9+8,none⟩=some (.slice x.s.D x.e.z.aK.length x.s.d):=hr 8 _ rfl;have HX:=ae hx;have HI:=ae hi;have hxm:x.e∈t.aS:=by rw [HZ.out];exact List.mem_map_of_mem (fZ hx)
    have G7:=ae (HF.out.flat _ hxm);have q8:¬(32:Int)<(x.e.name.size:Int):=by have:=HF.out.short _ hxm;omega
    obtain ⟨s1,s2⟩:=NC.out k x hx;obtain ⟨L,hL⟩:∃L,gG zs k=L:=⟨_,rfl⟩;have Kw:Hid (∀w',Below wr.heap.size wr w'→Calls Tryz.prog 43 #[.agg #[I x.e.z.cal.aY, .slice x.s.A x.e.z.cal.az.length x.s.a,I x.e.z.cal.dP, .slice x.s.B x.e.z.cal.rules.length x.s.b,I x.e.z.start, .slice x.s.C x.e.z.trans.length x.s.c,I x.e.z.hor, .slice x.s.D x.e.z.aK.length x.s.d]] w' (Gives (I 0) w')):=ae fun w' hb=>
     uH x.e.z x.s w' G7.out (((HI.out.more HV.out.up.size).keep hb).more hb.size)
    rw [hL] at s1 s2 ⊢;have hlb:b<wr.heap.size:=by omega
    have HB2:=ae (ag wr (.cells x.cells 90));have Nw:Hid (gG zs (k+1)=x.e.name):=ae (by show (zs[k]?.map (·.e.name)).getD ⟨#[]⟩=_;rw [hx];rfl);clear hx hr hi hxm hkz hL;go_wp2_with fail;refine (Kw.out _ HB2.out).mono ?_;rintro e w2 ⟨rfl,hb2⟩;have nK:=ae (HV.out.below (ah HB2.out hb2));have d0:w2.cell? ⟨wr.heap.size,0,none⟩=some (.string x.e.name):=((Row.new wr x.cells 90).keep hb2).2 0;clear hb2 c0 c1 c2 c3 c4 c5 c6 c7 c8 k1 Kw;go_wp2_with fail;go_roundw
    case rel=>exact ⟨k+1,by omega,by rw [Nw.out],by go_num,nK.out⟩
    case measure=>simp [intOf];omega
   ·go_wp2_with fail;go_ret;exact ⟨rfl,HV.out.up⟩
end Go.Proofs.YtdibbemgpikgjaaGreatDoor
