/- The texts Sb, Qd, Pk, in this order. -/
import Derived.Test.YtdibbemgpikgjaaGreatZ00
import Derived.Test.YtdibbemgpikgjaaGreatZ01
import Derived.Test.YtdibbemgpikgjaaGreatZ05
import Derived.Test.YtdibbemgpikgjaaGreatZ06
import Derived.Test.YtdibbemgpikgjaaGreatZ08
set_option maxRecDepth 10000
set_option maxHeartbeats 8000000
namespace Go.Proofs.YtdibbemgpikgjaaGreat
open Go Go.RowKit
attribute [local go_sem] eQ fA eU fC iZ ja eH eX eP eY wo wu
def jX (xs:List Value) (o:Nat):List Value→List Value
 | []=>xs
 |v::vs=>jX (xs.set o v) (o+1) vs
theorem yF:∀(vs:List Value) (cs:Array Value) (o m:Nat),(kJ cs o vs).toList.take m=jX (cs.toList.take m) o vs
 | [],_,_,_=>rfl
 |v::vs,cs,o,m=>by
  unfold kJ jX;rw [yF vs,Array.toList_setIfInBounds,List.take_set]
theorem sH:∀(vs:List Value) (cs:Array Value) (o:Nat),(kJ cs o vs).size=cs.size
 | [],_,_=>rfl
 |v::vs,cs,o=>by
  unfold kJ;rw [sH vs,Array.size_setIfInBounds]
theorem yE:∀(vs xs:List Value) (o:Nat),(jX xs o vs).length=xs.length
 | [],_,_=>rfl
 |v::vs,xs,o=>by
  unfold jX;rw [yE vs,List.length_set]
theorem oZ (vs ls z:List Value) (h:z.length=vs.length):jX (ls++z) ls.length vs=ls++vs:=by
 induction vs generalizing ls z with
 |nil=>
  rw [List.eq_nil_of_length_eq_zero h];rfl
 |cons v vs ih=>
  obtain ⟨u,z',rfl⟩:∃u z',z=u::z':=by
   cases z with
   |nil=>simp at h
   |cons u z'=>exact ⟨u,z',rfl⟩
  unfold jX;have h2:=ih (ls++ [v]) z' (by simpa using h);rw [bJ,List.length_singleton] at h2;rw [List.set_append_right _ _ (Nat.le_refl _),Nat.sub_self,List.set_cons_zero];simpa using h2
theorem zJ {W W':World} {lo e size g n m cap rb o:Nat} {xs vs:List Value} {cur:Array Value} (h:W.ownsRow lo e size (.slice (some ⟨g,0,none⟩) n cap) m xs) (hg:W.heap[g]? =some (.cells cur e (0,0))) (hp:bU W rb g e (kJ cur o vs) W'):
  W'.ownsRow lo e size (.slice (some ⟨g,0,none⟩) n cap) m (jX xs o vs):=by
 obtain ⟨cur',h1,h2,h3,h4,h5,h6,h7,rfl⟩:=jq h;rw [hg] at h1;injection h1 with h1;injection h1 with h1;subst h1;exact EY hp.tgt h2 h3 h4 (by rw [sH];exact h5) (by rw [yF,h6]) (by rw [yE];exact h7)
def Yn (M:Nat) (w:World) (rb pb po:Nat) (t:TypeId) (cs:Array Value) (E s:Nat) (ls:List Value) (n:Nat) (R:List UInt8) (e:Ending) (w':World):Prop:=
 e= .returned (.tuple #[])∧∃A c,gB M w' rb R∧bU w rb pb t (cs.setIfInBounds po (.slice A n c)) w'∧w'.ownsRow w.heap.size E s (.slice A n c) n ls∧(n=0→A=none∧c=0)
def RlL (M:Nat) (w:World) (rb pb po:Nat) (t:TypeId) (cs:Array Value) (n:Nat) (zs:List Lr) (R:List UInt8) (i:Value) (wr:World):Prop:=
 ∃(k:Nat) (A:Option Addr) (c:Nat),k≤n∧i= .int .i64 k∧gB M wr rb ((zs.drop k).flatMap iH++R)∧bU w rb pb t (cs.setIfInBounds po (.slice A k c)) wr∧
  wr.ownsRow w.heap.size 134 3 (.slice A k c) k ((zs.take k).flatMap Lr.cells)∧(k=0→A=none∧c=0)
theorem KD (M:Nat) (w:World) (rb pb po n:Nat) (t:TypeId) (cs:Array Value) (zs:List Lr) (R:List UInt8) (hn:zs.length=n) (hn2:n≤100) (hfl:∀x∈zs,Q3 x) (hr:gB M w rb ((le n 1++zs.flatMap iH)++R)) (hp:w.heap[pb]? =some (.cells cs t (0,0))) (hpo:cs[po]? =some (.slice none 0 0)) (pM:M≤pb) (hne:pb≠rb):
  Calls Tryz.prog 87 #[.iface 109 (pt rb), .pointer (some ⟨pb,po,none⟩),I 1, .func (.func 88) #[] #[]] w (Yn M w rb pb po t cs 134 3 (zs.flatMap Lr.cells) n R):=by
 rw [List.append_assoc] at hr;have hpl:pb<w.heap.size:=(aZ.1 hp).1;have hlo:=hr.lo;have hrl:=hr.lt;have hcs:cs.setIfInBounds po (.slice none 0 0)=cs:=by
  apply Array.ext_getElem?;intro i;rw [Array.getElem?_setIfInBounds];split
  ·rename_i e;subst e;split
   ·exact hpo.symm
   ·rename_i e2;rw [Array.getElem?_eq_none (by omega)] at hpo;cases hpo
  ·rfl
 have hc0:w.cell? ⟨pb,po,none⟩=some (.slice none 0 0):=(cell_of_row w pb po _ _ _ hp).trans hpo;have hpos:po<cs.size:=(aZ.1 hpo).1;have HC:=ae (fH M w.drew rb 1 0 n n (zs.flatMap iH++R) hr.drew (by omega) (jA _ (by omega) (by omega) _));have HP:Hid (bU w rb pb t (cs.setIfInBounds po (.slice none 0 0)) w):=ae (by rw [hcs];exact bU.refl hp);have HN:=ae hn;have HF:=ae hfl;clear hr hp hpo hcs hn hfl;obtain ⟨i0,hi,hz0,hz1,hz2⟩:=info_parts He;go_enter Tryz.func87,Tryz.ntmps87;go_wp2_with fail;go_still_tail 9,(by kernel_rfl);go_wp2_with fail;refine HC.out.mono ?_;rintro e w1 ⟨rfl,hr1,hk1⟩;have HR1:=ae hr1;have mY:=ae (HP.out.drew.mP hk1 hpl hne);clear hr1 hk1 HC hc0;go_wp2_with fail
 go_loopw [22] (fun i wr=>RlL M w rb pb po t cs n zs R i wr) (fun i _=>n - (intOf i).toNat)
 case atStart=>exact ⟨0,none,0,Nat.zero_le _,rfl,HR1.out,mY.out,World.ownsRow_nil _ _ _ _,fun _=>⟨rfl,rfl⟩⟩
 case round=>
  obtain ⟨k,A,c,hk,rfl,hr,hp,hown,hnl⟩:=hrel;have HR:=ae hr;have nT:=ae hp;have HO:=ae hown;have Nv:=ae hnl;have hcp:wr.cell? ⟨pb,po,none⟩=some (.slice A k c):=(hp.cell po).trans (by simp [hpos]);have hsw:=hp.size;clear hr hp hown hnl HR1 mY HP;by_cases hlt:k<n
  ·have i0':(0:Int)≤(k:Int):=by omega
   have i1:(k:Int)<(n:Int):=by omega
   have hkz:k<zs.length:=by rw [HN.out];exact hlt
   obtain ⟨x,hx⟩:∃x,zs[k]? =some x:=⟨_,dE hkz⟩;have AP:=HF.out x (fK hx);have HX:=ae hx;have yU:=ae AP;clear hx AP;have qw:Hid (((zs.take k).flatMap Lr.cells).length=k*3):=ae (by rw [dJ (s:=3) Lr.cells (zs.take k) fun _ _=>rfl,List.length_take,Nat.min_eq_left (by omega)]);have zW:Hid (∀j u,(#[I 0,I 0, .bool false]:Array Value).toList[j]? =some u→(((wr.alloc (.cells (#[I 0,I 0, .bool false]:Array Value) 134)).alloc (.cells (#[I 0,I 0, .bool false]:Array Value) 134)).drew).cell? ((⟨wr.heap.size+1,0,none⟩:Addr).add j)=some u):=ae fun j u hu=>by
    rw [addr_add];have h:=(Row.new (wr.alloc (.cells (#[I 0,I 0, .bool false]:Array Value) 134)) (#[I 0,I 0, .bool false]:Array Value) 134).2 j;rw [World.size_alloc] at h;exact h.trans (by simpa using hu)
   have uG:Hid (∀u∈(#[I 0,I 0, .bool false]:Array Value).toList,u.oneCell'=true):=ae (by
    intro u hu;have h:(#[I 0,I 0, .bool false]:Array Value).all (·.oneCell')=true:=by kernel_rfl
    rw [Array.all_eq_true_iff_forall_mem] at h;exact h u (by simpa using hu))
   have QP:pb<wr.heap.size:=by omega
   have hmx:k+1≤maxLen:=by unfold maxLen;omega
   have hby:(k+1)*24≤140737488355328:=by omega
   have FX:Hid (w.heap.size≤(((wr.alloc (.cells (#[I 0,I 0, .bool false]:Array Value) 134)).alloc (.cells (#[I 0,I 0, .bool false]:Array Value) 134)).drew).heap.size):=ae (by simp;omega);have dM:Hid ((((wr.alloc (.cells (#[I 0,I 0, .bool false]:Array Value) 134)).alloc (.cells (#[I 0,I 0, .bool false]:Array Value) 134)).drew).heap.size=wr.heap.size+2):=ae (by simp);have PI:Hid ((((wr.alloc (.cells (#[I 0,I 0, .bool false]:Array Value) 134)).alloc (.cells (#[I 0,I 0, .bool false]:Array Value) 134)).drew).ownsRow w.heap.size 134 3 (.slice A k c) k ((zs.take k).flatMap Lr.cells)):=ae ((HO.out.alloc _).alloc _).drew;have xh:Hid (∀b,b<wr.heap.size→(((wr.alloc (.cells (#[I 0,I 0, .bool false]:Array Value) 134)).alloc (.cells (#[I 0,I 0, .bool false]:Array Value) 134)).drew).heap[b]? =wr.heap[b]?):=ae fun b hb=>(Below.heap_alloc (wr.alloc (.cells (#[I 0,I 0, .bool false]:Array Value) 134)) _ b (by simp;omega)).trans (Below.heap_alloc wr _ b hb);go_wp2_with fail
   go_region_law (refine step_append_lies _ (by rfl) _ _ _ (by rfl) w.heap.size 134 i0 (.agg (#[I 0,I 0, .bool false])) 3 24 Tryz.underlying45 hi hz0 hz1 hz2 (by rfl) (by omega) (.slice A k c) k ((zs.take k).flatMap Lr.cells) (by rfl) PI.out ⟨wr.heap.size+1,0,none⟩ 1 1 (#[I 0,I 0, .bool false]:Array Value).toList (by rfl) (by rfl) zW.out uG.out (by omega) hmx hby FX.out (wr.heap.size+2) dM.out ?_;intro g2 c2 w2 hown2 hgrow2 qG hlt2;have hbw:∀b,b<w.heap.size→w2.heap[b]? =wr.heap[b]? :=fun b hb=>(hgrow2.block b (Nat.lt_of_lt_of_eq (show b<wr.heap.size+2 by omega) dM.out.symm) (dV HO.out b hb)).trans (xh.out b (by omega));have HP2:Hid (w2.heap[pb]? =some (.cells (cs.setIfInBounds po (.slice A k c)) t (0,0))):=ae ((hbw pb hpl).trans nT.out.tgt);have hcp2:w2.cell? ⟨pb,po,none⟩=some (.slice A k c):=(cell_of_row w2 pb po _ _ _ HP2.out).trans (by simp [hpos]);have y8:=frozen_of_row w2 pb po _ _ HP2.out;have lN:=ae hbw;have kW:=ae hown2;have HG2:=ae hgrow2;have HA2:=ae qG;clear hbw hown2 hgrow2 qG)
   all_goals
    have hs2:wr.heap.size+2≤w2.heap.size:=Nat.le_trans (Nat.le_of_eq dM.out.symm) HG2.out.size;have hlo2:=gq kW.out;have hP3:bU w rb pb t (cs.setIfInBounds po (.slice (some ⟨g2,0,none⟩) (k+1) c2)) (w2.setCell ⟨pb,po,none⟩ (.slice (some ⟨g2,0,none⟩) (k+1) c2)):=by
     have h:bU w rb pb t (cs.setIfInBounds po (.slice A k c)) w2:=⟨HG2.out.os.trans nT.out.os,HG2.out.tape.trans nT.out.tape,HG2.out.output.trans nT.out.output,by omega,fun b hb h1 h2=>(lN.out b hb).trans (nT.out.block b hb h1 h2),HP2.out⟩;have h:=h.put po (.slice (some ⟨g2,0,none⟩) (k+1) c2)
     rwa [Array.setIfInBounds_setIfInBounds] at h
    have DR:gB M (w2.setCell ⟨pb,po,none⟩ (.slice (some ⟨g2,0,none⟩) (k+1) c2)) rb ((zs.drop k).flatMap iH++R):=(HR.out.of (lN.out rb hrl) fun b hb=>lN.out b (by omega)).put pM hne _;have hO3:(w2.setCell ⟨pb,po,none⟩ (.slice (some ⟨g2,0,none⟩) (k+1) c2)).ownsRow w.heap.size 134 3 (.slice (some ⟨g2,0,none⟩) (k+1) c2) (k+1) ((zs.take k).flatMap Lr.cells++(#[I 0,I 0, .bool false]:Array Value).toList):=dA (p:=⟨pb,po,none⟩) kW.out (by intro e;injection e with e;simp only at e;omega);have iV:=ae hP3;have HR3:=ae DR;have nK:=ae hO3;clear hP3 DR hO3 HP2 lN kW HG2 HA2 hcp;go_wp2_with fail;obtain ⟨w3,hw3⟩:∃W,w2.setCell ⟨pb,po,none⟩ (.slice (some ⟨g2,0,none⟩) (k+1) c2)=W:=⟨_,rfl⟩;rw [hw3] at iV HR3 nK ⊢;obtain ⟨cur,q1,q2,q3,q4,q5,q6,q7,_⟩:=jq nK.out;have hd:zs.drop k=x::zs.drop (k+1):=by
     rw [List.drop_eq_getElem_cons hkz];have h:=HX.out;rw [dE hkz] at h;injection h with h;rw [h]
    have hr3:=HR3.out;rw [hd,List.flatMap_cons,List.append_assoc] at hr3;have hbz:cur[k*3+2]? =some (.bool false):=by
     have h:(cur.toList.take ((k+1)*3))[k*3+2]? =((zs.take k).flatMap Lr.cells++(#[I 0,I 0, .bool false]:Array Value).toList)[k*3+2]? :=by rw [q6]
     rw [List.getElem?_take_of_lt (by omega),List.getElem?_append_right (by rw [qw.out];omega),qw.out,show k*3+2 - k*3=2 by omega] at h;simpa using h
    refine (KA M w3 rb g2 (k*3) 134 cur x _ yU.out hr3 q1 (by rw [q5];omega) hbz (by omega) (by omega)).mono ?_;rintro e w4 ⟨rfl,hr4,iT⟩;have hO4:=zJ nK.out q1 iT;have hse:jX ((zs.take k).flatMap Lr.cells++(#[I 0,I 0, .bool false]:Array Value).toList) (k*3) (Lr.cells x)=(zs.take (k+1)).flatMap Lr.cells:=by
     have h:=oZ (Lr.cells x) ((zs.take k).flatMap Lr.cells) (#[I 0,I 0, .bool false]:Array Value).toList rfl;rw [qw.out] at h;rw [h,iw zs k x HX.out,List.flatMap_append,List.flatMap_cons,List.flatMap_nil,List.append_nil]
    rw [hse] at hO4;have G9:bU w rb pb t (cs.setIfInBounds po (.slice (some ⟨g2,0,none⟩) (k+1) c2)) w4:=⟨iT.os.trans iV.out.os,iT.tape.trans iV.out.tape,iT.output.trans iV.out.output,Nat.le_trans iV.out.size iT.size,fun b hb h1 h2=>(iT.block b (dR hb iV.out.size) (by omega) h2).trans (iV.out.block b hb h1 h2),(iT.block pb (dR hpl iV.out.size) (by omega) hne).trans iV.out.tgt⟩;have HR4:=ae hr4;have qo:=ae G9;have uF:=ae hO4;clear hr4 iT hO4 G9 hr3 hd hse q1 q2 q3 q4 q5 q6 q7 hw3 hcp2 y8;go_wp2_with fail;go_roundw
    case rel=>exact ⟨k+1,some ⟨g2,0,none⟩,c2,by omega,by go_num,HR4.out,qo.out,uF.out,fun h=>by omega⟩
    case measure=>simp [intOf];omega
  ·have hkn:k=n:=by omega
   have lG:=ae hkn;have hlt':¬(k:Int)<(n:Int):=by omega
   clear hkn hlt hcp;go_wp2_with fail
   go_end0
   refine ⟨rfl,A,c,?_,?_,?_,fun h=>Nv.out (lG.out.trans h)⟩
   ·have h:=HR.out;rw [lG.out,List.drop_of_length_le (by rw [HN.out];exact Nat.le_refl _)] at h;exact h
   ·have h:=nT.out
    rwa [lG.out] at h
   ·have h:=HO.out;rw [lG.out,List.take_of_length_le (by rw [HN.out];exact Nat.le_refl _)] at h;exact h
def RlT (M:Nat) (w:World) (rb pb po:Nat) (t:TypeId) (cs:Array Value) (n:Nat) (zs:List Tr) (R:List UInt8) (i:Value) (wr:World):Prop:=
 ∃(k:Nat) (A:Option Addr) (c:Nat),k≤n∧i= .int .i64 k∧gB M wr rb ((zs.drop k).flatMap gu++R)∧bU w rb pb t (cs.setIfInBounds po (.slice A k c)) wr∧
  wr.ownsRow w.heap.size 100 2 (.slice A k c) k ((zs.take k).flatMap Tr.cells)∧(k=0→A=none∧c=0)
theorem Ir (M:Nat) (w:World) (rb pb po n:Nat) (t:TypeId) (cs:Array Value) (zs:List Tr) (R:List UInt8) (hn:zs.length=n) (hn2:n≤100) (hfl:∀x∈zs,RP x) (hr:gB M w rb ((le n 2++zs.flatMap gu)++R)) (hp:w.heap[pb]? =some (.cells cs t (0,0))) (hpo:cs[po]? =some (.slice none 0 0)) (pM:M≤pb) (hne:pb≠rb):
  Calls Tryz.prog 62 #[.iface 109 (pt rb), .pointer (some ⟨pb,po,none⟩),I 2, .func (.func 63) #[] #[]] w (Yn M w rb pb po t cs 100 2 (zs.flatMap Tr.cells) n R):=by
 rw [List.append_assoc] at hr;have hpl:pb<w.heap.size:=(aZ.1 hp).1;have hlo:=hr.lo;have hrl:=hr.lt;have hcs:cs.setIfInBounds po (.slice none 0 0)=cs:=by
  apply Array.ext_getElem?;intro i;rw [Array.getElem?_setIfInBounds];split
  ·rename_i e;subst e;split
   ·exact hpo.symm
   ·rename_i e2;rw [Array.getElem?_eq_none (by omega)] at hpo;cases hpo
  ·rfl
 have hc0:w.cell? ⟨pb,po,none⟩=some (.slice none 0 0):=(cell_of_row w pb po _ _ _ hp).trans hpo;have hpos:po<cs.size:=(aZ.1 hpo).1;have HC:=ae (fH M w.drew rb 2 0 n n (zs.flatMap gu++R) hr.drew (by omega) (EZ _ (by omega) (by omega) _));have HP:Hid (bU w rb pb t (cs.setIfInBounds po (.slice none 0 0)) w):=ae (by rw [hcs];exact bU.refl hp);have HN:=ae hn;have HF:=ae hfl;clear hr hp hpo hcs hn hfl;obtain ⟨i0,hi,hz0,hz1,hz2⟩:=info_parts vX;go_enter Tryz.func62,Tryz.ntmps62;go_wp2_with fail;go_still_tail 9,(by kernel_rfl);go_wp2_with fail;refine HC.out.mono ?_;rintro e w1 ⟨rfl,hr1,hk1⟩;have HR1:=ae hr1;have mY:=ae (HP.out.drew.mP hk1 hpl hne);clear hr1 hk1 HC hc0;go_wp2_with fail
 go_loopw [22] (fun i wr=>RlT M w rb pb po t cs n zs R i wr) (fun i _=>n - (intOf i).toNat)
 case atStart=>exact ⟨0,none,0,Nat.zero_le _,rfl,HR1.out,mY.out,World.ownsRow_nil _ _ _ _,fun _=>⟨rfl,rfl⟩⟩
 case round=>
  obtain ⟨k,A,c,hk,rfl,hr,hp,hown,hnl⟩:=hrel;have HR:=ae hr;have nT:=ae hp;have HO:=ae hown;have Nv:=ae hnl;have hcp:wr.cell? ⟨pb,po,none⟩=some (.slice A k c):=(hp.cell po).trans (by simp [hpos]);have hsw:=hp.size;clear hr hp hown hnl HR1 mY HP;by_cases hlt:k<n
  ·have i0':(0:Int)≤(k:Int):=by omega
   have i1:(k:Int)<(n:Int):=by omega
   have hkz:k<zs.length:=by rw [HN.out];exact hlt
   obtain ⟨x,hx⟩:∃x,zs[k]? =some x:=⟨_,dE hkz⟩;have AP:=HF.out x (fK hx);have HX:=ae hx;have yU:=ae AP;clear hx AP;have qw:Hid (((zs.take k).flatMap Tr.cells).length=k*2):=ae (by rw [dJ (s:=2) Tr.cells (zs.take k) fun _ _=>rfl,List.length_take,Nat.min_eq_left (by omega)]);have zW:Hid (∀j u,(#[I 0,I 0]:Array Value).toList[j]? =some u→(((wr.alloc (.cells (#[I 0,I 0]:Array Value) 100)).alloc (.cells (#[I 0,I 0]:Array Value) 100)).drew).cell? ((⟨wr.heap.size+1,0,none⟩:Addr).add j)=some u):=ae fun j u hu=>by
    rw [addr_add];have h:=(Row.new (wr.alloc (.cells (#[I 0,I 0]:Array Value) 100)) (#[I 0,I 0]:Array Value) 100).2 j;rw [World.size_alloc] at h;exact h.trans (by simpa using hu)
   have uG:Hid (∀u∈(#[I 0,I 0]:Array Value).toList,u.oneCell'=true):=ae (by
    intro u hu;have h:(#[I 0,I 0]:Array Value).all (·.oneCell')=true:=by kernel_rfl
    rw [Array.all_eq_true_iff_forall_mem] at h;exact h u (by simpa using hu))
   have QP:pb<wr.heap.size:=by omega
   have hmx:k+1≤maxLen:=by unfold maxLen;omega
   have hby:(k+1)*16≤140737488355328:=by omega
   have FX:Hid (w.heap.size≤(((wr.alloc (.cells (#[I 0,I 0]:Array Value) 100)).alloc (.cells (#[I 0,I 0]:Array Value) 100)).drew).heap.size):=ae (by simp;omega);have dM:Hid ((((wr.alloc (.cells (#[I 0,I 0]:Array Value) 100)).alloc (.cells (#[I 0,I 0]:Array Value) 100)).drew).heap.size=wr.heap.size+2):=ae (by simp);have PI:Hid ((((wr.alloc (.cells (#[I 0,I 0]:Array Value) 100)).alloc (.cells (#[I 0,I 0]:Array Value) 100)).drew).ownsRow w.heap.size 100 2 (.slice A k c) k ((zs.take k).flatMap Tr.cells)):=ae ((HO.out.alloc _).alloc _).drew;have xh:Hid (∀b,b<wr.heap.size→(((wr.alloc (.cells (#[I 0,I 0]:Array Value) 100)).alloc (.cells (#[I 0,I 0]:Array Value) 100)).drew).heap[b]? =wr.heap[b]?):=ae fun b hb=>(Below.heap_alloc (wr.alloc (.cells (#[I 0,I 0]:Array Value) 100)) _ b (by simp;omega)).trans (Below.heap_alloc wr _ b hb);go_wp2_with fail
   go_region_law (refine step_append_lies _ (by rfl) _ _ _ (by rfl) w.heap.size 100 i0 (.agg (#[I 0,I 0])) 2 16 Tryz.underlying48 hi hz0 hz1 hz2 (by rfl) (by omega) (.slice A k c) k ((zs.take k).flatMap Tr.cells) (by rfl) PI.out ⟨wr.heap.size+1,0,none⟩ 1 1 (#[I 0,I 0]:Array Value).toList (by rfl) (by rfl) zW.out uG.out (by omega) hmx hby FX.out (wr.heap.size+2) dM.out ?_;intro g2 c2 w2 hown2 hgrow2 qG hlt2;have hbw:∀b,b<w.heap.size→w2.heap[b]? =wr.heap[b]? :=fun b hb=>(hgrow2.block b (Nat.lt_of_lt_of_eq (show b<wr.heap.size+2 by omega) dM.out.symm) (dV HO.out b hb)).trans (xh.out b (by omega));have HP2:Hid (w2.heap[pb]? =some (.cells (cs.setIfInBounds po (.slice A k c)) t (0,0))):=ae ((hbw pb hpl).trans nT.out.tgt);have hcp2:w2.cell? ⟨pb,po,none⟩=some (.slice A k c):=(cell_of_row w2 pb po _ _ _ HP2.out).trans (by simp [hpos]);have y8:=frozen_of_row w2 pb po _ _ HP2.out;have lN:=ae hbw;have kW:=ae hown2;have HG2:=ae hgrow2;have HA2:=ae qG;clear hbw hown2 hgrow2 qG)
   all_goals
    have hs2:wr.heap.size+2≤w2.heap.size:=Nat.le_trans (Nat.le_of_eq dM.out.symm) HG2.out.size;have hlo2:=gq kW.out;have hP3:bU w rb pb t (cs.setIfInBounds po (.slice (some ⟨g2,0,none⟩) (k+1) c2)) (w2.setCell ⟨pb,po,none⟩ (.slice (some ⟨g2,0,none⟩) (k+1) c2)):=by
     have h:bU w rb pb t (cs.setIfInBounds po (.slice A k c)) w2:=⟨HG2.out.os.trans nT.out.os,HG2.out.tape.trans nT.out.tape,HG2.out.output.trans nT.out.output,by omega,fun b hb h1 h2=>(lN.out b hb).trans (nT.out.block b hb h1 h2),HP2.out⟩;have h:=h.put po (.slice (some ⟨g2,0,none⟩) (k+1) c2)
     rwa [Array.setIfInBounds_setIfInBounds] at h
    have DR:gB M (w2.setCell ⟨pb,po,none⟩ (.slice (some ⟨g2,0,none⟩) (k+1) c2)) rb ((zs.drop k).flatMap gu++R):=(HR.out.of (lN.out rb hrl) fun b hb=>lN.out b (by omega)).put pM hne _;have hO3:(w2.setCell ⟨pb,po,none⟩ (.slice (some ⟨g2,0,none⟩) (k+1) c2)).ownsRow w.heap.size 100 2 (.slice (some ⟨g2,0,none⟩) (k+1) c2) (k+1) ((zs.take k).flatMap Tr.cells++(#[I 0,I 0]:Array Value).toList):=dA (p:=⟨pb,po,none⟩) kW.out (by intro e;injection e with e;simp only at e;omega);have iV:=ae hP3;have HR3:=ae DR;have nK:=ae hO3;clear hP3 DR hO3 HP2 lN kW HG2 HA2 hcp;go_wp2_with fail;obtain ⟨w3,hw3⟩:∃W,w2.setCell ⟨pb,po,none⟩ (.slice (some ⟨g2,0,none⟩) (k+1) c2)=W:=⟨_,rfl⟩;rw [hw3] at iV HR3 nK ⊢;obtain ⟨cur,q1,q2,q3,q4,q5,q6,q7,_⟩:=jq nK.out;have hd:zs.drop k=x::zs.drop (k+1):=by
     rw [List.drop_eq_getElem_cons hkz];have h:=HX.out;rw [dE hkz] at h;injection h with h;rw [h]
    have hr3:=HR3.out;rw [hd,List.flatMap_cons,List.append_assoc] at hr3;refine (Ip M w3 rb g2 (k*2) 100 cur x _ yU.out hr3 q1 (by rw [q5];omega) (by omega) (by omega)).mono ?_;rintro e w4 ⟨rfl,hr4,iT⟩;have hO4:=zJ nK.out q1 iT;have hse:jX ((zs.take k).flatMap Tr.cells++(#[I 0,I 0]:Array Value).toList) (k*2) (Tr.cells x)=(zs.take (k+1)).flatMap Tr.cells:=by
     have h:=oZ (Tr.cells x) ((zs.take k).flatMap Tr.cells) (#[I 0,I 0]:Array Value).toList rfl;rw [qw.out] at h;rw [h,iw zs k x HX.out,List.flatMap_append,List.flatMap_cons,List.flatMap_nil,List.append_nil]
    rw [hse] at hO4;have G9:bU w rb pb t (cs.setIfInBounds po (.slice (some ⟨g2,0,none⟩) (k+1) c2)) w4:=⟨iT.os.trans iV.out.os,iT.tape.trans iV.out.tape,iT.output.trans iV.out.output,Nat.le_trans iV.out.size iT.size,fun b hb h1 h2=>(iT.block b (dR hb iV.out.size) (by omega) h2).trans (iV.out.block b hb h1 h2),(iT.block pb (dR hpl iV.out.size) (by omega) hne).trans iV.out.tgt⟩;have HR4:=ae hr4;have qo:=ae G9;have uF:=ae hO4;clear hr4 iT hO4 G9 hr3 hd hse q1 q2 q3 q4 q5 q6 q7 hw3 hcp2 y8;go_wp2_with fail;go_roundw
    case rel=>exact ⟨k+1,some ⟨g2,0,none⟩,c2,by omega,by go_num,HR4.out,qo.out,uF.out,fun h=>by omega⟩
    case measure=>simp [intOf];omega
  ·have hkn:k=n:=by omega
   have lG:=ae hkn;have hlt':¬(k:Int)<(n:Int):=by omega
   clear hkn hlt hcp;go_wp2_with fail
   go_end0
   refine ⟨rfl,A,c,?_,?_,?_,fun h=>Nv.out (lG.out.trans h)⟩
   ·have h:=HR.out;rw [lG.out,List.drop_of_length_le (by rw [HN.out];exact Nat.le_refl _)] at h;exact h
   ·have h:=nT.out
    rwa [lG.out] at h
   ·have h:=HO.out;rw [lG.out,List.take_of_length_le (by rw [HN.out];exact Nat.le_refl _)] at h;exact h
def RlY (M:Nat) (w:World) (rb pb po:Nat) (t:TypeId) (cs:Array Value) (n:Nat) (zs:List Yr) (R:List UInt8) (i:Value) (wr:World):Prop:=
 ∃(k:Nat) (A:Option Addr) (c:Nat),k≤n∧i= .int .i64 k∧gB M wr rb ((zs.drop k).flatMap iK++R)∧bU w rb pb t (cs.setIfInBounds po (.slice A k c)) wr∧
  wr.ownsRow w.heap.size 130 5 (.slice A k c) k ((zs.take k).flatMap Yr.cells)∧(k=0→A=none∧c=0)
theorem KE (M:Nat) (w:World) (rb pb po n:Nat) (t:TypeId) (cs:Array Value) (zs:List Yr) (R:List UInt8) (hn:zs.length=n) (hn2:n≤100) (hfl:∀x∈zs,OU x) (hr:gB M w rb ((le n 1++zs.flatMap iK)++R)) (hp:w.heap[pb]? =some (.cells cs t (0,0))) (hpo:cs[po]? =some (.slice none 0 0)) (pM:M≤pb) (hne:pb≠rb):
  Calls Tryz.prog 64 #[.iface 109 (pt rb), .pointer (some ⟨pb,po,none⟩),I 1, .func (.func 65) #[] #[]] w (Yn M w rb pb po t cs 130 5 (zs.flatMap Yr.cells) n R):=by
 rw [List.append_assoc] at hr;have hpl:pb<w.heap.size:=(aZ.1 hp).1;have hlo:=hr.lo;have hrl:=hr.lt;have hcs:cs.setIfInBounds po (.slice none 0 0)=cs:=by
  apply Array.ext_getElem?;intro i;rw [Array.getElem?_setIfInBounds];split
  ·rename_i e;subst e;split
   ·exact hpo.symm
   ·rename_i e2;rw [Array.getElem?_eq_none (by omega)] at hpo;cases hpo
  ·rfl
 have hc0:w.cell? ⟨pb,po,none⟩=some (.slice none 0 0):=(cell_of_row w pb po _ _ _ hp).trans hpo;have hpos:po<cs.size:=(aZ.1 hpo).1;have HC:=ae (fH M w.drew rb 1 0 n n (zs.flatMap iK++R) hr.drew (by omega) (jA _ (by omega) (by omega) _));have HP:Hid (bU w rb pb t (cs.setIfInBounds po (.slice none 0 0)) w):=ae (by rw [hcs];exact bU.refl hp);have HN:=ae hn;have HF:=ae hfl;clear hr hp hpo hcs hn hfl;obtain ⟨i0,hi,hz0,hz1,hz2⟩:=info_parts ET;go_enter Tryz.func64,Tryz.ntmps64;go_wp2_with fail;go_still_tail 9,(by kernel_rfl);go_wp2_with fail;refine HC.out.mono ?_;rintro e w1 ⟨rfl,hr1,hk1⟩;have HR1:=ae hr1;have mY:=ae (HP.out.drew.mP hk1 hpl hne);clear hr1 hk1 HC hc0;go_wp2_with fail
 go_loopw [22] (fun i wr=>RlY M w rb pb po t cs n zs R i wr) (fun i _=>n - (intOf i).toNat)
 case atStart=>exact ⟨0,none,0,Nat.zero_le _,rfl,HR1.out,mY.out,World.ownsRow_nil _ _ _ _,fun _=>⟨rfl,rfl⟩⟩
 case round=>
  obtain ⟨k,A,c,hk,rfl,hr,hp,hown,hnl⟩:=hrel;have HR:=ae hr;have nT:=ae hp;have HO:=ae hown;have Nv:=ae hnl;have hcp:wr.cell? ⟨pb,po,none⟩=some (.slice A k c):=(hp.cell po).trans (by simp [hpos]);have hsw:=hp.size;clear hr hp hown hnl HR1 mY HP;by_cases hlt:k<n
  ·have i0':(0:Int)≤(k:Int):=by omega
   have i1:(k:Int)<(n:Int):=by omega
   have hkz:k<zs.length:=by rw [HN.out];exact hlt
   obtain ⟨x,hx⟩:∃x,zs[k]? =some x:=⟨_,dE hkz⟩;have AP:=HF.out x (fK hx);have HX:=ae hx;have yU:=ae AP;clear hx AP;have qw:Hid (((zs.take k).flatMap Yr.cells).length=k*5):=ae (by rw [dJ (s:=5) Yr.cells (zs.take k) fun _ _=>rfl,List.length_take,Nat.min_eq_left (by omega)]);have zW:Hid (∀j u,(#[I 0,I 0,I 0,I 0,I 0]:Array Value).toList[j]? =some u→(((wr.alloc (.cells (#[I 0,I 0,I 0,I 0,I 0]:Array Value) 130)).alloc (.cells (#[I 0,I 0,I 0,I 0,I 0]:Array Value) 130)).drew).cell? ((⟨wr.heap.size+1,0,none⟩:Addr).add j)=some u):=ae fun j u hu=>by
    rw [addr_add];have h:=(Row.new (wr.alloc (.cells (#[I 0,I 0,I 0,I 0,I 0]:Array Value) 130)) (#[I 0,I 0,I 0,I 0,I 0]:Array Value) 130).2 j;rw [World.size_alloc] at h;exact h.trans (by simpa using hu)
   have uG:Hid (∀u∈(#[I 0,I 0,I 0,I 0,I 0]:Array Value).toList,u.oneCell'=true):=ae (by
    intro u hu;have h:(#[I 0,I 0,I 0,I 0,I 0]:Array Value).all (·.oneCell')=true:=by kernel_rfl
    rw [Array.all_eq_true_iff_forall_mem] at h;exact h u (by simpa using hu))
   have QP:pb<wr.heap.size:=by omega
   have hmx:k+1≤maxLen:=by unfold maxLen;omega
   have hby:(k+1)*40≤140737488355328:=by omega
   have FX:Hid (w.heap.size≤(((wr.alloc (.cells (#[I 0,I 0,I 0,I 0,I 0]:Array Value) 130)).alloc (.cells (#[I 0,I 0,I 0,I 0,I 0]:Array Value) 130)).drew).heap.size):=ae (by simp;omega);have dM:Hid ((((wr.alloc (.cells (#[I 0,I 0,I 0,I 0,I 0]:Array Value) 130)).alloc (.cells (#[I 0,I 0,I 0,I 0,I 0]:Array Value) 130)).drew).heap.size=wr.heap.size+2):=ae (by simp);have PI:Hid ((((wr.alloc (.cells (#[I 0,I 0,I 0,I 0,I 0]:Array Value) 130)).alloc (.cells (#[I 0,I 0,I 0,I 0,I 0]:Array Value) 130)).drew).ownsRow w.heap.size 130 5 (.slice A k c) k ((zs.take k).flatMap Yr.cells)):=ae ((HO.out.alloc _).alloc _).drew;have xh:Hid (∀b,b<wr.heap.size→(((wr.alloc (.cells (#[I 0,I 0,I 0,I 0,I 0]:Array Value) 130)).alloc (.cells (#[I 0,I 0,I 0,I 0,I 0]:Array Value) 130)).drew).heap[b]? =wr.heap[b]?):=ae fun b hb=>(Below.heap_alloc (wr.alloc (.cells (#[I 0,I 0,I 0,I 0,I 0]:Array Value) 130)) _ b (by simp;omega)).trans (Below.heap_alloc wr _ b hb);go_wp2_with fail
   go_region_law (refine step_append_lies _ (by rfl) _ _ _ (by rfl) w.heap.size 130 i0 (.agg (#[I 0,I 0,I 0,I 0,I 0])) 5 40 Tryz.underlying49 hi hz0 hz1 hz2 (by rfl) (by omega) (.slice A k c) k ((zs.take k).flatMap Yr.cells) (by rfl) PI.out ⟨wr.heap.size+1,0,none⟩ 1 1 (#[I 0,I 0,I 0,I 0,I 0]:Array Value).toList (by rfl) (by rfl) zW.out uG.out (by omega) hmx hby FX.out (wr.heap.size+2) dM.out ?_;intro g2 c2 w2 hown2 hgrow2 qG hlt2;have hbw:∀b,b<w.heap.size→w2.heap[b]? =wr.heap[b]? :=fun b hb=>(hgrow2.block b (Nat.lt_of_lt_of_eq (show b<wr.heap.size+2 by omega) dM.out.symm) (dV HO.out b hb)).trans (xh.out b (by omega));have HP2:Hid (w2.heap[pb]? =some (.cells (cs.setIfInBounds po (.slice A k c)) t (0,0))):=ae ((hbw pb hpl).trans nT.out.tgt);have hcp2:w2.cell? ⟨pb,po,none⟩=some (.slice A k c):=(cell_of_row w2 pb po _ _ _ HP2.out).trans (by simp [hpos]);have y8:=frozen_of_row w2 pb po _ _ HP2.out;have lN:=ae hbw;have kW:=ae hown2;have HG2:=ae hgrow2;have HA2:=ae qG;clear hbw hown2 hgrow2 qG)
   all_goals
    have hs2:wr.heap.size+2≤w2.heap.size:=Nat.le_trans (Nat.le_of_eq dM.out.symm) HG2.out.size;have hlo2:=gq kW.out;have hP3:bU w rb pb t (cs.setIfInBounds po (.slice (some ⟨g2,0,none⟩) (k+1) c2)) (w2.setCell ⟨pb,po,none⟩ (.slice (some ⟨g2,0,none⟩) (k+1) c2)):=by
     have h:bU w rb pb t (cs.setIfInBounds po (.slice A k c)) w2:=⟨HG2.out.os.trans nT.out.os,HG2.out.tape.trans nT.out.tape,HG2.out.output.trans nT.out.output,by omega,fun b hb h1 h2=>(lN.out b hb).trans (nT.out.block b hb h1 h2),HP2.out⟩;have h:=h.put po (.slice (some ⟨g2,0,none⟩) (k+1) c2)
     rwa [Array.setIfInBounds_setIfInBounds] at h
    have DR:gB M (w2.setCell ⟨pb,po,none⟩ (.slice (some ⟨g2,0,none⟩) (k+1) c2)) rb ((zs.drop k).flatMap iK++R):=(HR.out.of (lN.out rb hrl) fun b hb=>lN.out b (by omega)).put pM hne _;have hO3:(w2.setCell ⟨pb,po,none⟩ (.slice (some ⟨g2,0,none⟩) (k+1) c2)).ownsRow w.heap.size 130 5 (.slice (some ⟨g2,0,none⟩) (k+1) c2) (k+1) ((zs.take k).flatMap Yr.cells++(#[I 0,I 0,I 0,I 0,I 0]:Array Value).toList):=dA (p:=⟨pb,po,none⟩) kW.out (by intro e;injection e with e;simp only at e;omega);have iV:=ae hP3;have HR3:=ae DR;have nK:=ae hO3;clear hP3 DR hO3 HP2 lN kW HG2 HA2 hcp;go_wp2_with fail;obtain ⟨w3,hw3⟩:∃W,w2.setCell ⟨pb,po,none⟩ (.slice (some ⟨g2,0,none⟩) (k+1) c2)=W:=⟨_,rfl⟩;rw [hw3] at iV HR3 nK ⊢;obtain ⟨cur,q1,q2,q3,q4,q5,q6,q7,_⟩:=jq nK.out;have hd:zs.drop k=x::zs.drop (k+1):=by
     rw [List.drop_eq_getElem_cons hkz];have h:=HX.out;rw [dE hkz] at h;injection h with h;rw [h]
    have hr3:=HR3.out;rw [hd,List.flatMap_cons,List.append_assoc] at hr3;refine (KC M w3 rb g2 (k*5) 130 cur x _ yU.out hr3 q1 (by rw [q5];omega) (by omega) (by omega)).mono ?_;rintro e w4 ⟨rfl,hr4,iT⟩;have hO4:=zJ nK.out q1 iT;have hse:jX ((zs.take k).flatMap Yr.cells++(#[I 0,I 0,I 0,I 0,I 0]:Array Value).toList) (k*5) (Yr.cells x)=(zs.take (k+1)).flatMap Yr.cells:=by
     have h:=oZ (Yr.cells x) ((zs.take k).flatMap Yr.cells) (#[I 0,I 0,I 0,I 0,I 0]:Array Value).toList rfl;rw [qw.out] at h;rw [h,iw zs k x HX.out,List.flatMap_append,List.flatMap_cons,List.flatMap_nil,List.append_nil]
    rw [hse] at hO4;have G9:bU w rb pb t (cs.setIfInBounds po (.slice (some ⟨g2,0,none⟩) (k+1) c2)) w4:=⟨iT.os.trans iV.out.os,iT.tape.trans iV.out.tape,iT.output.trans iV.out.output,Nat.le_trans iV.out.size iT.size,fun b hb h1 h2=>(iT.block b (dR hb iV.out.size) (by omega) h2).trans (iV.out.block b hb h1 h2),(iT.block pb (dR hpl iV.out.size) (by omega) hne).trans iV.out.tgt⟩;have HR4:=ae hr4;have qo:=ae G9;have uF:=ae hO4;clear hr4 iT hO4 G9 hr3 hd hse q1 q2 q3 q4 q5 q6 q7 hw3 hcp2 y8;go_wp2_with fail;go_roundw
    case rel=>exact ⟨k+1,some ⟨g2,0,none⟩,c2,by omega,by go_num,HR4.out,qo.out,uF.out,fun h=>by omega⟩
    case measure=>simp [intOf];omega
  ·have hkn:k=n:=by omega
   have lG:=ae hkn;have hlt':¬(k:Int)<(n:Int):=by omega
   clear hkn hlt hcp;go_wp2_with fail
   go_end0
   refine ⟨rfl,A,c,?_,?_,?_,fun h=>Nv.out (lG.out.trans h)⟩
   ·have h:=HR.out;rw [lG.out,List.drop_of_length_le (by rw [HN.out];exact Nat.le_refl _)] at h;exact h
   ·have h:=nT.out
    rwa [lG.out] at h
   ·have h:=HO.out;rw [lG.out,List.take_of_length_le (by rw [HN.out];exact Nat.le_refl _)] at h;exact h
end Go.Proofs.YtdibbemgpikgjaaGreat
namespace Go.Proofs.YtdibbemgpikgjaaGreat
open Go Go.RowKit
section
variable {P:Program} {ops:Array Oper} {rest:List Oper} {o:Oper} {a:Act} {w:World} {Q:Exit→Act→World→Prop}
theorem dH {ob:Obj} (hgd:o.guard=none) (ty:TypeId) (x y:Operand) (ho:o.op= .store ty x y) (cells:Array Value) (hx:a.eval x= .pointer (some ⟨w.heap.size,0,none⟩)) (hy:a.eval y= .agg cells) (t:TypeId) (old:Array Value) (hob:ob= .cells old t (0,0)) (hi:(P.info? ty).map (·.size)=some cells.size) (hold:old.size=cells.size) (h1:cells.all (·.oneCell')=true)
  (h:∀W,Below w.heap.size w W→w.heap.size<W.heap.size→Row W w.heap.size cells→wpList P ops Q rest (a.put o.dst undef) W):wpList P ops Q (o::rest) a (w.alloc ob):=by
 subst hob;refine wpList_store_row hgd ty x y ho w.heap.size cells hx hy t old (heap_alloc_last w _) hi hold h1 (h _ (below_setRow (ag w _) (Nat.le_refl _) _) (by simp [World.setRow]) (Row.lh (setRow_heap _ _ _ _ _ _ (heap_alloc_last w _))))
end
structure gG (c:Cal):Prop where
 ep:0≤c.aN∧c.aN≤100
 mo:c.au.length=2
 all:∀x∈c.au,6≤x∧x≤8
 le: -1≤c.bu∧c.bu<2
 ru:c.rules.length≤1
 nl:c.bu= -1→c.rules.length=0
 rl:∀r∈c.rules,r.every=2∧0≤r.rest∧r.rest<2
structure nN (w:World) (B:Nat) (A:Option Addr) (R:Option Addr) (c:Cal):Prop where
 au:aB w B A (c.au.map I)
 rules:aB w B R (c.rules.flatMap Lr.cells)
theorem nN.grow {w w':World} {A R:Option Addr} {c:Cal} (h:nN w w.heap.size A R c) (hb:Below w.heap.size w w'):nN w' w'.heap.size A R c:=⟨h.au.grow hb,h.rules.grow hb⟩
theorem WU (w:World):Calls Tryz.prog 110 #[I 1,I 2] w fun e w'=>e= .returned (I 1)∧w'=w:=by
 go_enter Tryz.func110,Tryz.ntmps110;go_wp2_with fail
 go_loopw [0,1] (fun a b wr=>wr=w∧((a=I 1∧b=I 2)∨(a=I 2∧b=I 1)∨(a=I 1∧b=I 0))) (fun _ b _=>(intOf b).toNat)
 case atStart=>exact ⟨rfl, .inl ⟨rfl,rfl⟩⟩
 case round=>
  obtain ⟨rfl,⟨rfl,rfl⟩|⟨rfl,rfl⟩|⟨rfl,rfl⟩⟩:=hrel
  ·go_wp2_with fail;go_roundw
   case rel=>exact ⟨by first|trivial|rfl, .inr (.inl ⟨by first|trivial|rfl,by first|trivial|rfl⟩)⟩
   case measure=>simp [intOf]
  ·go_wp2_with fail;go_roundw
   case rel=>exact ⟨by first|trivial|rfl, .inr (.inr ⟨by first|trivial|rfl,by first|trivial|rfl⟩)⟩
   case measure=>simp [intOf]
  ·go_wp2_with fail;go_ret;exact ⟨rfl,rfl⟩
structure jS (w:World) (cs:Array Value) (W:World):Prop where
 row:Row W w.heap.size cs
 up:Below w.heap.size w W
theorem jS.grow {w W W':World} {cs:Array Value} (h:jS w cs W) (hb:Below W.heap.size W W'):jS w cs W':=⟨h.row.keep hb,ah h.up hb⟩
theorem jS.start (w:World) (cs:Array Value) (t:TypeId):jS w cs (w.alloc (.cells cs t)):=⟨Row.new w cs t,ag w _⟩
theorem gG.form {c:Cal} (hc:gG c):∃ep m0 m1 lp rs,c=⟨ep,[m0,m1],lp,rs⟩∧(0≤ep∧ep≤100)∧(6≤m0∧m0≤8)∧(6≤m1∧m1≤8)∧(-1≤lp∧lp<2)∧(rs= []∨∃q y,rs= [⟨2,q,y⟩]∧0≤q∧q<2∧lp≠ -1):=by
 obtain ⟨ep,mo,lp,rs⟩:=c;obtain ⟨h1,h2,h3,h4,h5,h6,h7⟩:=hc;simp only at h1 h2 h3 h4 h5 h6 h7
 match mo,h2 with
 | [m0,m1],_=>
  refine ⟨ep,m0,m1,lp,rs,rfl,h1,h3 m0 (by simp),h3 m1 (by simp),h4,?_⟩
  match rs,h5 with
  | [],_=>exact .inl rfl
  | [⟨e,q,y⟩],_=>
   obtain ⟨z1,z2,z3⟩:=h7 ⟨e,q,y⟩ (by simp);simp only at z1 z2 z3;subst z1;exact .inr ⟨q,y,rfl,z2,z3,fun e=>by have:=h6 e;simp at this⟩
theorem nN.two {w W:World} {A R:Option Addr} {ep m0 m1 lp:Int} {rs:List Lr} (h:nN w w.heap.size A R ⟨ep,[m0,m1],lp,rs⟩) (hb:Below w.heap.size w W):∃b off,A=some ⟨b,off,none⟩∧W.cell? ⟨b,off,none⟩=some (I m0)∧W.cell? ⟨b,off+1,none⟩=some (I m1):=by
 obtain ⟨b,off,e,hb1,hcl⟩:=h.au.there (by simp);exact ⟨b,off,e,(hb.cell (p:=⟨b,off,none⟩) hb1).trans (hcl 0 _ rfl),(hb.cell (p:=⟨b,off+1,none⟩) hb1).trans (hcl 1 _ rfl)⟩
theorem nN.one {w W:World} {A R:Option Addr} {ep m0 m1 lp q:Int} {y:Bool} (h:nN w w.heap.size A R ⟨ep,[m0,m1],lp,[⟨2,q,y⟩]⟩) (hb:Below w.heap.size w W):∃b off,R=some ⟨b,off,none⟩∧W.cell? ⟨b,off,none⟩=some (I 2)∧W.cell? ⟨b,off+1,none⟩=some (I q)∧W.cell? ⟨b,off+2,none⟩=some (.bool y):=by
 obtain ⟨b,off,e,hb1,hcl⟩:=h.rules.there (by simp [Lr.cells]);exact ⟨b,off,e,(hb.cell (p:=⟨b,off,none⟩) hb1).trans (hcl 0 _ rfl),(hb.cell (p:=⟨b,off+1,none⟩) hb1).trans (hcl 1 _ rfl),(hb.cell (p:=⟨b,off+2,none⟩) hb1).trans (hcl 2 _ rfl)⟩
theorem jr (c:Cal) (A R:Option Addr) (a r:Nat) (w:World) (hc:gG c) (h:nN w w.heap.size A R c):Calls Tryz.prog 93 #[.agg (aF c A a R r)] w (Gives (.bool true) w):=by
 obtain ⟨ep,m0,m1,lp,rs,rfl,⟨b1,b1'⟩,⟨b2,b2'⟩,⟨b3,b3'⟩,⟨b4,b4'⟩,hrs⟩:=hc.form;have HH:=ae h;clear hc h;unfold aF;simp only;have q5:¬ep<0:=by omega
 have q6:¬(1048576:Int)<ep:=by omega
 have q7:¬lp< -1:=by omega
 have q8:¬(2:Int)≤lp:=by omega
 have y1:¬m0<1:=by omega
 have y2:¬(40:Int)<m0:=by omega
 have y3:¬m1<1:=by omega
 have y4:¬(40:Int)<m1:=by omega
 clear b1 b1' b2 b2' b3 b3' b4 b4';rcases hrs with rfl|⟨q,yy,rfl,q1,q2,q3⟩
 ·have HV:=ae (jS.start w #[I ep, .slice A 2 a,I lp, .slice R 0 r] 47);have hl:(lp== -1)=true∨(lp== -1)=false:=by cases (lp== -1)<;>simp
  rcases hl with hl|hl
  all_goals
   go_enter Tryz.func93,Tryz.ntmps93;go_wp2_with fail;generalize w.alloc (.cells #[I ep, .slice A 2 a,I lp, .slice R 0 r] 47)=W0 at HV ⊢;obtain ⟨b,off,rfl,c0,c1⟩:=HH.out.two HV.out.up;have v1:W0.cell? ⟨w.heap.size,1,none⟩=some (.slice (some ⟨b,off,none⟩) 2 a):=HV.out.row.2 1;have v3:W0.cell? ⟨w.heap.size,3,none⟩=some (.slice R 0 r):=HV.out.row.2 3
   go_rounds 3
   go_rounds 1
   go_ret;exact ⟨rfl,HV.out.up⟩
 ·have HV:=ae (jS.start w #[I ep, .slice A 2 a,I lp, .slice R 1 r] 47);have hl:(lp== -1)=false:=by simp [q3]
  have q4:¬(2:Int)≤q:=by omega
  have q1':¬q<0:=by omega
  clear q1 q2 q3;go_enter Tryz.func93,Tryz.ntmps93;go_wp2_with fail;generalize w.alloc (.cells #[I ep, .slice A 2 a,I lp, .slice R 1 r] 47)=W0 at HV ⊢;obtain ⟨b,off,rfl,c0,c1⟩:=HH.out.two HV.out.up;obtain ⟨bb,U8,rfl,d0,d1,d2⟩:=HH.out.one HV.out.up;have v1:W0.cell? ⟨w.heap.size,1,none⟩=some (.slice (some ⟨b,off,none⟩) 2 a):=HV.out.row.2 1;have v3:W0.cell? ⟨w.heap.size,3,none⟩=some (.slice (some ⟨bb,U8,none⟩) 1 r):=HV.out.row.2 3
  go_rounds 3
  clear v1 c0 c1;have hlt0:w.heap.size<W0.heap.size:=HV.out.row.1;refine wp_loop_rounds 2 ?_;rw [rounds_succ];go_wp2_with fail
  go_region_law (go_simp;go_at_call 110;refine (WU _).mono ?_;rintro e w6 ⟨rfl,rfl⟩)
  all_goals
   go_wp2_with fail;rw [rounds_succ];go_wp2_with fail;go_ret;exact ⟨rfl,(HV.out.grow (ag W0 _)).up.drew⟩
end Go.Proofs.YtdibbemgpikgjaaGreat
