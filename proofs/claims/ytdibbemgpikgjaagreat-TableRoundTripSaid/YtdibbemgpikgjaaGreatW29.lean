/- The texts Ub, in this order. -/
import Derived.Test.YtdibbemgpikgjaaGreatW00
import Derived.Test.YtdibbemgpikgjaaGreatW27
import Derived.Test.YtdibbemgpikgjaaGreatW28
set_option maxRecDepth 10000
set_option maxHeartbeats 8000000
namespace Go.Proofs.YtdibbemgpikgjaaGreat
open Go Go.RowKit
attribute [local go_sem] dD dH dE dI ed eu dB dF dC dG jA jB
def RiI (M:Nat) (w:World) (rb pb po:Nat) (t:TypeId) (cs:Array Value) (n:Nat) (B:List UInt8) (i:Value) (wr:World):Prop:=
 ∃(k:Nat) (A:Option Addr) (c:Nat) (zs:List Int) (R:List UInt8),k≤n∧i= .int .i64 k∧eH (pN 1) k B=some (zs,R)∧fQ M wr rb R∧bD w rb pb t (cs.setIfInBounds po (.slice A k c)) wr∧
  wr.ownsRow w.heap.size 3 1 (.slice A k c) k (zs.map I)∧(k=0→A=none∧c=0)
theorem Nv (M:Nat) (w:World) (rb pb po:Nat) (t:TypeId) (cs:Array Value) (B:List UInt8) (hr:fQ M w rb B) (hp:w.heap[pb]? =some (.cells cs t (0,0))) (hpo:cs[po]? =some (.slice none 0 0)) (mG:M≤pb) (hne:pb≠rb):
  Calls Tryz.prog 85 #[.iface 109 (pt rb), .pointer (some ⟨pb,po,none⟩),I 1, .func (.func 86) #[] #[]] w (dw (gY 1 (pN 1) B) (dO w rb pb t cs) fun zs R=>Ws M w rb pb po t cs 3 1 (zs.map I) zs.length R):=by
 have hpl:pb<w.heap.size:=(bY.1 hp).1;have hlo:=hr.lo;have hrl:=hr.lt;have hcs:cs.setIfInBounds po (.slice none 0 0)=cs:=by
  apply Array.ext_getElem?;intro i;rw [Array.getElem?_setIfInBounds];split
  ·rename_i e;subst e;split
   ·exact hpo.symm
   ·rename_i e2;rw [Array.getElem?_eq_none (by omega)] at hpo;cases hpo
  ·rfl
 have hc0:w.cell? ⟨pb,po,none⟩=some (.slice none 0 0):=(cell_of_row w pb po _ _ _ hp).trans hpo;have hpos:po<cs.size:=(bY.1 hpo).1;have HC:=ae (oM M w.drew rb 1 0 B hr.drew (by omega));have Oa:Hid (bD w rb pb t cs w):=ae (bD.refl hp);have HP:Hid (bD w rb pb t (cs.setIfInBounds po (.slice none 0 0)) w):=ae (by rw [hcs];exact bD.refl hp);clear hr hp hpo hcs;obtain ⟨i0,hi,hz0,hz1,hz2⟩:=info_parts qN;go_enter Tryz.func85,Tryz.ntmps85;go_wp2_with fail;go_still_tail 9,(by kernel_rfl);go_wp2_with fail;refine HC.out.mono ?_;intro e w1 h;rcases h.get with ⟨hq,hd⟩|⟨v,B1,hq,rfl,hr1,hk1⟩
 ·obtain ⟨rfl,hb⟩:=hd;exact ⟨rfl,dw.no (by unfold gY;rw [hq];rfl) ⟨rfl,cs,dU.refl cs,Oa.out.drew.grow hb hpl hne⟩⟩
 obtain ⟨n,rfl,hn⟩:=rU hq;have HQ:Hid (gY 1 (pN 1) B=eH (pN 1) n B1):=ae (by unfold gY;rw [hq];rfl);have HR1:=ae hr1;have lU:=ae (HP.out.drew.jZ hk1 hpl hne);clear hr1 hk1 HC hc0 h hq Oa;go_wp2_with fail
 go_loopw [22] (fun i wr=>RiI M w rb pb po t cs n B1 i wr) (fun i _=>n - (intOf i).toNat)
 case atStart=>exact ⟨0,none,0,[],B1,Nat.zero_le _,rfl,rfl,HR1.out,lU.out,World.ownsRow_nil _ _ _ _,fun _=>⟨rfl,rfl⟩⟩
 case round=>
  obtain ⟨k,A,c,zs,R,hk,rfl,hit,hr,hp,hown,hnl⟩:=hrel;have HR:=ae hr;have lV:=ae hp;have HO:=ae hown;have KX:=ae hnl;have HIT:=ae hit;have IA:=ae (mZ _ _ _ _ _ hit);have hcp:wr.cell? ⟨pb,po,none⟩=some (.slice A k c):=(hp.cell po).trans (by simp [hpos]);have hsw:=hp.size;clear hr hp hown hnl hit HR1 lU HP;by_cases hlt:k<n
  ·have Ri:(0:Int)≤(k:Int):=by omega
   have i1:(k:Int)<(n:Int):=by omega
   have hbase:w.heap.size≤(wr.alloc (.cells #[I 0] 3)).heap.size:=by simp;omega
   go_wp2_with (at_builtin;refine wpList_append_own_at _ rfl _ _ 44 rfl w.heap.size 3 i0 (.int .i64 0) 1 8 Tryz.underlying44 hi hz0 hz1 hz2 rfl (by decide) _ _ _ rfl (HO.out.alloc _) ⟨wr.heap.size,0,none⟩ 1 1 [I 0] rfl rfl ?c1 ?c2 ?c3 ?c4 ?c5 ?_)
   case c1=>exact cell_one_new _ _ _
   case c2=>intro u hu;simp at hu;subst hu;rfl
   case c3=>unfold maxLen;omega
   case c4=>omega
   case c5=>exact hbase
   intro v' w2 hown2 hgrow2 _ qE;obtain ⟨g2,c2,rfl,hg2⟩:=eU hown2 (Nat.succ_pos _);have hbw:∀b,b<w.heap.size→w2.heap[b]? =wr.heap[b]? :=fun b hb=>by rw [hgrow2.block b (by simp;omega) (eG HO.out b hb),Below.heap_alloc wr _ b (by omega)]
   have hs2:wr.heap.size≤w2.heap.size:=by have:=hgrow2.size;rw [World.size_alloc] at this;omega
   have hp2:w2.heap[pb]? =some (.cells (cs.setIfInBounds po (.slice A k c)) t (0,0)):=(hbw pb hpl).trans lV.out.tgt;have hcp2:w2.cell? ⟨pb,po,none⟩=some (.slice A k c):=(cell_of_row w2 pb po _ _ _ hp2).trans (by simp [hpos]);have xw:=frozen_of_row w2 pb po _ _ hp2;have hlo2:=fM hown2;have hP3:bD w rb pb t (cs.setIfInBounds po (.slice (some ⟨g2,0,none⟩) (k+1) c2)) (w2.setCell ⟨pb,po,none⟩ (.slice (some ⟨g2,0,none⟩) (k+1) c2)):=by
    have h:bD w rb pb t (cs.setIfInBounds po (.slice A k c)) w2:=⟨hgrow2.os.trans lV.out.os,hgrow2.tape.trans lV.out.tape,hgrow2.output.trans lV.out.output,Nat.le_trans lV.out.size hs2,fun b hb h1 h2=>(hbw b hb).trans (lV.out.block b hb h1 h2),hp2⟩;have h:=h.put po (.slice (some ⟨g2,0,none⟩) (k+1) c2)
    rwa [Array.setIfInBounds_setIfInBounds] at h
   have CP:fQ M (w2.setCell ⟨pb,po,none⟩ (.slice (some ⟨g2,0,none⟩) (k+1) c2)) rb R:=(HR.out.of (hbw rb hrl) fun b hb=>hbw b (by omega)).put mG hne _;have hO3:(w2.setCell ⟨pb,po,none⟩ (.slice (some ⟨g2,0,none⟩) (k+1) c2)).ownsRow w.heap.size 3 1 (.slice (some ⟨g2,0,none⟩) (k+1) c2) (k+1) (zs.map I++ [I 0]):=dn (p:=⟨pb,po,none⟩) hown2 (by intro e;injection e with e;simp only at e;omega);have dV:=ae hP3;have HR3:=ae CP;have mV:=ae hO3;clear hown2 hgrow2 qE hbw hp2 hP3 CP hO3 hg2 hcp;go_wp2_with fail;obtain ⟨w3,hw3⟩:∃W,w2.setCell ⟨pb,po,none⟩ (.slice (some ⟨g2,0,none⟩) (k+1) c2)=W:=⟨_,rfl⟩;rw [hw3] at dV HR3 mV ⊢;obtain ⟨cur,q1,q2,q3,q4,q5,q6,q7,_⟩:=ji mV.out;refine (J8 M w3 rb g2 k 3 cur R HR3.out q1 (by rw [q5];omega) (by omega) (by omega)).mono ?_;intro e w4 xx;rcases xx.get with ⟨hq,hd⟩|⟨x,R4,hq,rfl,hr4,gW⟩
   ·obtain ⟨rfl,D,hD,hT⟩:=hd;exact ⟨rfl,dw.no (HQ.out.trans (oL _ _ _ (nO _ HIT.out hq) _ (by omega))) ⟨rfl,_,(dU.refl cs).set rfl,⟨hT.os.trans dV.out.os,hT.tape.trans dV.out.tape,hT.output.trans dV.out.output,Nat.le_trans dV.out.size hT.size,fun b hb h1 h2=>(hT.block b (dS hb dV.out.size) (by omega) h2).trans (dV.out.block b hb h1 h2),(hT.block pb (dS hpl dV.out.size) (by omega) hne).trans dV.out.tgt⟩⟩⟩
   have hO4:=JH mV.out q1 gW;have hset:(zs.map I++ [I 0]).set k (I x)=(zs++ [x]).map I:=by
    have h:=ints_set zs x
    rwa [IA.out] at h
   rw [hset] at hO4;have FB:bD w rb pb t (cs.setIfInBounds po (.slice (some ⟨g2,0,none⟩) (k+1) c2)) w4:=⟨gW.os.trans dV.out.os,gW.tape.trans dV.out.tape,gW.output.trans dV.out.output,Nat.le_trans dV.out.size gW.size,fun b hb h1 h2=>(gW.block b (dS hb dV.out.size) (by omega) h2).trans (dV.out.block b hb h1 h2),(gW.block pb (dS hpl dV.out.size) (by omega) hne).trans dV.out.tgt⟩;have HR4:=ae hr4;have pV:=ae FB;have uZ:=ae hO4;have Gl:=ae (nN _ HIT.out hq);clear hr4 gW hO4 FB hset q1 q2 q3 q4 q5 q6 q7 hw3 hcp2 xw xx hq;go_wp2_with fail;go_roundw
   case rel=>exact ⟨k+1,some ⟨g2,0,none⟩,c2,zs++ [x],R4,by omega,by go_num,Gl.out,HR4.out,pV.out,uZ.out,fun h=>by omega⟩
   case measure=>simp [intOf];omega
  ·have hkn:k=n:=by omega
   have kY:=ae hkn;have hlt':¬(k:Int)<(n:Int):=by omega
   clear hkn hlt hcp;go_wp2_with fail
   go_end0
   have hit:=HIT.out;rw [kY.out] at hit;have hzl:zs.length=n:=IA.out.trans kY.out;refine dw.yes (HQ.out.trans hit) ?_;rw [hzl];refine ⟨rfl,A,c,HR.out,?_,?_,fun h=>KX.out (kY.out.trans h)⟩
   ·have h:=lV.out
    rwa [kY.out] at h
   ·have h:=HO.out
    rwa [kY.out] at h
def RiL (M:Nat) (w:World) (rb pb po:Nat) (t:TypeId) (cs:Array Value) (n:Nat) (B:List UInt8) (i:Value) (wr:World):Prop:=
 ∃(k:Nat) (A:Option Addr) (c:Nat) (zs:List Lr) (R:List UInt8),k≤n∧i= .int .i64 k∧eH Na k B=some (zs,R)∧fQ M wr rb R∧bD w rb pb t (cs.setIfInBounds po (.slice A k c)) wr∧
  wr.ownsRow w.heap.size 134 3 (.slice A k c) k (zs.flatMap Lr.cells)∧(k=0→A=none∧c=0)
theorem J5 (M:Nat) (w:World) (rb pb po:Nat) (t:TypeId) (cs:Array Value) (B:List UInt8) (hr:fQ M w rb B) (hp:w.heap[pb]? =some (.cells cs t (0,0))) (hpo:cs[po]? =some (.slice none 0 0)) (mG:M≤pb) (hne:pb≠rb):
  Calls Tryz.prog 87 #[.iface 109 (pt rb), .pointer (some ⟨pb,po,none⟩),I 1, .func (.func 88) #[] #[]] w (dw (gY 1 Na B) (dO w rb pb t cs) fun zs R=>Ws M w rb pb po t cs 134 3 (zs.flatMap Lr.cells) zs.length R):=by
 have hpl:pb<w.heap.size:=(bY.1 hp).1;have hlo:=hr.lo;have hrl:=hr.lt;have hcs:cs.setIfInBounds po (.slice none 0 0)=cs:=by
  apply Array.ext_getElem?;intro i;rw [Array.getElem?_setIfInBounds];split
  ·rename_i e;subst e;split
   ·exact hpo.symm
   ·rename_i e2;rw [Array.getElem?_eq_none (by omega)] at hpo;cases hpo
  ·rfl
 have hc0:w.cell? ⟨pb,po,none⟩=some (.slice none 0 0):=(cell_of_row w pb po _ _ _ hp).trans hpo;have hpos:po<cs.size:=(bY.1 hpo).1;have HC:=ae (oM M w.drew rb 1 0 B hr.drew (by omega));have Oa:Hid (bD w rb pb t cs w):=ae (bD.refl hp);have HP:Hid (bD w rb pb t (cs.setIfInBounds po (.slice none 0 0)) w):=ae (by rw [hcs];exact bD.refl hp);clear hr hp hpo hcs;obtain ⟨i0,hi,hz0,hz1,hz2⟩:=info_parts JA;go_enter Tryz.func87,Tryz.ntmps87;go_wp2_with fail;go_still_tail 9,(by kernel_rfl);go_wp2_with fail;refine HC.out.mono ?_;intro e w1 h;rcases h.get with ⟨hq,hd⟩|⟨v,B1,hq,rfl,hr1,hk1⟩
 ·obtain ⟨rfl,hb⟩:=hd;exact ⟨rfl,dw.no (by unfold gY;rw [hq];rfl) ⟨rfl,cs,dU.refl cs,Oa.out.drew.grow hb hpl hne⟩⟩
 obtain ⟨n,rfl,hn⟩:=rU hq;have HQ:Hid (gY 1 Na B=eH Na n B1):=ae (by unfold gY;rw [hq];rfl);have HR1:=ae hr1;have lU:=ae (HP.out.drew.jZ hk1 hpl hne);clear hr1 hk1 HC hc0 h hq Oa;go_wp2_with fail
 go_loopw [22] (fun i wr=>RiL M w rb pb po t cs n B1 i wr) (fun i _=>n - (intOf i).toNat)
 case atStart=>exact ⟨0,none,0,[],B1,Nat.zero_le _,rfl,rfl,HR1.out,lU.out,World.ownsRow_nil _ _ _ _,fun _=>⟨rfl,rfl⟩⟩
 case round=>
  obtain ⟨k,A,c,zs,R,hk,rfl,hit,hr,hp,hown,hnl⟩:=hrel;have HR:=ae hr;have lV:=ae hp;have HO:=ae hown;have KX:=ae hnl;have HIT:=ae hit;have IA:=ae (mZ _ _ _ _ _ hit);have hcp:wr.cell? ⟨pb,po,none⟩=some (.slice A k c):=(hp.cell po).trans (by simp [hpos]);have hsw:=hp.size;clear hr hp hown hnl hit HR1 lU HP;by_cases hlt:k<n
  ·have Ri:(0:Int)≤(k:Int):=by omega
   have i1:(k:Int)<(n:Int):=by omega
   have rD:Hid ((zs.flatMap Lr.cells).length=k*3):=ae (by rw [dP (s:=3) Lr.cells zs fun _ _=>rfl,IA.out]);have BB:Hid (∀j u,(#[I 0,I 0, .bool false]:Array Value).toList[j]? =some u→(((wr.alloc (.cells (#[I 0,I 0, .bool false]:Array Value) 134)).alloc (.cells (#[I 0,I 0, .bool false]:Array Value) 134)).drew).cell? ((⟨wr.heap.size+1,0,none⟩:Addr).add j)=some u):=ae fun j u hu=>by
    rw [addr_add];have h:=(Row.new (wr.alloc (.cells (#[I 0,I 0, .bool false]:Array Value) 134)) (#[I 0,I 0, .bool false]:Array Value) 134).2 j;rw [World.size_alloc] at h;exact h.trans (by simpa using hu)
   have vU:Hid (∀u∈(#[I 0,I 0, .bool false]:Array Value).toList,u.oneCell'=true):=ae (by
    intro u hu;have h:(#[I 0,I 0, .bool false]:Array Value).all (·.oneCell')=true:=by kernel_rfl
    rw [Array.all_eq_true_iff_forall_mem] at h;exact h u (by simpa using hu))
   have Uh:pb<wr.heap.size:=by omega
   have hmx:k+1≤maxLen:=by unfold maxLen;omega
   have hby:(k+1)*24≤140737488355328:=by omega
   have N7:Hid (w.heap.size≤(((wr.alloc (.cells (#[I 0,I 0, .bool false]:Array Value) 134)).alloc (.cells (#[I 0,I 0, .bool false]:Array Value) 134)).drew).heap.size):=ae (by simp;omega);have dR:Hid ((((wr.alloc (.cells (#[I 0,I 0, .bool false]:Array Value) 134)).alloc (.cells (#[I 0,I 0, .bool false]:Array Value) 134)).drew).heap.size=wr.heap.size+2):=ae (by simp);have RH:Hid ((((wr.alloc (.cells (#[I 0,I 0, .bool false]:Array Value) 134)).alloc (.cells (#[I 0,I 0, .bool false]:Array Value) 134)).drew).ownsRow w.heap.size 134 3 (.slice A k c) k (zs.flatMap Lr.cells)):=ae ((HO.out.alloc _).alloc _).drew;have yF:Hid (∀b,b<wr.heap.size→(((wr.alloc (.cells (#[I 0,I 0, .bool false]:Array Value) 134)).alloc (.cells (#[I 0,I 0, .bool false]:Array Value) 134)).drew).heap[b]? =wr.heap[b]?):=ae fun b hb=>(Below.heap_alloc (wr.alloc (.cells (#[I 0,I 0, .bool false]:Array Value) 134)) _ b (by simp;omega)).trans (Below.heap_alloc wr _ b hb);go_wp2_with fail
   go_region_law (refine step_append_lies _ (by rfl) _ _ _ (by rfl) w.heap.size 134 i0 (.agg (#[I 0,I 0, .bool false])) 3 24 Tryz.underlying45 hi hz0 hz1 hz2 (by rfl) (by omega) (.slice A k c) k (zs.flatMap Lr.cells) (by rfl) RH.out ⟨wr.heap.size+1,0,none⟩ 1 1 (#[I 0,I 0, .bool false]:Array Value).toList (by rfl) (by rfl) BB.out vU.out (by omega) hmx hby N7.out (wr.heap.size+2) dR.out ?_;intro g2 c2 w2 hown2 hgrow2 qE hlt2;have hbw:∀b,b<w.heap.size→w2.heap[b]? =wr.heap[b]? :=fun b hb=>(hgrow2.block b (Nat.lt_of_lt_of_eq (show b<wr.heap.size+2 by omega) dR.out.symm) (eG HO.out b hb)).trans (yF.out b (by omega));have HP2:Hid (w2.heap[pb]? =some (.cells (cs.setIfInBounds po (.slice A k c)) t (0,0))):=ae ((hbw pb hpl).trans lV.out.tgt);have hcp2:w2.cell? ⟨pb,po,none⟩=some (.slice A k c):=(cell_of_row w2 pb po _ _ _ HP2.out).trans (by simp [hpos]);have xw:=frozen_of_row w2 pb po _ _ HP2.out;have nR:=ae hbw;have mJ:=ae hown2;have HG2:=ae hgrow2;have HA2:=ae qE;clear hbw hown2 hgrow2 qE)
   all_goals
    have hs2:wr.heap.size+2≤w2.heap.size:=Nat.le_trans (Nat.le_of_eq dR.out.symm) HG2.out.size;have hlo2:=fM mJ.out;have hP3:bD w rb pb t (cs.setIfInBounds po (.slice (some ⟨g2,0,none⟩) (k+1) c2)) (w2.setCell ⟨pb,po,none⟩ (.slice (some ⟨g2,0,none⟩) (k+1) c2)):=by
     have h:bD w rb pb t (cs.setIfInBounds po (.slice A k c)) w2:=⟨HG2.out.os.trans lV.out.os,HG2.out.tape.trans lV.out.tape,HG2.out.output.trans lV.out.output,by omega,fun b hb h1 h2=>(nR.out b hb).trans (lV.out.block b hb h1 h2),HP2.out⟩;have h:=h.put po (.slice (some ⟨g2,0,none⟩) (k+1) c2)
     rwa [Array.setIfInBounds_setIfInBounds] at h
    have CP:fQ M (w2.setCell ⟨pb,po,none⟩ (.slice (some ⟨g2,0,none⟩) (k+1) c2)) rb R:=(HR.out.of (nR.out rb hrl) fun b hb=>nR.out b (by omega)).put mG hne _;have hO3:(w2.setCell ⟨pb,po,none⟩ (.slice (some ⟨g2,0,none⟩) (k+1) c2)).ownsRow w.heap.size 134 3 (.slice (some ⟨g2,0,none⟩) (k+1) c2) (k+1) (zs.flatMap Lr.cells++(#[I 0,I 0, .bool false]:Array Value).toList):=dn (p:=⟨pb,po,none⟩) mJ.out (by intro e;injection e with e;simp only at e;omega);have dV:=ae hP3;have HR3:=ae CP;have mV:=ae hO3;clear hP3 CP hO3 HP2 nR mJ HG2 HA2 hcp;go_wp2_with fail;obtain ⟨w3,hw3⟩:∃W,w2.setCell ⟨pb,po,none⟩ (.slice (some ⟨g2,0,none⟩) (k+1) c2)=W:=⟨_,rfl⟩;rw [hw3] at dV HR3 mV ⊢;obtain ⟨cur,q1,q2,q3,q4,q5,q6,q7,_⟩:=ji mV.out;have hbz:cur[k*3+2]? =some (.bool false):=by
     have h:(cur.toList.take ((k+1)*3))[k*3+2]? =(zs.flatMap Lr.cells++(#[I 0,I 0, .bool false]:Array Value).toList)[k*3+2]? :=by rw [q6]
     rw [List.getElem?_take_of_lt (by omega),List.getElem?_append_right (by rw [rD.out];omega),rD.out,show k*3+2 - k*3=2 by omega] at h;simpa using h
    refine (Yb M w3 rb g2 (k*3) 134 cur R HR3.out q1 (by rw [q5];omega) hbz (by omega) (by omega)).mono ?_;intro e w4 xx;rcases xx.get with ⟨hq,hd⟩|⟨x,R4,hq,rfl,hr4,gW⟩
    ·obtain ⟨rfl,D,hD,hT⟩:=hd;exact ⟨rfl,dw.no (HQ.out.trans (oL _ _ _ (nO _ HIT.out hq) _ (by omega))) ⟨rfl,_,(dU.refl cs).set rfl,⟨hT.os.trans dV.out.os,hT.tape.trans dV.out.tape,hT.output.trans dV.out.output,Nat.le_trans dV.out.size hT.size,fun b hb h1 h2=>(hT.block b (dS hb dV.out.size) (by omega) h2).trans (dV.out.block b hb h1 h2),(hT.block pb (dS hpl dV.out.size) (by omega) hne).trans dV.out.tgt⟩⟩⟩
    have hO4:=Be mV.out q1 gW;have hse:lC (zs.flatMap Lr.cells++(#[I 0,I 0, .bool false]:Array Value).toList) (k*3) (Lr.cells x)=(zs++ [x]).flatMap Lr.cells:=by
     have h:=qc (Lr.cells x) (zs.flatMap Lr.cells) (#[I 0,I 0, .bool false]:Array Value).toList rfl;rw [rD.out] at h;rw [h,List.flatMap_append,List.flatMap_cons,List.flatMap_nil,List.append_nil]
    rw [hse] at hO4;have FB:bD w rb pb t (cs.setIfInBounds po (.slice (some ⟨g2,0,none⟩) (k+1) c2)) w4:=⟨gW.os.trans dV.out.os,gW.tape.trans dV.out.tape,gW.output.trans dV.out.output,Nat.le_trans dV.out.size gW.size,fun b hb h1 h2=>(gW.block b (dS hb dV.out.size) (by omega) h2).trans (dV.out.block b hb h1 h2),(gW.block pb (dS hpl dV.out.size) (by omega) hne).trans dV.out.tgt⟩;have HR4:=ae hr4;have pV:=ae FB;have uZ:=ae hO4;have Gl:=ae (nN _ HIT.out hq);clear hr4 gW hO4 FB hse q1 q2 q3 q4 q5 q6 q7 hw3 hcp2 xw xx hq;go_wp2_with fail;go_roundw
    case rel=>exact ⟨k+1,some ⟨g2,0,none⟩,c2,zs++ [x],R4,by omega,by go_num,Gl.out,HR4.out,pV.out,uZ.out,fun h=>by omega⟩
    case measure=>simp [intOf];omega
  ·have hkn:k=n:=by omega
   have kY:=ae hkn;have hlt':¬(k:Int)<(n:Int):=by omega
   clear hkn hlt hcp;go_wp2_with fail
   go_end0
   have hit:=HIT.out;rw [kY.out] at hit;have hzl:zs.length=n:=IA.out.trans kY.out;refine dw.yes (HQ.out.trans hit) ?_;rw [hzl];refine ⟨rfl,A,c,HR.out,?_,?_,fun h=>KX.out (kY.out.trans h)⟩
   ·have h:=lV.out
    rwa [kY.out] at h
   ·have h:=HO.out
    rwa [kY.out] at h
def RiT (M:Nat) (w:World) (rb pb po:Nat) (t:TypeId) (cs:Array Value) (n:Nat) (B:List UInt8) (i:Value) (wr:World):Prop:=
 ∃(k:Nat) (A:Option Addr) (c:Nat) (zs:List Tr) (R:List UInt8),k≤n∧i= .int .i64 k∧eH OU k B=some (zs,R)∧fQ M wr rb R∧bD w rb pb t (cs.setIfInBounds po (.slice A k c)) wr∧
  wr.ownsRow w.heap.size 100 2 (.slice A k c) k (zs.flatMap Tr.cells)∧(k=0→A=none∧c=0)
theorem Hu (M:Nat) (w:World) (rb pb po:Nat) (t:TypeId) (cs:Array Value) (B:List UInt8) (hr:fQ M w rb B) (hp:w.heap[pb]? =some (.cells cs t (0,0))) (hpo:cs[po]? =some (.slice none 0 0)) (mG:M≤pb) (hne:pb≠rb):
  Calls Tryz.prog 62 #[.iface 109 (pt rb), .pointer (some ⟨pb,po,none⟩),I 2, .func (.func 63) #[] #[]] w (dw (gY 2 OU B) (dO w rb pb t cs) fun zs R=>Ws M w rb pb po t cs 100 2 (zs.flatMap Tr.cells) zs.length R):=by
 have hpl:pb<w.heap.size:=(bY.1 hp).1;have hlo:=hr.lo;have hrl:=hr.lt;have hcs:cs.setIfInBounds po (.slice none 0 0)=cs:=by
  apply Array.ext_getElem?;intro i;rw [Array.getElem?_setIfInBounds];split
  ·rename_i e;subst e;split
   ·exact hpo.symm
   ·rename_i e2;rw [Array.getElem?_eq_none (by omega)] at hpo;cases hpo
  ·rfl
 have hc0:w.cell? ⟨pb,po,none⟩=some (.slice none 0 0):=(cell_of_row w pb po _ _ _ hp).trans hpo;have hpos:po<cs.size:=(bY.1 hpo).1;have HC:=ae (oM M w.drew rb 2 0 B hr.drew (by omega));have Oa:Hid (bD w rb pb t cs w):=ae (bD.refl hp);have HP:Hid (bD w rb pb t (cs.setIfInBounds po (.slice none 0 0)) w):=ae (by rw [hcs];exact bD.refl hp);clear hr hp hpo hcs;obtain ⟨i0,hi,hz0,hz1,hz2⟩:=info_parts xB;go_enter Tryz.func62,Tryz.ntmps62;go_wp2_with fail;go_still_tail 9,(by kernel_rfl);go_wp2_with fail;refine HC.out.mono ?_;intro e w1 h;rcases h.get with ⟨hq,hd⟩|⟨v,B1,hq,rfl,hr1,hk1⟩
 ·obtain ⟨rfl,hb⟩:=hd;exact ⟨rfl,dw.no (by unfold gY;rw [hq];rfl) ⟨rfl,cs,dU.refl cs,Oa.out.drew.grow hb hpl hne⟩⟩
 obtain ⟨n,rfl,hn⟩:=XG hq;have HQ:Hid (gY 2 OU B=eH OU n B1):=ae (by unfold gY;rw [hq];rfl);have HR1:=ae hr1;have lU:=ae (HP.out.drew.jZ hk1 hpl hne);clear hr1 hk1 HC hc0 h hq Oa;go_wp2_with fail
 go_loopw [22] (fun i wr=>RiT M w rb pb po t cs n B1 i wr) (fun i _=>n - (intOf i).toNat)
 case atStart=>exact ⟨0,none,0,[],B1,Nat.zero_le _,rfl,rfl,HR1.out,lU.out,World.ownsRow_nil _ _ _ _,fun _=>⟨rfl,rfl⟩⟩
 case round=>
  obtain ⟨k,A,c,zs,R,hk,rfl,hit,hr,hp,hown,hnl⟩:=hrel;have HR:=ae hr;have lV:=ae hp;have HO:=ae hown;have KX:=ae hnl;have HIT:=ae hit;have IA:=ae (mZ _ _ _ _ _ hit);have hcp:wr.cell? ⟨pb,po,none⟩=some (.slice A k c):=(hp.cell po).trans (by simp [hpos]);have hsw:=hp.size;clear hr hp hown hnl hit HR1 lU HP;by_cases hlt:k<n
  ·have Ri:(0:Int)≤(k:Int):=by omega
   have i1:(k:Int)<(n:Int):=by omega
   have rD:Hid ((zs.flatMap Tr.cells).length=k*2):=ae (by rw [dP (s:=2) Tr.cells zs fun _ _=>rfl,IA.out]);have BB:Hid (∀j u,(#[I 0,I 0]:Array Value).toList[j]? =some u→(((wr.alloc (.cells (#[I 0,I 0]:Array Value) 100)).alloc (.cells (#[I 0,I 0]:Array Value) 100)).drew).cell? ((⟨wr.heap.size+1,0,none⟩:Addr).add j)=some u):=ae fun j u hu=>by
    rw [addr_add];have h:=(Row.new (wr.alloc (.cells (#[I 0,I 0]:Array Value) 100)) (#[I 0,I 0]:Array Value) 100).2 j;rw [World.size_alloc] at h;exact h.trans (by simpa using hu)
   have vU:Hid (∀u∈(#[I 0,I 0]:Array Value).toList,u.oneCell'=true):=ae (by
    intro u hu;have h:(#[I 0,I 0]:Array Value).all (·.oneCell')=true:=by kernel_rfl
    rw [Array.all_eq_true_iff_forall_mem] at h;exact h u (by simpa using hu))
   have Uh:pb<wr.heap.size:=by omega
   have hmx:k+1≤maxLen:=by unfold maxLen;omega
   have hby:(k+1)*16≤140737488355328:=by omega
   have N7:Hid (w.heap.size≤(((wr.alloc (.cells (#[I 0,I 0]:Array Value) 100)).alloc (.cells (#[I 0,I 0]:Array Value) 100)).drew).heap.size):=ae (by simp;omega);have dR:Hid ((((wr.alloc (.cells (#[I 0,I 0]:Array Value) 100)).alloc (.cells (#[I 0,I 0]:Array Value) 100)).drew).heap.size=wr.heap.size+2):=ae (by simp);have RH:Hid ((((wr.alloc (.cells (#[I 0,I 0]:Array Value) 100)).alloc (.cells (#[I 0,I 0]:Array Value) 100)).drew).ownsRow w.heap.size 100 2 (.slice A k c) k (zs.flatMap Tr.cells)):=ae ((HO.out.alloc _).alloc _).drew;have yF:Hid (∀b,b<wr.heap.size→(((wr.alloc (.cells (#[I 0,I 0]:Array Value) 100)).alloc (.cells (#[I 0,I 0]:Array Value) 100)).drew).heap[b]? =wr.heap[b]?):=ae fun b hb=>(Below.heap_alloc (wr.alloc (.cells (#[I 0,I 0]:Array Value) 100)) _ b (by simp;omega)).trans (Below.heap_alloc wr _ b hb);go_wp2_with fail
   go_region_law (refine step_append_lies _ (by rfl) _ _ _ (by rfl) w.heap.size 100 i0 (.agg (#[I 0,I 0])) 2 16 Tryz.underlying48 hi hz0 hz1 hz2 (by rfl) (by omega) (.slice A k c) k (zs.flatMap Tr.cells) (by rfl) RH.out ⟨wr.heap.size+1,0,none⟩ 1 1 (#[I 0,I 0]:Array Value).toList (by rfl) (by rfl) BB.out vU.out (by omega) hmx hby N7.out (wr.heap.size+2) dR.out ?_;intro g2 c2 w2 hown2 hgrow2 qE hlt2;have hbw:∀b,b<w.heap.size→w2.heap[b]? =wr.heap[b]? :=fun b hb=>(hgrow2.block b (Nat.lt_of_lt_of_eq (show b<wr.heap.size+2 by omega) dR.out.symm) (eG HO.out b hb)).trans (yF.out b (by omega));have HP2:Hid (w2.heap[pb]? =some (.cells (cs.setIfInBounds po (.slice A k c)) t (0,0))):=ae ((hbw pb hpl).trans lV.out.tgt);have hcp2:w2.cell? ⟨pb,po,none⟩=some (.slice A k c):=(cell_of_row w2 pb po _ _ _ HP2.out).trans (by simp [hpos]);have xw:=frozen_of_row w2 pb po _ _ HP2.out;have nR:=ae hbw;have mJ:=ae hown2;have HG2:=ae hgrow2;have HA2:=ae qE;clear hbw hown2 hgrow2 qE)
   all_goals
    have hs2:wr.heap.size+2≤w2.heap.size:=Nat.le_trans (Nat.le_of_eq dR.out.symm) HG2.out.size;have hlo2:=fM mJ.out;have hP3:bD w rb pb t (cs.setIfInBounds po (.slice (some ⟨g2,0,none⟩) (k+1) c2)) (w2.setCell ⟨pb,po,none⟩ (.slice (some ⟨g2,0,none⟩) (k+1) c2)):=by
     have h:bD w rb pb t (cs.setIfInBounds po (.slice A k c)) w2:=⟨HG2.out.os.trans lV.out.os,HG2.out.tape.trans lV.out.tape,HG2.out.output.trans lV.out.output,by omega,fun b hb h1 h2=>(nR.out b hb).trans (lV.out.block b hb h1 h2),HP2.out⟩;have h:=h.put po (.slice (some ⟨g2,0,none⟩) (k+1) c2)
     rwa [Array.setIfInBounds_setIfInBounds] at h
    have CP:fQ M (w2.setCell ⟨pb,po,none⟩ (.slice (some ⟨g2,0,none⟩) (k+1) c2)) rb R:=(HR.out.of (nR.out rb hrl) fun b hb=>nR.out b (by omega)).put mG hne _;have hO3:(w2.setCell ⟨pb,po,none⟩ (.slice (some ⟨g2,0,none⟩) (k+1) c2)).ownsRow w.heap.size 100 2 (.slice (some ⟨g2,0,none⟩) (k+1) c2) (k+1) (zs.flatMap Tr.cells++(#[I 0,I 0]:Array Value).toList):=dn (p:=⟨pb,po,none⟩) mJ.out (by intro e;injection e with e;simp only at e;omega);have dV:=ae hP3;have HR3:=ae CP;have mV:=ae hO3;clear hP3 CP hO3 HP2 nR mJ HG2 HA2 hcp;go_wp2_with fail;obtain ⟨w3,hw3⟩:∃W,w2.setCell ⟨pb,po,none⟩ (.slice (some ⟨g2,0,none⟩) (k+1) c2)=W:=⟨_,rfl⟩;rw [hw3] at dV HR3 mV ⊢;obtain ⟨cur,q1,q2,q3,q4,q5,q6,q7,_⟩:=ji mV.out;refine (UZ M w3 rb g2 (k*2) 100 cur R HR3.out q1 (by rw [q5];omega) (by omega) (by omega)).mono ?_;intro e w4 xx;rcases xx.get with ⟨hq,hd⟩|⟨x,R4,hq,rfl,hr4,gW⟩
    ·obtain ⟨rfl,D,hD,hT⟩:=hd;exact ⟨rfl,dw.no (HQ.out.trans (oL _ _ _ (nO _ HIT.out hq) _ (by omega))) ⟨rfl,_,(dU.refl cs).set rfl,⟨hT.os.trans dV.out.os,hT.tape.trans dV.out.tape,hT.output.trans dV.out.output,Nat.le_trans dV.out.size hT.size,fun b hb h1 h2=>(hT.block b (dS hb dV.out.size) (by omega) h2).trans (dV.out.block b hb h1 h2),(hT.block pb (dS hpl dV.out.size) (by omega) hne).trans dV.out.tgt⟩⟩⟩
    have hO4:=Be mV.out q1 gW;have hse:lC (zs.flatMap Tr.cells++(#[I 0,I 0]:Array Value).toList) (k*2) (Tr.cells x)=(zs++ [x]).flatMap Tr.cells:=by
     have h:=qc (Tr.cells x) (zs.flatMap Tr.cells) (#[I 0,I 0]:Array Value).toList rfl;rw [rD.out] at h;rw [h,List.flatMap_append,List.flatMap_cons,List.flatMap_nil,List.append_nil]
    rw [hse] at hO4;have FB:bD w rb pb t (cs.setIfInBounds po (.slice (some ⟨g2,0,none⟩) (k+1) c2)) w4:=⟨gW.os.trans dV.out.os,gW.tape.trans dV.out.tape,gW.output.trans dV.out.output,Nat.le_trans dV.out.size gW.size,fun b hb h1 h2=>(gW.block b (dS hb dV.out.size) (by omega) h2).trans (dV.out.block b hb h1 h2),(gW.block pb (dS hpl dV.out.size) (by omega) hne).trans dV.out.tgt⟩;have HR4:=ae hr4;have pV:=ae FB;have uZ:=ae hO4;have Gl:=ae (nN _ HIT.out hq);clear hr4 gW hO4 FB hse q1 q2 q3 q4 q5 q6 q7 hw3 hcp2 xw xx hq;go_wp2_with fail;go_roundw
    case rel=>exact ⟨k+1,some ⟨g2,0,none⟩,c2,zs++ [x],R4,by omega,by go_num,Gl.out,HR4.out,pV.out,uZ.out,fun h=>by omega⟩
    case measure=>simp [intOf];omega
  ·have hkn:k=n:=by omega
   have kY:=ae hkn;have hlt':¬(k:Int)<(n:Int):=by omega
   clear hkn hlt hcp;go_wp2_with fail
   go_end0
   have hit:=HIT.out;rw [kY.out] at hit;have hzl:zs.length=n:=IA.out.trans kY.out;refine dw.yes (HQ.out.trans hit) ?_;rw [hzl];refine ⟨rfl,A,c,HR.out,?_,?_,fun h=>KX.out (kY.out.trans h)⟩
   ·have h:=lV.out
    rwa [kY.out] at h
   ·have h:=HO.out
    rwa [kY.out] at h
def RiY (M:Nat) (w:World) (rb pb po:Nat) (t:TypeId) (cs:Array Value) (n:Nat) (B:List UInt8) (i:Value) (wr:World):Prop:=
 ∃(k:Nat) (A:Option Addr) (c:Nat) (zs:List Yr) (R:List UInt8),k≤n∧i= .int .i64 k∧eH JI k B=some (zs,R)∧fQ M wr rb R∧bD w rb pb t (cs.setIfInBounds po (.slice A k c)) wr∧
  wr.ownsRow w.heap.size 130 5 (.slice A k c) k (zs.flatMap Yr.cells)∧(k=0→A=none∧c=0)
theorem J6 (M:Nat) (w:World) (rb pb po:Nat) (t:TypeId) (cs:Array Value) (B:List UInt8) (hr:fQ M w rb B) (hp:w.heap[pb]? =some (.cells cs t (0,0))) (hpo:cs[po]? =some (.slice none 0 0)) (mG:M≤pb) (hne:pb≠rb):
  Calls Tryz.prog 64 #[.iface 109 (pt rb), .pointer (some ⟨pb,po,none⟩),I 1, .func (.func 65) #[] #[]] w (dw (gY 1 JI B) (dO w rb pb t cs) fun zs R=>Ws M w rb pb po t cs 130 5 (zs.flatMap Yr.cells) zs.length R):=by
 have hpl:pb<w.heap.size:=(bY.1 hp).1;have hlo:=hr.lo;have hrl:=hr.lt;have hcs:cs.setIfInBounds po (.slice none 0 0)=cs:=by
  apply Array.ext_getElem?;intro i;rw [Array.getElem?_setIfInBounds];split
  ·rename_i e;subst e;split
   ·exact hpo.symm
   ·rename_i e2;rw [Array.getElem?_eq_none (by omega)] at hpo;cases hpo
  ·rfl
 have hc0:w.cell? ⟨pb,po,none⟩=some (.slice none 0 0):=(cell_of_row w pb po _ _ _ hp).trans hpo;have hpos:po<cs.size:=(bY.1 hpo).1;have HC:=ae (oM M w.drew rb 1 0 B hr.drew (by omega));have Oa:Hid (bD w rb pb t cs w):=ae (bD.refl hp);have HP:Hid (bD w rb pb t (cs.setIfInBounds po (.slice none 0 0)) w):=ae (by rw [hcs];exact bD.refl hp);clear hr hp hpo hcs;obtain ⟨i0,hi,hz0,hz1,hz2⟩:=info_parts GV;go_enter Tryz.func64,Tryz.ntmps64;go_wp2_with fail;go_still_tail 9,(by kernel_rfl);go_wp2_with fail;refine HC.out.mono ?_;intro e w1 h;rcases h.get with ⟨hq,hd⟩|⟨v,B1,hq,rfl,hr1,hk1⟩
 ·obtain ⟨rfl,hb⟩:=hd;exact ⟨rfl,dw.no (by unfold gY;rw [hq];rfl) ⟨rfl,cs,dU.refl cs,Oa.out.drew.grow hb hpl hne⟩⟩
 obtain ⟨n,rfl,hn⟩:=rU hq;have HQ:Hid (gY 1 JI B=eH JI n B1):=ae (by unfold gY;rw [hq];rfl);have HR1:=ae hr1;have lU:=ae (HP.out.drew.jZ hk1 hpl hne);clear hr1 hk1 HC hc0 h hq Oa;go_wp2_with fail
 go_loopw [22] (fun i wr=>RiY M w rb pb po t cs n B1 i wr) (fun i _=>n - (intOf i).toNat)
 case atStart=>exact ⟨0,none,0,[],B1,Nat.zero_le _,rfl,rfl,HR1.out,lU.out,World.ownsRow_nil _ _ _ _,fun _=>⟨rfl,rfl⟩⟩
 case round=>
  obtain ⟨k,A,c,zs,R,hk,rfl,hit,hr,hp,hown,hnl⟩:=hrel;have HR:=ae hr;have lV:=ae hp;have HO:=ae hown;have KX:=ae hnl;have HIT:=ae hit;have IA:=ae (mZ _ _ _ _ _ hit);have hcp:wr.cell? ⟨pb,po,none⟩=some (.slice A k c):=(hp.cell po).trans (by simp [hpos]);have hsw:=hp.size;clear hr hp hown hnl hit HR1 lU HP;by_cases hlt:k<n
  ·have Ri:(0:Int)≤(k:Int):=by omega
   have i1:(k:Int)<(n:Int):=by omega
   have rD:Hid ((zs.flatMap Yr.cells).length=k*5):=ae (by rw [dP (s:=5) Yr.cells zs fun _ _=>rfl,IA.out]);have BB:Hid (∀j u,(#[I 0,I 0,I 0,I 0,I 0]:Array Value).toList[j]? =some u→(((wr.alloc (.cells (#[I 0,I 0,I 0,I 0,I 0]:Array Value) 130)).alloc (.cells (#[I 0,I 0,I 0,I 0,I 0]:Array Value) 130)).drew).cell? ((⟨wr.heap.size+1,0,none⟩:Addr).add j)=some u):=ae fun j u hu=>by
    rw [addr_add];have h:=(Row.new (wr.alloc (.cells (#[I 0,I 0,I 0,I 0,I 0]:Array Value) 130)) (#[I 0,I 0,I 0,I 0,I 0]:Array Value) 130).2 j;rw [World.size_alloc] at h;exact h.trans (by simpa using hu)
   have vU:Hid (∀u∈(#[I 0,I 0,I 0,I 0,I 0]:Array Value).toList,u.oneCell'=true):=ae (by
    intro u hu;have h:(#[I 0,I 0,I 0,I 0,I 0]:Array Value).all (·.oneCell')=true:=by kernel_rfl
    rw [Array.all_eq_true_iff_forall_mem] at h;exact h u (by simpa using hu))
   have Uh:pb<wr.heap.size:=by omega
   have hmx:k+1≤maxLen:=by unfold maxLen;omega
   have hby:(k+1)*40≤140737488355328:=by omega
   have N7:Hid (w.heap.size≤(((wr.alloc (.cells (#[I 0,I 0,I 0,I 0,I 0]:Array Value) 130)).alloc (.cells (#[I 0,I 0,I 0,I 0,I 0]:Array Value) 130)).drew).heap.size):=ae (by simp;omega);have dR:Hid ((((wr.alloc (.cells (#[I 0,I 0,I 0,I 0,I 0]:Array Value) 130)).alloc (.cells (#[I 0,I 0,I 0,I 0,I 0]:Array Value) 130)).drew).heap.size=wr.heap.size+2):=ae (by simp);have RH:Hid ((((wr.alloc (.cells (#[I 0,I 0,I 0,I 0,I 0]:Array Value) 130)).alloc (.cells (#[I 0,I 0,I 0,I 0,I 0]:Array Value) 130)).drew).ownsRow w.heap.size 130 5 (.slice A k c) k (zs.flatMap Yr.cells)):=ae ((HO.out.alloc _).alloc _).drew;have yF:Hid (∀b,b<wr.heap.size→(((wr.alloc (.cells (#[I 0,I 0,I 0,I 0,I 0]:Array Value) 130)).alloc (.cells (#[I 0,I 0,I 0,I 0,I 0]:Array Value) 130)).drew).heap[b]? =wr.heap[b]?):=ae fun b hb=>(Below.heap_alloc (wr.alloc (.cells (#[I 0,I 0,I 0,I 0,I 0]:Array Value) 130)) _ b (by simp;omega)).trans (Below.heap_alloc wr _ b hb);go_wp2_with fail
   go_region_law (refine step_append_lies _ (by rfl) _ _ _ (by rfl) w.heap.size 130 i0 (.agg (#[I 0,I 0,I 0,I 0,I 0])) 5 40 Tryz.underlying49 hi hz0 hz1 hz2 (by rfl) (by omega) (.slice A k c) k (zs.flatMap Yr.cells) (by rfl) RH.out ⟨wr.heap.size+1,0,none⟩ 1 1 (#[I 0,I 0,I 0,I 0,I 0]:Array Value).toList (by rfl) (by rfl) BB.out vU.out (by omega) hmx hby N7.out (wr.heap.size+2) dR.out ?_;intro g2 c2 w2 hown2 hgrow2 qE hlt2;have hbw:∀b,b<w.heap.size→w2.heap[b]? =wr.heap[b]? :=fun b hb=>(hgrow2.block b (Nat.lt_of_lt_of_eq (show b<wr.heap.size+2 by omega) dR.out.symm) (eG HO.out b hb)).trans (yF.out b (by omega));have HP2:Hid (w2.heap[pb]? =some (.cells (cs.setIfInBounds po (.slice A k c)) t (0,0))):=ae ((hbw pb hpl).trans lV.out.tgt);have hcp2:w2.cell? ⟨pb,po,none⟩=some (.slice A k c):=(cell_of_row w2 pb po _ _ _ HP2.out).trans (by simp [hpos]);have xw:=frozen_of_row w2 pb po _ _ HP2.out;have nR:=ae hbw;have mJ:=ae hown2;have HG2:=ae hgrow2;have HA2:=ae qE;clear hbw hown2 hgrow2 qE)
   all_goals
    have hs2:wr.heap.size+2≤w2.heap.size:=Nat.le_trans (Nat.le_of_eq dR.out.symm) HG2.out.size;have hlo2:=fM mJ.out;have hP3:bD w rb pb t (cs.setIfInBounds po (.slice (some ⟨g2,0,none⟩) (k+1) c2)) (w2.setCell ⟨pb,po,none⟩ (.slice (some ⟨g2,0,none⟩) (k+1) c2)):=by
     have h:bD w rb pb t (cs.setIfInBounds po (.slice A k c)) w2:=⟨HG2.out.os.trans lV.out.os,HG2.out.tape.trans lV.out.tape,HG2.out.output.trans lV.out.output,by omega,fun b hb h1 h2=>(nR.out b hb).trans (lV.out.block b hb h1 h2),HP2.out⟩;have h:=h.put po (.slice (some ⟨g2,0,none⟩) (k+1) c2)
     rwa [Array.setIfInBounds_setIfInBounds] at h
    have CP:fQ M (w2.setCell ⟨pb,po,none⟩ (.slice (some ⟨g2,0,none⟩) (k+1) c2)) rb R:=(HR.out.of (nR.out rb hrl) fun b hb=>nR.out b (by omega)).put mG hne _;have hO3:(w2.setCell ⟨pb,po,none⟩ (.slice (some ⟨g2,0,none⟩) (k+1) c2)).ownsRow w.heap.size 130 5 (.slice (some ⟨g2,0,none⟩) (k+1) c2) (k+1) (zs.flatMap Yr.cells++(#[I 0,I 0,I 0,I 0,I 0]:Array Value).toList):=dn (p:=⟨pb,po,none⟩) mJ.out (by intro e;injection e with e;simp only at e;omega);have dV:=ae hP3;have HR3:=ae CP;have mV:=ae hO3;clear hP3 CP hO3 HP2 nR mJ HG2 HA2 hcp;go_wp2_with fail;obtain ⟨w3,hw3⟩:∃W,w2.setCell ⟨pb,po,none⟩ (.slice (some ⟨g2,0,none⟩) (k+1) c2)=W:=⟨_,rfl⟩;rw [hw3] at dV HR3 mV ⊢;obtain ⟨cur,q1,q2,q3,q4,q5,q6,q7,_⟩:=ji mV.out;refine (Yc M w3 rb g2 (k*5) 130 cur R HR3.out q1 (by rw [q5];omega) (by omega) (by omega)).mono ?_;intro e w4 xx;rcases xx.get with ⟨hq,hd⟩|⟨x,R4,hq,rfl,hr4,gW⟩
    ·obtain ⟨rfl,D,hD,hT⟩:=hd;exact ⟨rfl,dw.no (HQ.out.trans (oL _ _ _ (nO _ HIT.out hq) _ (by omega))) ⟨rfl,_,(dU.refl cs).set rfl,⟨hT.os.trans dV.out.os,hT.tape.trans dV.out.tape,hT.output.trans dV.out.output,Nat.le_trans dV.out.size hT.size,fun b hb h1 h2=>(hT.block b (dS hb dV.out.size) (by omega) h2).trans (dV.out.block b hb h1 h2),(hT.block pb (dS hpl dV.out.size) (by omega) hne).trans dV.out.tgt⟩⟩⟩
    have hO4:=Be mV.out q1 gW;have hse:lC (zs.flatMap Yr.cells++(#[I 0,I 0,I 0,I 0,I 0]:Array Value).toList) (k*5) (Yr.cells x)=(zs++ [x]).flatMap Yr.cells:=by
     have h:=qc (Yr.cells x) (zs.flatMap Yr.cells) (#[I 0,I 0,I 0,I 0,I 0]:Array Value).toList rfl;rw [rD.out] at h;rw [h,List.flatMap_append,List.flatMap_cons,List.flatMap_nil,List.append_nil]
    rw [hse] at hO4;have FB:bD w rb pb t (cs.setIfInBounds po (.slice (some ⟨g2,0,none⟩) (k+1) c2)) w4:=⟨gW.os.trans dV.out.os,gW.tape.trans dV.out.tape,gW.output.trans dV.out.output,Nat.le_trans dV.out.size gW.size,fun b hb h1 h2=>(gW.block b (dS hb dV.out.size) (by omega) h2).trans (dV.out.block b hb h1 h2),(gW.block pb (dS hpl dV.out.size) (by omega) hne).trans dV.out.tgt⟩;have HR4:=ae hr4;have pV:=ae FB;have uZ:=ae hO4;have Gl:=ae (nN _ HIT.out hq);clear hr4 gW hO4 FB hse q1 q2 q3 q4 q5 q6 q7 hw3 hcp2 xw xx hq;go_wp2_with fail;go_roundw
    case rel=>exact ⟨k+1,some ⟨g2,0,none⟩,c2,zs++ [x],R4,by omega,by go_num,Gl.out,HR4.out,pV.out,uZ.out,fun h=>by omega⟩
    case measure=>simp [intOf];omega
  ·have hkn:k=n:=by omega
   have kY:=ae hkn;have hlt':¬(k:Int)<(n:Int):=by omega
   clear hkn hlt hcp;go_wp2_with fail
   go_end0
   have hit:=HIT.out;rw [kY.out] at hit;have hzl:zs.length=n:=IA.out.trans kY.out;refine dw.yes (HQ.out.trans hit) ?_;rw [hzl];refine ⟨rfl,A,c,HR.out,?_,?_,fun h=>KX.out (kY.out.trans h)⟩
   ·have h:=lV.out
    rwa [kY.out] at h
   ·have h:=HO.out
    rwa [kY.out] at h
end Go.Proofs.YtdibbemgpikgjaaGreat
