/- The texts Ub, in this order. -/
import Derived.Test.YtbaehbbonkljpaaGreatR00
import Derived.Test.YtbaehbbonkljpaaGreatR06
import Derived.Test.YtbaehbbonkljpaaGreatR07
set_option maxRecDepth 10000
set_option maxHeartbeats 8000000
namespace Go.Proofs.YtbaehbbonkljpaaGreat
open Go Go.RowKit
attribute [local go_sem] dI dM dJ dN fJ fK dG dK dH dL jc jd
def RiI (M:Nat) (w:World) (rb pb po:Nat) (t:TypeId) (cs:Array Value) (n:Nat) (B:List UInt8) (i:Value) (wr:World):Prop:=
 ∃(k:Nat) (A:Option Addr) (c:Nat) (zs:List Int) (R:List UInt8),k≤n∧i= .int .i64 k∧dR (pN 1) k B=some (zs,R)∧jH M wr rb R∧bI w rb pb t (cs.setIfInBounds po (.slice A k c)) wr∧
  wr.ownsRow w.heap.size 3 1 (.slice A k c) k (zs.map I)∧(k=0→A=none∧c=0)
theorem MK (M:Nat) (w:World) (rb pb po:Nat) (t:TypeId) (cs:Array Value) (B:List UInt8) (hr:jH M w rb B) (hp:w.heap[pb]? =some (.cells cs t (0,0))) (hpo:cs[po]? =some (.slice none 0 0)) (pq:M≤pb) (hne:pb≠rb):
  Calls Tryz.prog 85 #[.iface 121 (pt rb), .pointer (some ⟨pb,po,none⟩),I 1, .func (.func 86) #[] #[]] w (df (fO 1 (pN 1) B) (dD w rb pb t cs) fun zs R=>Wy M w rb pb po t cs 3 1 (zs.map I) zs.length R):=by
 have hpl:pb<w.heap.size:=(bK.1 hp).1;have hlo:=hr.lo;have hrl:=hr.lt;have hcs:cs.setIfInBounds po (.slice none 0 0)=cs:=by
  apply Array.ext_getElem?;intro i;rw [Array.getElem?_setIfInBounds];split
  ·rename_i e;subst e;split
   ·exact hpo.symm
   ·rename_i e2;rw [Array.getElem?_eq_none (by omega)] at hpo;cases hpo
  ·rfl
 have hc0:w.cell? ⟨pb,po,none⟩=some (.slice none 0 0):=(cell_of_row w pb po _ _ _ hp).trans hpo;have hpos:po<cs.size:=(bK.1 hpo).1;have HC:=ae (nO M w.drew rb 1 0 B hr.drew (by omega));have Nk:Hid (bI w rb pb t cs w):=ae (bI.refl hp);have HP:Hid (bI w rb pb t (cs.setIfInBounds po (.slice none 0 0)) w):=ae (by rw [hcs];exact bI.refl hp);clear hr hp hpo hcs;obtain ⟨i0,hi,hz0,hz1,hz2⟩:=info_parts sN;go_enter Tryz.func85,Tryz.ntmps85;go_wp2_with fail;go_still_tail 9,(by kernel_rfl);go_wp2_with fail;refine HC.out.mono ?_;intro e w1 h;rcases h.get with ⟨hq,hd⟩|⟨v,B1,hq,rfl,hr1,hk1⟩
 ·obtain ⟨rfl,hb⟩:=hd;exact ⟨rfl,df.no (by unfold fO;rw [hq];rfl) ⟨rfl,cs,dP.refl cs,Nk.out.drew.grow hb hpl hne⟩⟩
 obtain ⟨n,rfl,hn⟩:=qL hq;have HQ:Hid (fO 1 (pN 1) B=dR (pN 1) n B1):=ae (by unfold fO;rw [hq];rfl);have HR1:=ae hr1;have nS:=ae (HP.out.drew.qg hk1 hpl hne);clear hr1 hk1 HC hc0 h hq Nk;go_wp2_with fail
 go_loopw [22] (fun i wr=>RiI M w rb pb po t cs n B1 i wr) (fun i _=>n - (intOf i).toNat)
 case atStart=>exact ⟨0,none,0,[],B1,Nat.zero_le _,rfl,rfl,HR1.out,nS.out,World.ownsRow_nil _ _ _ _,fun _=>⟨rfl,rfl⟩⟩
 case round=>
  obtain ⟨k,A,c,zs,R,hk,rfl,hit,hr,hp,hown,hnl⟩:=hrel;have HR:=ae hr;have rf:=ae hp;have HO:=ae hown;have uD:=ae hnl;have HIT:=ae hit;have Gx:=ae (lV _ _ _ _ _ hit);have hcp:wr.cell? ⟨pb,po,none⟩=some (.slice A k c):=(hp.cell po).trans (by simp [hpos]);have hsw:=hp.size;clear hr hp hown hnl hit HR1 nS HP;by_cases hlt:k<n
  ·have i0':(0:Int)≤(k:Int):=by omega
   have i1:(k:Int)<(n:Int):=by omega
   have hbase:w.heap.size≤(wr.alloc (.cells #[I 0] 3)).heap.size:=by simp;omega
   go_wp2_with (at_builtin;refine wpList_append_own_at _ rfl _ _ 47 rfl w.heap.size 3 i0 (.int .i64 0) 1 8 Tryz.underlying47 hi hz0 hz1 hz2 rfl (by decide) _ _ _ rfl (HO.out.alloc _) ⟨wr.heap.size,0,none⟩ 1 1 [I 0] rfl rfl ?c1 ?c2 ?c3 ?c4 ?c5 ?_)
   case c1=>exact cell_one_new _ _ _
   case c2=>intro u hu;simp at hu;subst hu;rfl
   case c3=>unfold maxLen;omega
   case c4=>omega
   case c5=>exact hbase
   intro v' w2 hown2 hgrow2 _ xC;obtain ⟨g2,c2,rfl,hg2⟩:=fM hown2 (Nat.succ_pos _);have hbw:∀b,b<w.heap.size→w2.heap[b]? =wr.heap[b]? :=fun b hb=>by rw [hgrow2.block b (by simp;omega) (dZ HO.out b hb),Below.heap_alloc wr _ b (by omega)]
   have hs2:wr.heap.size≤w2.heap.size:=by have:=hgrow2.size;rw [World.size_alloc] at this;omega
   have hp2:w2.heap[pb]? =some (.cells (cs.setIfInBounds po (.slice A k c)) t (0,0)):=(hbw pb hpl).trans rf.out.tgt;have hcp2:w2.cell? ⟨pb,po,none⟩=some (.slice A k c):=(cell_of_row w2 pb po _ _ _ hp2).trans (by simp [hpos]);have Fg:=frozen_of_row w2 pb po _ _ hp2;have hlo2:=iV hown2;have hP3:bI w rb pb t (cs.setIfInBounds po (.slice (some ⟨g2,0,none⟩) (k+1) c2)) (w2.setCell ⟨pb,po,none⟩ (.slice (some ⟨g2,0,none⟩) (k+1) c2)):=by
    have h:bI w rb pb t (cs.setIfInBounds po (.slice A k c)) w2:=⟨hgrow2.os.trans rf.out.os,hgrow2.tape.trans rf.out.tape,hgrow2.output.trans rf.out.output,Nat.le_trans rf.out.size hs2,fun b hb h1 h2=>(hbw b hb).trans (rf.out.block b hb h1 h2),hp2⟩;have h:=h.put po (.slice (some ⟨g2,0,none⟩) (k+1) c2)
    rwa [Array.setIfInBounds_setIfInBounds] at h
   have NP:jH M (w2.setCell ⟨pb,po,none⟩ (.slice (some ⟨g2,0,none⟩) (k+1) c2)) rb R:=(HR.out.of (hbw rb hrl) fun b hb=>hbw b (by omega)).put pq hne _;have hO3:(w2.setCell ⟨pb,po,none⟩ (.slice (some ⟨g2,0,none⟩) (k+1) c2)).ownsRow w.heap.size 3 1 (.slice (some ⟨g2,0,none⟩) (k+1) c2) (k+1) (zs.map I++ [I 0]):=bY (p:=⟨pb,po,none⟩) hown2 (by intro e;injection e with e;simp only at e;omega);have gu:=ae hP3;have HR3:=ae NP;have qC:=ae hO3;clear hown2 hgrow2 xC hbw hp2 hP3 NP hO3 hg2 hcp;go_wp2_with fail;obtain ⟨w3,hw3⟩:∃W,w2.setCell ⟨pb,po,none⟩ (.slice (some ⟨g2,0,none⟩) (k+1) c2)=W:=⟨_,rfl⟩;rw [hw3] at gu HR3 qC ⊢;obtain ⟨cur,q1,q2,q3,q4,q5,q6,q7,_⟩:=kF qC.out;refine (Jn M w3 rb g2 k 3 cur R HR3.out q1 (by rw [q5];omega) (by omega) (by omega)).mono ?_;intro e w4 wC;rcases wC.get with ⟨hq,hd⟩|⟨x,R4,hq,rfl,hr4,lH⟩
   ·obtain ⟨rfl,D,hD,hT⟩:=hd;exact ⟨rfl,df.no (HQ.out.trans (nN _ _ _ (mF _ HIT.out hq) _ (by omega))) ⟨rfl,_,(dP.refl cs).set rfl,⟨hT.os.trans gu.out.os,hT.tape.trans gu.out.tape,hT.output.trans gu.out.output,Nat.le_trans gu.out.size hT.size,fun b hb h1 h2=>(hT.block b (dW hb gu.out.size) (by omega) h2).trans (gu.out.block b hb h1 h2),(hT.block pb (dW hpl gu.out.size) (by omega) hne).trans gu.out.tgt⟩⟩⟩
   have hO4:=TQ qC.out q1 lH;have hset:(zs.map I++ [I 0]).set k (I x)=(zs++ [x]).map I:=by
    have h:=ints_set zs x
    rwa [Gx.out] at h
   rw [hset] at hO4;have NM:bI w rb pb t (cs.setIfInBounds po (.slice (some ⟨g2,0,none⟩) (k+1) c2)) w4:=⟨lH.os.trans gu.out.os,lH.tape.trans gu.out.tape,lH.output.trans gu.out.output,Nat.le_trans gu.out.size lH.size,fun b hb h1 h2=>(lH.block b (dW hb gu.out.size) (by omega) h2).trans (gu.out.block b hb h1 h2),(lH.block pb (dW hpl gu.out.size) (by omega) hne).trans gu.out.tgt⟩;have HR4:=ae hr4;have rX:=ae NM;have zS:=ae hO4;have EF:=ae (mD _ HIT.out hq);clear hr4 lH hO4 NM hset q1 q2 q3 q4 q5 q6 q7 hw3 hcp2 Fg wC hq;go_wp2_with fail;go_roundw
   case rel=>exact ⟨k+1,some ⟨g2,0,none⟩,c2,zs++ [x],R4,by omega,by go_num,EF.out,HR4.out,rX.out,zS.out,fun h=>by omega⟩
   case measure=>simp [intOf];omega
  ·have hkn:k=n:=by omega
   have nH:=ae hkn;have hlt':¬(k:Int)<(n:Int):=by omega
   clear hkn hlt hcp;go_wp2_with fail
   go_end0
   have hit:=HIT.out;rw [nH.out] at hit;have hzl:zs.length=n:=Gx.out.trans nH.out;refine df.yes (HQ.out.trans hit) ?_;rw [hzl];refine ⟨rfl,A,c,HR.out,?_,?_,fun h=>uD.out (nH.out.trans h)⟩
   ·have h:=rf.out
    rwa [nH.out] at h
   ·have h:=HO.out
    rwa [nH.out] at h
def RiL (M:Nat) (w:World) (rb pb po:Nat) (t:TypeId) (cs:Array Value) (n:Nat) (B:List UInt8) (i:Value) (wr:World):Prop:=
 ∃(k:Nat) (A:Option Addr) (c:Nat) (zs:List Lr) (R:List UInt8),k≤n∧i= .int .i64 k∧dR VD k B=some (zs,R)∧jH M wr rb R∧bI w rb pb t (cs.setIfInBounds po (.slice A k c)) wr∧
  wr.ownsRow w.heap.size 131 3 (.slice A k c) k (zs.flatMap Lr.cells)∧(k=0→A=none∧c=0)
theorem Jk (M:Nat) (w:World) (rb pb po:Nat) (t:TypeId) (cs:Array Value) (B:List UInt8) (hr:jH M w rb B) (hp:w.heap[pb]? =some (.cells cs t (0,0))) (hpo:cs[po]? =some (.slice none 0 0)) (pq:M≤pb) (hne:pb≠rb):
  Calls Tryz.prog 87 #[.iface 121 (pt rb), .pointer (some ⟨pb,po,none⟩),I 1, .func (.func 88) #[] #[]] w (df (fO 1 VD B) (dD w rb pb t cs) fun zs R=>Wy M w rb pb po t cs 131 3 (zs.flatMap Lr.cells) zs.length R):=by
 have hpl:pb<w.heap.size:=(bK.1 hp).1;have hlo:=hr.lo;have hrl:=hr.lt;have hcs:cs.setIfInBounds po (.slice none 0 0)=cs:=by
  apply Array.ext_getElem?;intro i;rw [Array.getElem?_setIfInBounds];split
  ·rename_i e;subst e;split
   ·exact hpo.symm
   ·rename_i e2;rw [Array.getElem?_eq_none (by omega)] at hpo;cases hpo
  ·rfl
 have hc0:w.cell? ⟨pb,po,none⟩=some (.slice none 0 0):=(cell_of_row w pb po _ _ _ hp).trans hpo;have hpos:po<cs.size:=(bK.1 hpo).1;have HC:=ae (nO M w.drew rb 1 0 B hr.drew (by omega));have Nk:Hid (bI w rb pb t cs w):=ae (bI.refl hp);have HP:Hid (bI w rb pb t (cs.setIfInBounds po (.slice none 0 0)) w):=ae (by rw [hcs];exact bI.refl hp);clear hr hp hpo hcs;obtain ⟨i0,hi,hz0,hz1,hz2⟩:=info_parts AO;go_enter Tryz.func87,Tryz.ntmps87;go_wp2_with fail;go_still_tail 9,(by kernel_rfl);go_wp2_with fail;refine HC.out.mono ?_;intro e w1 h;rcases h.get with ⟨hq,hd⟩|⟨v,B1,hq,rfl,hr1,hk1⟩
 ·obtain ⟨rfl,hb⟩:=hd;exact ⟨rfl,df.no (by unfold fO;rw [hq];rfl) ⟨rfl,cs,dP.refl cs,Nk.out.drew.grow hb hpl hne⟩⟩
 obtain ⟨n,rfl,hn⟩:=qL hq;have HQ:Hid (fO 1 VD B=dR VD n B1):=ae (by unfold fO;rw [hq];rfl);have HR1:=ae hr1;have nS:=ae (HP.out.drew.qg hk1 hpl hne);clear hr1 hk1 HC hc0 h hq Nk;go_wp2_with fail
 go_loopw [22] (fun i wr=>RiL M w rb pb po t cs n B1 i wr) (fun i _=>n - (intOf i).toNat)
 case atStart=>exact ⟨0,none,0,[],B1,Nat.zero_le _,rfl,rfl,HR1.out,nS.out,World.ownsRow_nil _ _ _ _,fun _=>⟨rfl,rfl⟩⟩
 case round=>
  obtain ⟨k,A,c,zs,R,hk,rfl,hit,hr,hp,hown,hnl⟩:=hrel;have HR:=ae hr;have rf:=ae hp;have HO:=ae hown;have uD:=ae hnl;have HIT:=ae hit;have Gx:=ae (lV _ _ _ _ _ hit);have hcp:wr.cell? ⟨pb,po,none⟩=some (.slice A k c):=(hp.cell po).trans (by simp [hpos]);have hsw:=hp.size;clear hr hp hown hnl hit HR1 nS HP;by_cases hlt:k<n
  ·have i0':(0:Int)≤(k:Int):=by omega
   have i1:(k:Int)<(n:Int):=by omega
   have qA:Hid ((zs.flatMap Lr.cells).length=k*3):=ae (by rw [cu (s:=3) Lr.cells zs fun _ _=>rfl,Gx.out]);have uC:Hid (∀j u,(#[I 0,I 0, .bool false]:Array Value).toList[j]? =some u→(((wr.alloc (.cells (#[I 0,I 0, .bool false]:Array Value) 131)).alloc (.cells (#[I 0,I 0, .bool false]:Array Value) 131)).drew).cell? ((⟨wr.heap.size+1,0,none⟩:Addr).add j)=some u):=ae fun j u hu=>by
    rw [addr_add];have h:=(Row.new (wr.alloc (.cells (#[I 0,I 0, .bool false]:Array Value) 131)) (#[I 0,I 0, .bool false]:Array Value) 131).2 j;rw [World.size_alloc] at h;exact h.trans (by simpa using hu)
   have rW:Hid (∀u∈(#[I 0,I 0, .bool false]:Array Value).toList,u.oneCell'=true):=ae (by
    intro u hu;have h:(#[I 0,I 0, .bool false]:Array Value).all (·.oneCell')=true:=by kernel_rfl
    rw [Array.all_eq_true_iff_forall_mem] at h;exact h u (by simpa using hu))
   have hplw:pb<wr.heap.size:=by omega
   have hmx:k+1≤maxLen:=by unfold maxLen;omega
   have hby:(k+1)*24≤140737488355328:=by omega
   have Vj:Hid (w.heap.size≤(((wr.alloc (.cells (#[I 0,I 0, .bool false]:Array Value) 131)).alloc (.cells (#[I 0,I 0, .bool false]:Array Value) 131)).drew).heap.size):=ae (by simp;omega);have fG:Hid ((((wr.alloc (.cells (#[I 0,I 0, .bool false]:Array Value) 131)).alloc (.cells (#[I 0,I 0, .bool false]:Array Value) 131)).drew).heap.size=wr.heap.size+2):=ae (by simp);have HOO:Hid ((((wr.alloc (.cells (#[I 0,I 0, .bool false]:Array Value) 131)).alloc (.cells (#[I 0,I 0, .bool false]:Array Value) 131)).drew).ownsRow w.heap.size 131 3 (.slice A k c) k (zs.flatMap Lr.cells)):=ae ((HO.out.alloc _).alloc _).drew;have G7:Hid (∀b,b<wr.heap.size→(((wr.alloc (.cells (#[I 0,I 0, .bool false]:Array Value) 131)).alloc (.cells (#[I 0,I 0, .bool false]:Array Value) 131)).drew).heap[b]? =wr.heap[b]?):=ae fun b hb=>(Below.heap_alloc (wr.alloc (.cells (#[I 0,I 0, .bool false]:Array Value) 131)) _ b (by simp;omega)).trans (Below.heap_alloc wr _ b hb);go_wp2_with fail
   go_region_law (refine step_append_lies _ (by rfl) _ _ _ (by rfl) w.heap.size 131 i0 (.agg (#[I 0,I 0, .bool false])) 3 24 Tryz.underlying48 hi hz0 hz1 hz2 (by rfl) (by omega) (.slice A k c) k (zs.flatMap Lr.cells) (by rfl) HOO.out ⟨wr.heap.size+1,0,none⟩ 1 1 (#[I 0,I 0, .bool false]:Array Value).toList (by rfl) (by rfl) uC.out rW.out (by omega) hmx hby Vj.out (wr.heap.size+2) fG.out ?_;intro g2 c2 w2 hown2 hgrow2 xC hlt2;have hbw:∀b,b<w.heap.size→w2.heap[b]? =wr.heap[b]? :=fun b hb=>(hgrow2.block b (Nat.lt_of_lt_of_eq (show b<wr.heap.size+2 by omega) fG.out.symm) (dZ HO.out b hb)).trans (G7.out b (by omega));have HP2:Hid (w2.heap[pb]? =some (.cells (cs.setIfInBounds po (.slice A k c)) t (0,0))):=ae ((hbw pb hpl).trans rf.out.tgt);have hcp2:w2.cell? ⟨pb,po,none⟩=some (.slice A k c):=(cell_of_row w2 pb po _ _ _ HP2.out).trans (by simp [hpos]);have Fg:=frozen_of_row w2 pb po _ _ HP2.out;have qy:=ae hbw;have rF:=ae hown2;have HG2:=ae hgrow2;have HA2:=ae xC;clear hbw hown2 hgrow2 xC)
   all_goals
    have hs2:wr.heap.size+2≤w2.heap.size:=Nat.le_trans (Nat.le_of_eq fG.out.symm) HG2.out.size;have hlo2:=iV rF.out;have hP3:bI w rb pb t (cs.setIfInBounds po (.slice (some ⟨g2,0,none⟩) (k+1) c2)) (w2.setCell ⟨pb,po,none⟩ (.slice (some ⟨g2,0,none⟩) (k+1) c2)):=by
     have h:bI w rb pb t (cs.setIfInBounds po (.slice A k c)) w2:=⟨HG2.out.os.trans rf.out.os,HG2.out.tape.trans rf.out.tape,HG2.out.output.trans rf.out.output,by omega,fun b hb h1 h2=>(qy.out b hb).trans (rf.out.block b hb h1 h2),HP2.out⟩;have h:=h.put po (.slice (some ⟨g2,0,none⟩) (k+1) c2)
     rwa [Array.setIfInBounds_setIfInBounds] at h
    have NP:jH M (w2.setCell ⟨pb,po,none⟩ (.slice (some ⟨g2,0,none⟩) (k+1) c2)) rb R:=(HR.out.of (qy.out rb hrl) fun b hb=>qy.out b (by omega)).put pq hne _;have hO3:(w2.setCell ⟨pb,po,none⟩ (.slice (some ⟨g2,0,none⟩) (k+1) c2)).ownsRow w.heap.size 131 3 (.slice (some ⟨g2,0,none⟩) (k+1) c2) (k+1) (zs.flatMap Lr.cells++(#[I 0,I 0, .bool false]:Array Value).toList):=bY (p:=⟨pb,po,none⟩) rF.out (by intro e;injection e with e;simp only at e;omega);have gu:=ae hP3;have HR3:=ae NP;have qC:=ae hO3;clear hP3 NP hO3 HP2 qy rF HG2 HA2 hcp;go_wp2_with fail;obtain ⟨w3,hw3⟩:∃W,w2.setCell ⟨pb,po,none⟩ (.slice (some ⟨g2,0,none⟩) (k+1) c2)=W:=⟨_,rfl⟩;rw [hw3] at gu HR3 qC ⊢;obtain ⟨cur,q1,q2,q3,q4,q5,q6,q7,_⟩:=kF qC.out;have hbz:cur[k*3+2]? =some (.bool false):=by
     have h:(cur.toList.take ((k+1)*3))[k*3+2]? =(zs.flatMap Lr.cells++(#[I 0,I 0, .bool false]:Array Value).toList)[k*3+2]? :=by rw [q6]
     rw [List.getElem?_take_of_lt (by omega),List.getElem?_append_right (by rw [qA.out];omega),qA.out,show k*3+2 - k*3=2 by omega] at h;simpa using h
    refine (X6 M w3 rb g2 (k*3) 131 cur R HR3.out q1 (by rw [q5];omega) hbz (by omega) (by omega)).mono ?_;intro e w4 wC;rcases wC.get with ⟨hq,hd⟩|⟨x,R4,hq,rfl,hr4,lH⟩
    ·obtain ⟨rfl,D,hD,hT⟩:=hd;exact ⟨rfl,df.no (HQ.out.trans (nN _ _ _ (mF _ HIT.out hq) _ (by omega))) ⟨rfl,_,(dP.refl cs).set rfl,⟨hT.os.trans gu.out.os,hT.tape.trans gu.out.tape,hT.output.trans gu.out.output,Nat.le_trans gu.out.size hT.size,fun b hb h1 h2=>(hT.block b (dW hb gu.out.size) (by omega) h2).trans (gu.out.block b hb h1 h2),(hT.block pb (dW hpl gu.out.size) (by omega) hne).trans gu.out.tgt⟩⟩⟩
    have hO4:=zF qC.out q1 lH;have hse:kG (zs.flatMap Lr.cells++(#[I 0,I 0, .bool false]:Array Value).toList) (k*3) (Lr.cells x)=(zs++ [x]).flatMap Lr.cells:=by
     have h:=oP (Lr.cells x) (zs.flatMap Lr.cells) (#[I 0,I 0, .bool false]:Array Value).toList rfl;rw [qA.out] at h;rw [h,List.flatMap_append,List.flatMap_cons,List.flatMap_nil,List.append_nil]
    rw [hse] at hO4;have NM:bI w rb pb t (cs.setIfInBounds po (.slice (some ⟨g2,0,none⟩) (k+1) c2)) w4:=⟨lH.os.trans gu.out.os,lH.tape.trans gu.out.tape,lH.output.trans gu.out.output,Nat.le_trans gu.out.size lH.size,fun b hb h1 h2=>(lH.block b (dW hb gu.out.size) (by omega) h2).trans (gu.out.block b hb h1 h2),(lH.block pb (dW hpl gu.out.size) (by omega) hne).trans gu.out.tgt⟩;have HR4:=ae hr4;have rX:=ae NM;have zS:=ae hO4;have EF:=ae (mD _ HIT.out hq);clear hr4 lH hO4 NM hse q1 q2 q3 q4 q5 q6 q7 hw3 hcp2 Fg wC hq;go_wp2_with fail;go_roundw
    case rel=>exact ⟨k+1,some ⟨g2,0,none⟩,c2,zs++ [x],R4,by omega,by go_num,EF.out,HR4.out,rX.out,zS.out,fun h=>by omega⟩
    case measure=>simp [intOf];omega
  ·have hkn:k=n:=by omega
   have nH:=ae hkn;have hlt':¬(k:Int)<(n:Int):=by omega
   clear hkn hlt hcp;go_wp2_with fail
   go_end0
   have hit:=HIT.out;rw [nH.out] at hit;have hzl:zs.length=n:=Gx.out.trans nH.out;refine df.yes (HQ.out.trans hit) ?_;rw [hzl];refine ⟨rfl,A,c,HR.out,?_,?_,fun h=>uD.out (nH.out.trans h)⟩
   ·have h:=rf.out
    rwa [nH.out] at h
   ·have h:=HO.out
    rwa [nH.out] at h
def RiT (M:Nat) (w:World) (rb pb po:Nat) (t:TypeId) (cs:Array Value) (n:Nat) (B:List UInt8) (i:Value) (wr:World):Prop:=
 ∃(k:Nat) (A:Option Addr) (c:Nat) (zs:List Tr) (R:List UInt8),k≤n∧i= .int .i64 k∧dR LQ k B=some (zs,R)∧jH M wr rb R∧bI w rb pb t (cs.setIfInBounds po (.slice A k c)) wr∧
  wr.ownsRow w.heap.size 105 2 (.slice A k c) k (zs.flatMap Tr.cells)∧(k=0→A=none∧c=0)
theorem FZ (M:Nat) (w:World) (rb pb po:Nat) (t:TypeId) (cs:Array Value) (B:List UInt8) (hr:jH M w rb B) (hp:w.heap[pb]? =some (.cells cs t (0,0))) (hpo:cs[po]? =some (.slice none 0 0)) (pq:M≤pb) (hne:pb≠rb):
  Calls Tryz.prog 69 #[.iface 121 (pt rb), .pointer (some ⟨pb,po,none⟩),I 2, .func (.func 70) #[] #[]] w (df (fO 2 LQ B) (dD w rb pb t cs) fun zs R=>Wy M w rb pb po t cs 105 2 (zs.flatMap Tr.cells) zs.length R):=by
 have hpl:pb<w.heap.size:=(bK.1 hp).1;have hlo:=hr.lo;have hrl:=hr.lt;have hcs:cs.setIfInBounds po (.slice none 0 0)=cs:=by
  apply Array.ext_getElem?;intro i;rw [Array.getElem?_setIfInBounds];split
  ·rename_i e;subst e;split
   ·exact hpo.symm
   ·rename_i e2;rw [Array.getElem?_eq_none (by omega)] at hpo;cases hpo
  ·rfl
 have hc0:w.cell? ⟨pb,po,none⟩=some (.slice none 0 0):=(cell_of_row w pb po _ _ _ hp).trans hpo;have hpos:po<cs.size:=(bK.1 hpo).1;have HC:=ae (nO M w.drew rb 2 0 B hr.drew (by omega));have Nk:Hid (bI w rb pb t cs w):=ae (bI.refl hp);have HP:Hid (bI w rb pb t (cs.setIfInBounds po (.slice none 0 0)) w):=ae (by rw [hcs];exact bI.refl hp);clear hr hp hpo hcs;obtain ⟨i0,hi,hz0,hz1,hz2⟩:=info_parts uk;go_enter Tryz.func69,Tryz.ntmps69;go_wp2_with fail;go_still_tail 9,(by kernel_rfl);go_wp2_with fail;refine HC.out.mono ?_;intro e w1 h;rcases h.get with ⟨hq,hd⟩|⟨v,B1,hq,rfl,hr1,hk1⟩
 ·obtain ⟨rfl,hb⟩:=hd;exact ⟨rfl,df.no (by unfold fO;rw [hq];rfl) ⟨rfl,cs,dP.refl cs,Nk.out.drew.grow hb hpl hne⟩⟩
 obtain ⟨n,rfl,hn⟩:=XG hq;have HQ:Hid (fO 2 LQ B=dR LQ n B1):=ae (by unfold fO;rw [hq];rfl);have HR1:=ae hr1;have nS:=ae (HP.out.drew.qg hk1 hpl hne);clear hr1 hk1 HC hc0 h hq Nk;go_wp2_with fail
 go_loopw [22] (fun i wr=>RiT M w rb pb po t cs n B1 i wr) (fun i _=>n - (intOf i).toNat)
 case atStart=>exact ⟨0,none,0,[],B1,Nat.zero_le _,rfl,rfl,HR1.out,nS.out,World.ownsRow_nil _ _ _ _,fun _=>⟨rfl,rfl⟩⟩
 case round=>
  obtain ⟨k,A,c,zs,R,hk,rfl,hit,hr,hp,hown,hnl⟩:=hrel;have HR:=ae hr;have rf:=ae hp;have HO:=ae hown;have uD:=ae hnl;have HIT:=ae hit;have Gx:=ae (lV _ _ _ _ _ hit);have hcp:wr.cell? ⟨pb,po,none⟩=some (.slice A k c):=(hp.cell po).trans (by simp [hpos]);have hsw:=hp.size;clear hr hp hown hnl hit HR1 nS HP;by_cases hlt:k<n
  ·have i0':(0:Int)≤(k:Int):=by omega
   have i1:(k:Int)<(n:Int):=by omega
   have qA:Hid ((zs.flatMap Tr.cells).length=k*2):=ae (by rw [cu (s:=2) Tr.cells zs fun _ _=>rfl,Gx.out]);have uC:Hid (∀j u,(#[I 0,I 0]:Array Value).toList[j]? =some u→(((wr.alloc (.cells (#[I 0,I 0]:Array Value) 105)).alloc (.cells (#[I 0,I 0]:Array Value) 105)).drew).cell? ((⟨wr.heap.size+1,0,none⟩:Addr).add j)=some u):=ae fun j u hu=>by
    rw [addr_add];have h:=(Row.new (wr.alloc (.cells (#[I 0,I 0]:Array Value) 105)) (#[I 0,I 0]:Array Value) 105).2 j;rw [World.size_alloc] at h;exact h.trans (by simpa using hu)
   have rW:Hid (∀u∈(#[I 0,I 0]:Array Value).toList,u.oneCell'=true):=ae (by
    intro u hu;have h:(#[I 0,I 0]:Array Value).all (·.oneCell')=true:=by kernel_rfl
    rw [Array.all_eq_true_iff_forall_mem] at h;exact h u (by simpa using hu))
   have hplw:pb<wr.heap.size:=by omega
   have hmx:k+1≤maxLen:=by unfold maxLen;omega
   have hby:(k+1)*16≤140737488355328:=by omega
   have Vj:Hid (w.heap.size≤(((wr.alloc (.cells (#[I 0,I 0]:Array Value) 105)).alloc (.cells (#[I 0,I 0]:Array Value) 105)).drew).heap.size):=ae (by simp;omega);have fG:Hid ((((wr.alloc (.cells (#[I 0,I 0]:Array Value) 105)).alloc (.cells (#[I 0,I 0]:Array Value) 105)).drew).heap.size=wr.heap.size+2):=ae (by simp);have HOO:Hid ((((wr.alloc (.cells (#[I 0,I 0]:Array Value) 105)).alloc (.cells (#[I 0,I 0]:Array Value) 105)).drew).ownsRow w.heap.size 105 2 (.slice A k c) k (zs.flatMap Tr.cells)):=ae ((HO.out.alloc _).alloc _).drew;have G7:Hid (∀b,b<wr.heap.size→(((wr.alloc (.cells (#[I 0,I 0]:Array Value) 105)).alloc (.cells (#[I 0,I 0]:Array Value) 105)).drew).heap[b]? =wr.heap[b]?):=ae fun b hb=>(Below.heap_alloc (wr.alloc (.cells (#[I 0,I 0]:Array Value) 105)) _ b (by simp;omega)).trans (Below.heap_alloc wr _ b hb);go_wp2_with fail
   go_region_law (refine step_append_lies _ (by rfl) _ _ _ (by rfl) w.heap.size 105 i0 (.agg (#[I 0,I 0])) 2 16 Tryz.underlying51 hi hz0 hz1 hz2 (by rfl) (by omega) (.slice A k c) k (zs.flatMap Tr.cells) (by rfl) HOO.out ⟨wr.heap.size+1,0,none⟩ 1 1 (#[I 0,I 0]:Array Value).toList (by rfl) (by rfl) uC.out rW.out (by omega) hmx hby Vj.out (wr.heap.size+2) fG.out ?_;intro g2 c2 w2 hown2 hgrow2 xC hlt2;have hbw:∀b,b<w.heap.size→w2.heap[b]? =wr.heap[b]? :=fun b hb=>(hgrow2.block b (Nat.lt_of_lt_of_eq (show b<wr.heap.size+2 by omega) fG.out.symm) (dZ HO.out b hb)).trans (G7.out b (by omega));have HP2:Hid (w2.heap[pb]? =some (.cells (cs.setIfInBounds po (.slice A k c)) t (0,0))):=ae ((hbw pb hpl).trans rf.out.tgt);have hcp2:w2.cell? ⟨pb,po,none⟩=some (.slice A k c):=(cell_of_row w2 pb po _ _ _ HP2.out).trans (by simp [hpos]);have Fg:=frozen_of_row w2 pb po _ _ HP2.out;have qy:=ae hbw;have rF:=ae hown2;have HG2:=ae hgrow2;have HA2:=ae xC;clear hbw hown2 hgrow2 xC)
   all_goals
    have hs2:wr.heap.size+2≤w2.heap.size:=Nat.le_trans (Nat.le_of_eq fG.out.symm) HG2.out.size;have hlo2:=iV rF.out;have hP3:bI w rb pb t (cs.setIfInBounds po (.slice (some ⟨g2,0,none⟩) (k+1) c2)) (w2.setCell ⟨pb,po,none⟩ (.slice (some ⟨g2,0,none⟩) (k+1) c2)):=by
     have h:bI w rb pb t (cs.setIfInBounds po (.slice A k c)) w2:=⟨HG2.out.os.trans rf.out.os,HG2.out.tape.trans rf.out.tape,HG2.out.output.trans rf.out.output,by omega,fun b hb h1 h2=>(qy.out b hb).trans (rf.out.block b hb h1 h2),HP2.out⟩;have h:=h.put po (.slice (some ⟨g2,0,none⟩) (k+1) c2)
     rwa [Array.setIfInBounds_setIfInBounds] at h
    have NP:jH M (w2.setCell ⟨pb,po,none⟩ (.slice (some ⟨g2,0,none⟩) (k+1) c2)) rb R:=(HR.out.of (qy.out rb hrl) fun b hb=>qy.out b (by omega)).put pq hne _;have hO3:(w2.setCell ⟨pb,po,none⟩ (.slice (some ⟨g2,0,none⟩) (k+1) c2)).ownsRow w.heap.size 105 2 (.slice (some ⟨g2,0,none⟩) (k+1) c2) (k+1) (zs.flatMap Tr.cells++(#[I 0,I 0]:Array Value).toList):=bY (p:=⟨pb,po,none⟩) rF.out (by intro e;injection e with e;simp only at e;omega);have gu:=ae hP3;have HR3:=ae NP;have qC:=ae hO3;clear hP3 NP hO3 HP2 qy rF HG2 HA2 hcp;go_wp2_with fail;obtain ⟨w3,hw3⟩:∃W,w2.setCell ⟨pb,po,none⟩ (.slice (some ⟨g2,0,none⟩) (k+1) c2)=W:=⟨_,rfl⟩;rw [hw3] at gu HR3 qC ⊢;obtain ⟨cur,q1,q2,q3,q4,q5,q6,q7,_⟩:=kF qC.out;refine (UA M w3 rb g2 (k*2) 105 cur R HR3.out q1 (by rw [q5];omega) (by omega) (by omega)).mono ?_;intro e w4 wC;rcases wC.get with ⟨hq,hd⟩|⟨x,R4,hq,rfl,hr4,lH⟩
    ·obtain ⟨rfl,D,hD,hT⟩:=hd;exact ⟨rfl,df.no (HQ.out.trans (nN _ _ _ (mF _ HIT.out hq) _ (by omega))) ⟨rfl,_,(dP.refl cs).set rfl,⟨hT.os.trans gu.out.os,hT.tape.trans gu.out.tape,hT.output.trans gu.out.output,Nat.le_trans gu.out.size hT.size,fun b hb h1 h2=>(hT.block b (dW hb gu.out.size) (by omega) h2).trans (gu.out.block b hb h1 h2),(hT.block pb (dW hpl gu.out.size) (by omega) hne).trans gu.out.tgt⟩⟩⟩
    have hO4:=zF qC.out q1 lH;have hse:kG (zs.flatMap Tr.cells++(#[I 0,I 0]:Array Value).toList) (k*2) (Tr.cells x)=(zs++ [x]).flatMap Tr.cells:=by
     have h:=oP (Tr.cells x) (zs.flatMap Tr.cells) (#[I 0,I 0]:Array Value).toList rfl;rw [qA.out] at h;rw [h,List.flatMap_append,List.flatMap_cons,List.flatMap_nil,List.append_nil]
    rw [hse] at hO4;have NM:bI w rb pb t (cs.setIfInBounds po (.slice (some ⟨g2,0,none⟩) (k+1) c2)) w4:=⟨lH.os.trans gu.out.os,lH.tape.trans gu.out.tape,lH.output.trans gu.out.output,Nat.le_trans gu.out.size lH.size,fun b hb h1 h2=>(lH.block b (dW hb gu.out.size) (by omega) h2).trans (gu.out.block b hb h1 h2),(lH.block pb (dW hpl gu.out.size) (by omega) hne).trans gu.out.tgt⟩;have HR4:=ae hr4;have rX:=ae NM;have zS:=ae hO4;have EF:=ae (mD _ HIT.out hq);clear hr4 lH hO4 NM hse q1 q2 q3 q4 q5 q6 q7 hw3 hcp2 Fg wC hq;go_wp2_with fail;go_roundw
    case rel=>exact ⟨k+1,some ⟨g2,0,none⟩,c2,zs++ [x],R4,by omega,by go_num,EF.out,HR4.out,rX.out,zS.out,fun h=>by omega⟩
    case measure=>simp [intOf];omega
  ·have hkn:k=n:=by omega
   have nH:=ae hkn;have hlt':¬(k:Int)<(n:Int):=by omega
   clear hkn hlt hcp;go_wp2_with fail
   go_end0
   have hit:=HIT.out;rw [nH.out] at hit;have hzl:zs.length=n:=Gx.out.trans nH.out;refine df.yes (HQ.out.trans hit) ?_;rw [hzl];refine ⟨rfl,A,c,HR.out,?_,?_,fun h=>uD.out (nH.out.trans h)⟩
   ·have h:=rf.out
    rwa [nH.out] at h
   ·have h:=HO.out
    rwa [nH.out] at h
def RiY (M:Nat) (w:World) (rb pb po:Nat) (t:TypeId) (cs:Array Value) (n:Nat) (B:List UInt8) (i:Value) (wr:World):Prop:=
 ∃(k:Nat) (A:Option Addr) (c:Nat) (zs:List Yr) (R:List UInt8),k≤n∧i= .int .i64 k∧dR GM k B=some (zs,R)∧jH M wr rb R∧bI w rb pb t (cs.setIfInBounds po (.slice A k c)) wr∧
  wr.ownsRow w.heap.size 107 5 (.slice A k c) k (zs.flatMap Yr.cells)∧(k=0→A=none∧c=0)
theorem Jl (M:Nat) (w:World) (rb pb po:Nat) (t:TypeId) (cs:Array Value) (B:List UInt8) (hr:jH M w rb B) (hp:w.heap[pb]? =some (.cells cs t (0,0))) (hpo:cs[po]? =some (.slice none 0 0)) (pq:M≤pb) (hne:pb≠rb):
  Calls Tryz.prog 71 #[.iface 121 (pt rb), .pointer (some ⟨pb,po,none⟩),I 1, .func (.func 72) #[] #[]] w (df (fO 1 GM B) (dD w rb pb t cs) fun zs R=>Wy M w rb pb po t cs 107 5 (zs.flatMap Yr.cells) zs.length R):=by
 have hpl:pb<w.heap.size:=(bK.1 hp).1;have hlo:=hr.lo;have hrl:=hr.lt;have hcs:cs.setIfInBounds po (.slice none 0 0)=cs:=by
  apply Array.ext_getElem?;intro i;rw [Array.getElem?_setIfInBounds];split
  ·rename_i e;subst e;split
   ·exact hpo.symm
   ·rename_i e2;rw [Array.getElem?_eq_none (by omega)] at hpo;cases hpo
  ·rfl
 have hc0:w.cell? ⟨pb,po,none⟩=some (.slice none 0 0):=(cell_of_row w pb po _ _ _ hp).trans hpo;have hpos:po<cs.size:=(bK.1 hpo).1;have HC:=ae (nO M w.drew rb 1 0 B hr.drew (by omega));have Nk:Hid (bI w rb pb t cs w):=ae (bI.refl hp);have HP:Hid (bI w rb pb t (cs.setIfInBounds po (.slice none 0 0)) w):=ae (by rw [hcs];exact bI.refl hp);clear hr hp hpo hcs;obtain ⟨i0,hi,hz0,hz1,hz2⟩:=info_parts zB;go_enter Tryz.func71,Tryz.ntmps71;go_wp2_with fail;go_still_tail 9,(by kernel_rfl);go_wp2_with fail;refine HC.out.mono ?_;intro e w1 h;rcases h.get with ⟨hq,hd⟩|⟨v,B1,hq,rfl,hr1,hk1⟩
 ·obtain ⟨rfl,hb⟩:=hd;exact ⟨rfl,df.no (by unfold fO;rw [hq];rfl) ⟨rfl,cs,dP.refl cs,Nk.out.drew.grow hb hpl hne⟩⟩
 obtain ⟨n,rfl,hn⟩:=qL hq;have HQ:Hid (fO 1 GM B=dR GM n B1):=ae (by unfold fO;rw [hq];rfl);have HR1:=ae hr1;have nS:=ae (HP.out.drew.qg hk1 hpl hne);clear hr1 hk1 HC hc0 h hq Nk;go_wp2_with fail
 go_loopw [22] (fun i wr=>RiY M w rb pb po t cs n B1 i wr) (fun i _=>n - (intOf i).toNat)
 case atStart=>exact ⟨0,none,0,[],B1,Nat.zero_le _,rfl,rfl,HR1.out,nS.out,World.ownsRow_nil _ _ _ _,fun _=>⟨rfl,rfl⟩⟩
 case round=>
  obtain ⟨k,A,c,zs,R,hk,rfl,hit,hr,hp,hown,hnl⟩:=hrel;have HR:=ae hr;have rf:=ae hp;have HO:=ae hown;have uD:=ae hnl;have HIT:=ae hit;have Gx:=ae (lV _ _ _ _ _ hit);have hcp:wr.cell? ⟨pb,po,none⟩=some (.slice A k c):=(hp.cell po).trans (by simp [hpos]);have hsw:=hp.size;clear hr hp hown hnl hit HR1 nS HP;by_cases hlt:k<n
  ·have i0':(0:Int)≤(k:Int):=by omega
   have i1:(k:Int)<(n:Int):=by omega
   have qA:Hid ((zs.flatMap Yr.cells).length=k*5):=ae (by rw [cu (s:=5) Yr.cells zs fun _ _=>rfl,Gx.out]);have uC:Hid (∀j u,(#[I 0,I 0,I 0,I 0,I 0]:Array Value).toList[j]? =some u→(((wr.alloc (.cells (#[I 0,I 0,I 0,I 0,I 0]:Array Value) 107)).alloc (.cells (#[I 0,I 0,I 0,I 0,I 0]:Array Value) 107)).drew).cell? ((⟨wr.heap.size+1,0,none⟩:Addr).add j)=some u):=ae fun j u hu=>by
    rw [addr_add];have h:=(Row.new (wr.alloc (.cells (#[I 0,I 0,I 0,I 0,I 0]:Array Value) 107)) (#[I 0,I 0,I 0,I 0,I 0]:Array Value) 107).2 j;rw [World.size_alloc] at h;exact h.trans (by simpa using hu)
   have rW:Hid (∀u∈(#[I 0,I 0,I 0,I 0,I 0]:Array Value).toList,u.oneCell'=true):=ae (by
    intro u hu;have h:(#[I 0,I 0,I 0,I 0,I 0]:Array Value).all (·.oneCell')=true:=by kernel_rfl
    rw [Array.all_eq_true_iff_forall_mem] at h;exact h u (by simpa using hu))
   have hplw:pb<wr.heap.size:=by omega
   have hmx:k+1≤maxLen:=by unfold maxLen;omega
   have hby:(k+1)*40≤140737488355328:=by omega
   have Vj:Hid (w.heap.size≤(((wr.alloc (.cells (#[I 0,I 0,I 0,I 0,I 0]:Array Value) 107)).alloc (.cells (#[I 0,I 0,I 0,I 0,I 0]:Array Value) 107)).drew).heap.size):=ae (by simp;omega);have fG:Hid ((((wr.alloc (.cells (#[I 0,I 0,I 0,I 0,I 0]:Array Value) 107)).alloc (.cells (#[I 0,I 0,I 0,I 0,I 0]:Array Value) 107)).drew).heap.size=wr.heap.size+2):=ae (by simp);have HOO:Hid ((((wr.alloc (.cells (#[I 0,I 0,I 0,I 0,I 0]:Array Value) 107)).alloc (.cells (#[I 0,I 0,I 0,I 0,I 0]:Array Value) 107)).drew).ownsRow w.heap.size 107 5 (.slice A k c) k (zs.flatMap Yr.cells)):=ae ((HO.out.alloc _).alloc _).drew;have G7:Hid (∀b,b<wr.heap.size→(((wr.alloc (.cells (#[I 0,I 0,I 0,I 0,I 0]:Array Value) 107)).alloc (.cells (#[I 0,I 0,I 0,I 0,I 0]:Array Value) 107)).drew).heap[b]? =wr.heap[b]?):=ae fun b hb=>(Below.heap_alloc (wr.alloc (.cells (#[I 0,I 0,I 0,I 0,I 0]:Array Value) 107)) _ b (by simp;omega)).trans (Below.heap_alloc wr _ b hb);go_wp2_with fail
   go_region_law (refine step_append_lies _ (by rfl) _ _ _ (by rfl) w.heap.size 107 i0 (.agg (#[I 0,I 0,I 0,I 0,I 0])) 5 40 Tryz.underlying52 hi hz0 hz1 hz2 (by rfl) (by omega) (.slice A k c) k (zs.flatMap Yr.cells) (by rfl) HOO.out ⟨wr.heap.size+1,0,none⟩ 1 1 (#[I 0,I 0,I 0,I 0,I 0]:Array Value).toList (by rfl) (by rfl) uC.out rW.out (by omega) hmx hby Vj.out (wr.heap.size+2) fG.out ?_;intro g2 c2 w2 hown2 hgrow2 xC hlt2;have hbw:∀b,b<w.heap.size→w2.heap[b]? =wr.heap[b]? :=fun b hb=>(hgrow2.block b (Nat.lt_of_lt_of_eq (show b<wr.heap.size+2 by omega) fG.out.symm) (dZ HO.out b hb)).trans (G7.out b (by omega));have HP2:Hid (w2.heap[pb]? =some (.cells (cs.setIfInBounds po (.slice A k c)) t (0,0))):=ae ((hbw pb hpl).trans rf.out.tgt);have hcp2:w2.cell? ⟨pb,po,none⟩=some (.slice A k c):=(cell_of_row w2 pb po _ _ _ HP2.out).trans (by simp [hpos]);have Fg:=frozen_of_row w2 pb po _ _ HP2.out;have qy:=ae hbw;have rF:=ae hown2;have HG2:=ae hgrow2;have HA2:=ae xC;clear hbw hown2 hgrow2 xC)
   all_goals
    have hs2:wr.heap.size+2≤w2.heap.size:=Nat.le_trans (Nat.le_of_eq fG.out.symm) HG2.out.size;have hlo2:=iV rF.out;have hP3:bI w rb pb t (cs.setIfInBounds po (.slice (some ⟨g2,0,none⟩) (k+1) c2)) (w2.setCell ⟨pb,po,none⟩ (.slice (some ⟨g2,0,none⟩) (k+1) c2)):=by
     have h:bI w rb pb t (cs.setIfInBounds po (.slice A k c)) w2:=⟨HG2.out.os.trans rf.out.os,HG2.out.tape.trans rf.out.tape,HG2.out.output.trans rf.out.output,by omega,fun b hb h1 h2=>(qy.out b hb).trans (rf.out.block b hb h1 h2),HP2.out⟩;have h:=h.put po (.slice (some ⟨g2,0,none⟩) (k+1) c2)
     rwa [Array.setIfInBounds_setIfInBounds] at h
    have NP:jH M (w2.setCell ⟨pb,po,none⟩ (.slice (some ⟨g2,0,none⟩) (k+1) c2)) rb R:=(HR.out.of (qy.out rb hrl) fun b hb=>qy.out b (by omega)).put pq hne _;have hO3:(w2.setCell ⟨pb,po,none⟩ (.slice (some ⟨g2,0,none⟩) (k+1) c2)).ownsRow w.heap.size 107 5 (.slice (some ⟨g2,0,none⟩) (k+1) c2) (k+1) (zs.flatMap Yr.cells++(#[I 0,I 0,I 0,I 0,I 0]:Array Value).toList):=bY (p:=⟨pb,po,none⟩) rF.out (by intro e;injection e with e;simp only at e;omega);have gu:=ae hP3;have HR3:=ae NP;have qC:=ae hO3;clear hP3 NP hO3 HP2 qy rF HG2 HA2 hcp;go_wp2_with fail;obtain ⟨w3,hw3⟩:∃W,w2.setCell ⟨pb,po,none⟩ (.slice (some ⟨g2,0,none⟩) (k+1) c2)=W:=⟨_,rfl⟩;rw [hw3] at gu HR3 qC ⊢;obtain ⟨cur,q1,q2,q3,q4,q5,q6,q7,_⟩:=kF qC.out;refine (X7 M w3 rb g2 (k*5) 107 cur R HR3.out q1 (by rw [q5];omega) (by omega) (by omega)).mono ?_;intro e w4 wC;rcases wC.get with ⟨hq,hd⟩|⟨x,R4,hq,rfl,hr4,lH⟩
    ·obtain ⟨rfl,D,hD,hT⟩:=hd;exact ⟨rfl,df.no (HQ.out.trans (nN _ _ _ (mF _ HIT.out hq) _ (by omega))) ⟨rfl,_,(dP.refl cs).set rfl,⟨hT.os.trans gu.out.os,hT.tape.trans gu.out.tape,hT.output.trans gu.out.output,Nat.le_trans gu.out.size hT.size,fun b hb h1 h2=>(hT.block b (dW hb gu.out.size) (by omega) h2).trans (gu.out.block b hb h1 h2),(hT.block pb (dW hpl gu.out.size) (by omega) hne).trans gu.out.tgt⟩⟩⟩
    have hO4:=zF qC.out q1 lH;have hse:kG (zs.flatMap Yr.cells++(#[I 0,I 0,I 0,I 0,I 0]:Array Value).toList) (k*5) (Yr.cells x)=(zs++ [x]).flatMap Yr.cells:=by
     have h:=oP (Yr.cells x) (zs.flatMap Yr.cells) (#[I 0,I 0,I 0,I 0,I 0]:Array Value).toList rfl;rw [qA.out] at h;rw [h,List.flatMap_append,List.flatMap_cons,List.flatMap_nil,List.append_nil]
    rw [hse] at hO4;have NM:bI w rb pb t (cs.setIfInBounds po (.slice (some ⟨g2,0,none⟩) (k+1) c2)) w4:=⟨lH.os.trans gu.out.os,lH.tape.trans gu.out.tape,lH.output.trans gu.out.output,Nat.le_trans gu.out.size lH.size,fun b hb h1 h2=>(lH.block b (dW hb gu.out.size) (by omega) h2).trans (gu.out.block b hb h1 h2),(lH.block pb (dW hpl gu.out.size) (by omega) hne).trans gu.out.tgt⟩;have HR4:=ae hr4;have rX:=ae NM;have zS:=ae hO4;have EF:=ae (mD _ HIT.out hq);clear hr4 lH hO4 NM hse q1 q2 q3 q4 q5 q6 q7 hw3 hcp2 Fg wC hq;go_wp2_with fail;go_roundw
    case rel=>exact ⟨k+1,some ⟨g2,0,none⟩,c2,zs++ [x],R4,by omega,by go_num,EF.out,HR4.out,rX.out,zS.out,fun h=>by omega⟩
    case measure=>simp [intOf];omega
  ·have hkn:k=n:=by omega
   have nH:=ae hkn;have hlt':¬(k:Int)<(n:Int):=by omega
   clear hkn hlt hcp;go_wp2_with fail
   go_end0
   have hit:=HIT.out;rw [nH.out] at hit;have hzl:zs.length=n:=Gx.out.trans nH.out;refine df.yes (HQ.out.trans hit) ?_;rw [hzl];refine ⟨rfl,A,c,HR.out,?_,?_,fun h=>uD.out (nH.out.trans h)⟩
   ·have h:=rf.out
    rwa [nH.out] at h
   ·have h:=HO.out
    rwa [nH.out] at h
end Go.Proofs.YtbaehbbonkljpaaGreat
