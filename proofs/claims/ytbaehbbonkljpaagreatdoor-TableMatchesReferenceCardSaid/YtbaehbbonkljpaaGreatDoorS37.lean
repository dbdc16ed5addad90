/- The texts Ub, Sc, in this order. -/
import Derived.Test.YtbaehbbonkljpaaGreatDoorS00
import Derived.Test.YtbaehbbonkljpaaGreatDoorS18
import Derived.Test.YtbaehbbonkljpaaGreatDoorS36
set_option maxRecDepth 10000
set_option maxHeartbeats 8000000
namespace Go.Proofs.YtbaehbbonkljpaaGreatDoor
open Go Go.RowKit
attribute [local go_sem] dI dM dJ dN fM fO dG dK dH dL jd je
def RiI (M:Nat) (w:World) (rb pb po:Nat) (t:TypeId) (cs:Array Value) (n:Nat) (B:List UInt8) (i:Value) (wr:World):Prop:=
 ∃(k:Nat) (A:Option Addr) (c:Nat) (zs:List Int) (R:List UInt8),k<=n/\i= .int .i64 k/\gm (pN 1) k B=some (zs,R)/\jO M wr rb R/\bH w rb pb t (cs.setIfInBounds po (.slice A k c)) wr/\
  wr.ownsRow w.heap.size 3 1 (.slice A k c) k (zs.map I)/\(k=0->A=none/\c=0)
theorem NJ (M:Nat) (w:World) (rb pb po:Nat) (t:TypeId) (cs:Array Value) (B:List UInt8) (hr:jO M w rb B) (hp:w.heap[pb]? =some (.cells cs t (0,0))) (hpo:cs[po]? =some (.slice none 0 0)) (qO:M<=pb) (hne:pb≠rb):
  Calls Tryz.prog 103 #[.iface 134 (pt rb), .pointer (some ⟨pb,po,none⟩),I 1, .func (.func 104) #[] #[]] w (cu (jg 1 (pN 1) B) (dD w rb pb t cs) fun zs R=>Xt M w rb pb po t cs 3 1 (zs.map I) zs.length R):=by
 have hpl:pb<w.heap.size:=(bV.1 hp).1;have hlo:=hr.lo;have hrl:=hr.lt;have hcs:cs.setIfInBounds po (.slice none 0 0)=cs:=by
  apply Array.ext_getElem?;intro i;rw [Array.getElem?_setIfInBounds];split
  ·rename_i e;subst e;split
   ·exact hpo.symm
   ·rename_i e2;rw [Array.getElem?_eq_none (by omega)] at hpo;cases hpo
  ·rfl
 have hc0:w.cell? ⟨pb,po,none⟩=some (.slice none 0 0):=(cell_of_row w pb po _ _ _ hp).trans hpo;have hpos:po<cs.size:=(bV.1 hpo).1;have HC:=ae (oL M w.drew rb 1 0 B hr.drew (by omega));have Ob:Hid (bH w rb pb t cs w):=ae (bH.refl hp);have HP:Hid (bH w rb pb t (cs.setIfInBounds po (.slice none 0 0)) w):=ae (by rw [hcs];exact bH.refl hp);clear hr hp hpo hcs;obtain ⟨i0,hi,hz0,hz1,hz2⟩:=info_parts xx;go_enter Tryz.func103,Tryz.ntmps103;go_wp2_with fail;go_still_tail 9,(by kernel_rfl);go_wp2_with fail;refine HC.out.mono ?_;intro e w1 h;rcases h.get with ⟨hq,hd⟩|⟨v,B1,hq,rfl,hr1,hk1⟩
 ·obtain ⟨rfl,hb⟩:=hd;exact ⟨rfl,cu.no (by unfold jg;rw [hq];rfl) ⟨rfl,cs,dO.refl cs,Ob.out.drew.grow hb hpl hne⟩⟩
 obtain ⟨n,rfl,hn⟩:=rQ hq;have HQ:Hid (jg 1 (pN 1) B=gm (pN 1) n B1):=ae (by unfold jg;rw [hq];rfl);have HR1:=ae hr1;have sS:=ae (HP.out.drew.qZ hk1 hpl hne);clear hr1 hk1 HC hc0 h hq Ob;go_wp2_with fail
 go_loopw [22] (fun i wr=>RiI M w rb pb po t cs n B1 i wr) (fun i _=>n - (intOf i).toNat)
 case atStart=>exact ⟨0,none,0,[],B1,Nat.zero_le _,rfl,rfl,HR1.out,sS.out,World.ownsRow_nil _ _ _ _,fun _=>⟨rfl,rfl⟩⟩
 case round=>
  obtain ⟨k,A,c,zs,R,hk,rfl,hit,hr,hp,hown,hnl⟩:=hrel;have HR:=ae hr;have sF:=ae hp;have HO:=ae hown;have yg:=ae hnl;have HIT:=ae hit;have EF:=ae (mZ _ _ _ _ _ hit);have hcp:wr.cell? ⟨pb,po,none⟩=some (.slice A k c):=(hp.cell po).trans (by simp [hpos]);have hsw:=hp.size;clear hr hp hown hnl hit HR1 sS HP;by_cases hlt:k<n
  ·have i0':(0:Int)<=(k:Int):=by omega
   have i1:(k:Int)<(n:Int):=by omega
   have hbase:w.heap.size<=(wr.alloc (.cells #[I 0] 3)).heap.size:=by simp;omega
   go_wp2_with (at_builtin;refine wpList_append_own_at _ rfl _ _ 62 rfl w.heap.size 3 i0 (.int .i64 0) 1 8 Tryz.underlying62 hi hz0 hz1 hz2 rfl (by decide) _ _ _ rfl (HO.out.alloc _) ⟨wr.heap.size,0,none⟩ 1 1 [I 0] rfl rfl ?c1 ?c2 ?c3 ?c4 ?c5 ?_)
   case c1=>exact cell_one_new _ _ _
   case c2=>intro u hu;simp at hu;subst hu;rfl
   case c3=>unfold maxLen;omega
   case c4=>omega
   case c5=>exact hbase
   intro v' w2 hown2 hgrow2 _ yE;obtain ⟨g2,c2,rfl,hg2⟩:=gG hown2 (Nat.succ_pos _);have hbw:∀b,b<w.heap.size->w2.heap[b]? =wr.heap[b]? :=fun b hb=>by rw [hgrow2.block b (by simp;omega) (eG HO.out b hb),Below.heap_alloc wr _ b (by omega)]
   have hs2:wr.heap.size<=w2.heap.size:=by have:=hgrow2.size;rw [World.size_alloc] at this;omega
   have hp2:w2.heap[pb]? =some (.cells (cs.setIfInBounds po (.slice A k c)) t (0,0)):=(hbw pb hpl).trans sF.out.tgt;have hcp2:w2.cell? ⟨pb,po,none⟩=some (.slice A k c):=(cell_of_row w2 pb po _ _ _ hp2).trans (by simp [hpos]);have Gp:=frozen_of_row w2 pb po _ _ hp2;have hlo2:=jC hown2;have hP3:bH w rb pb t (cs.setIfInBounds po (.slice (some ⟨g2,0,none⟩) (k+1) c2)) (w2.setCell ⟨pb,po,none⟩ (.slice (some ⟨g2,0,none⟩) (k+1) c2)):=by
    have h:bH w rb pb t (cs.setIfInBounds po (.slice A k c)) w2:=⟨hgrow2.os.trans sF.out.os,hgrow2.tape.trans sF.out.tape,hgrow2.output.trans sF.out.output,Nat.le_trans sF.out.size hs2,fun b hb h1 h2=>(hbw b hb).trans (sF.out.block b hb h1 h2),hp2⟩;have h:=h.put po (.slice (some ⟨g2,0,none⟩) (k+1) c2)
    rwa [Array.setIfInBounds_setIfInBounds] at h
   have OD:jO M (w2.setCell ⟨pb,po,none⟩ (.slice (some ⟨g2,0,none⟩) (k+1) c2)) rb R:=(HR.out.of (hbw rb hrl) fun b hb=>hbw b (by omega)).put qO hne _;have hO3:(w2.setCell ⟨pb,po,none⟩ (.slice (some ⟨g2,0,none⟩) (k+1) c2)).ownsRow w.heap.size 3 1 (.slice (some ⟨g2,0,none⟩) (k+1) c2) (k+1) (zs.map I++ [I 0]):=eP (p:=⟨pb,po,none⟩) hown2 (by intro e;injection e with e;simp only at e;omega);have gJ:=ae hP3;have HR3:=ae OD;have tX:=ae hO3;clear hown2 hgrow2 yE hbw hp2 hP3 OD hO3 hg2 hcp;go_wp2_with fail;obtain ⟨w3,hw3⟩:∃W,w2.setCell ⟨pb,po,none⟩ (.slice (some ⟨g2,0,none⟩) (k+1) c2)=W:=⟨_,rfl⟩;rw [hw3] at gJ HR3 tX ⊢;obtain ⟨cur,q1,q2,q3,q4,q5,q6,q7,_⟩:=lT tX.out;refine (JV M w3 rb g2 k 3 cur R HR3.out q1 (by rw [q5];omega) (by omega) (by omega)).mono ?_;intro e w4 xu;rcases xu.get with ⟨hq,hd⟩|⟨x,R4,hq,rfl,hr4,mr⟩
   ·obtain ⟨rfl,D,hD,hT⟩:=hd;exact ⟨rfl,cu.no (HQ.out.trans (oK _ _ _ (nR _ HIT.out hq) _ (by omega))) ⟨rfl,_,(dO.refl cs).set rfl,⟨hT.os.trans gJ.out.os,hT.tape.trans gJ.out.tape,hT.output.trans gJ.out.output,Nat.le_trans gJ.out.size hT.size,fun b hb h1 h2=>(hT.block b (dP hb gJ.out.size) (by omega) h2).trans (gJ.out.block b hb h1 h2),(hT.block pb (dP hpl gJ.out.size) (by omega) hne).trans gJ.out.tgt⟩⟩⟩
   have hO4:=UE tX.out q1 mr;have hset:(zs.map I++ [I 0]).set k (I x)=(zs++ [x]).map I:=by
    have h:=ints_set zs x
    rwa [EF.out] at h
   rw [hset] at hO4;have OC:bH w rb pb t (cs.setIfInBounds po (.slice (some ⟨g2,0,none⟩) (k+1) c2)) w4:=⟨mr.os.trans gJ.out.os,mr.tape.trans gJ.out.tape,mr.output.trans gJ.out.output,Nat.le_trans gJ.out.size mr.size,fun b hb h1 h2=>(mr.block b (dP hb gJ.out.size) (by omega) h2).trans (gJ.out.block b hb h1 h2),(mr.block pb (dP hpl gJ.out.size) (by omega) hne).trans gJ.out.tgt⟩;have HR4:=ae hr4;have xk:=ae OC;have Ey:=ae hO4;have FI:=ae (nP _ HIT.out hq);clear hr4 mr hO4 OC hset q1 q2 q3 q4 q5 q6 q7 hw3 hcp2 Gp xu hq;go_wp2_with fail;go_roundw
   case rel=>exact ⟨k+1,some ⟨g2,0,none⟩,c2,zs++ [x],R4,by omega,by go_num,FI.out,HR4.out,xk.out,Ey.out,fun h=>by omega⟩
   case measure=>simp [intOf];omega
  ·have hkn:k=n:=by omega
   have oC:=ae hkn;have hlt':¬(k:Int)<(n:Int):=by omega
   clear hkn hlt hcp;go_wp2_with fail
   go_end0
   have hit:=HIT.out;rw [oC.out] at hit;have hzl:zs.length=n:=EF.out.trans oC.out;refine cu.yes (HQ.out.trans hit) ?_;rw [hzl];refine ⟨rfl,A,c,HR.out,?_,?_,fun h=>yg.out (oC.out.trans h)⟩
   ·have h:=sF.out
    rwa [oC.out] at h
   ·have h:=HO.out
    rwa [oC.out] at h
def RiL (M:Nat) (w:World) (rb pb po:Nat) (t:TypeId) (cs:Array Value) (n:Nat) (B:List UInt8) (i:Value) (wr:World):Prop:=
 ∃(k:Nat) (A:Option Addr) (c:Nat) (zs:List Lr) (R:List UInt8),k<=n/\i= .int .i64 k/\gm Wp k B=some (zs,R)/\jO M wr rb R/\bH w rb pb t (cs.setIfInBounds po (.slice A k c)) wr/\
  wr.ownsRow w.heap.size 118 3 (.slice A k c) k (zs.flatMap Lr.cells)/\(k=0->A=none/\c=0)
theorem JR (M:Nat) (w:World) (rb pb po:Nat) (t:TypeId) (cs:Array Value) (B:List UInt8) (hr:jO M w rb B) (hp:w.heap[pb]? =some (.cells cs t (0,0))) (hpo:cs[po]? =some (.slice none 0 0)) (qO:M<=pb) (hne:pb≠rb):
  Calls Tryz.prog 105 #[.iface 134 (pt rb), .pointer (some ⟨pb,po,none⟩),I 1, .func (.func 106) #[] #[]] w (cu (jg 1 Wp B) (dD w rb pb t cs) fun zs R=>Xt M w rb pb po t cs 118 3 (zs.flatMap Lr.cells) zs.length R):=by
 have hpl:pb<w.heap.size:=(bV.1 hp).1;have hlo:=hr.lo;have hrl:=hr.lt;have hcs:cs.setIfInBounds po (.slice none 0 0)=cs:=by
  apply Array.ext_getElem?;intro i;rw [Array.getElem?_setIfInBounds];split
  ·rename_i e;subst e;split
   ·exact hpo.symm
   ·rename_i e2;rw [Array.getElem?_eq_none (by omega)] at hpo;cases hpo
  ·rfl
 have hc0:w.cell? ⟨pb,po,none⟩=some (.slice none 0 0):=(cell_of_row w pb po _ _ _ hp).trans hpo;have hpos:po<cs.size:=(bV.1 hpo).1;have HC:=ae (oL M w.drew rb 1 0 B hr.drew (by omega));have Ob:Hid (bH w rb pb t cs w):=ae (bH.refl hp);have HP:Hid (bH w rb pb t (cs.setIfInBounds po (.slice none 0 0)) w):=ae (by rw [hcs];exact bH.refl hp);clear hr hp hpo hcs;obtain ⟨i0,hi,hz0,hz1,hz2⟩:=info_parts Jg;go_enter Tryz.func105,Tryz.ntmps105;go_wp2_with fail;go_still_tail 9,(by kernel_rfl);go_wp2_with fail;refine HC.out.mono ?_;intro e w1 h;rcases h.get with ⟨hq,hd⟩|⟨v,B1,hq,rfl,hr1,hk1⟩
 ·obtain ⟨rfl,hb⟩:=hd;exact ⟨rfl,cu.no (by unfold jg;rw [hq];rfl) ⟨rfl,cs,dO.refl cs,Ob.out.drew.grow hb hpl hne⟩⟩
 obtain ⟨n,rfl,hn⟩:=rQ hq;have HQ:Hid (jg 1 Wp B=gm Wp n B1):=ae (by unfold jg;rw [hq];rfl);have HR1:=ae hr1;have sS:=ae (HP.out.drew.qZ hk1 hpl hne);clear hr1 hk1 HC hc0 h hq Ob;go_wp2_with fail
 go_loopw [22] (fun i wr=>RiL M w rb pb po t cs n B1 i wr) (fun i _=>n - (intOf i).toNat)
 case atStart=>exact ⟨0,none,0,[],B1,Nat.zero_le _,rfl,rfl,HR1.out,sS.out,World.ownsRow_nil _ _ _ _,fun _=>⟨rfl,rfl⟩⟩
 case round=>
  obtain ⟨k,A,c,zs,R,hk,rfl,hit,hr,hp,hown,hnl⟩:=hrel;have HR:=ae hr;have sF:=ae hp;have HO:=ae hown;have yg:=ae hnl;have HIT:=ae hit;have EF:=ae (mZ _ _ _ _ _ hit);have hcp:wr.cell? ⟨pb,po,none⟩=some (.slice A k c):=(hp.cell po).trans (by simp [hpos]);have hsw:=hp.size;clear hr hp hown hnl hit HR1 sS HP;by_cases hlt:k<n
  ·have i0':(0:Int)<=(k:Int):=by omega
   have i1:(k:Int)<(n:Int):=by omega
   have nX:Hid ((zs.flatMap Lr.cells).length=k*3):=ae (by rw [bZ (s:=3) Lr.cells zs fun _ _=>rfl,EF.out]);have KQ:Hid (∀j u,(#[I 0,I 0, .bool false]:Array Value).toList[j]? =some u->(((wr.alloc (.cells (#[I 0,I 0, .bool false]:Array Value) 118)).alloc (.cells (#[I 0,I 0, .bool false]:Array Value) 118)).drew).cell? ((⟨wr.heap.size+1,0,none⟩:Addr).add j)=some u):=ae fun j u hu=>by
    rw [addr_add];have h:=(Row.new (wr.alloc (.cells (#[I 0,I 0, .bool false]:Array Value) 118)) (#[I 0,I 0, .bool false]:Array Value) 118).2 j;rw [World.size_alloc] at h;exact h.trans (by simpa using hu)
   have AU:Hid (∀u∈(#[I 0,I 0, .bool false]:Array Value).toList,u.oneCell'=true):=ae (by
    intro u hu;have h:(#[I 0,I 0, .bool false]:Array Value).all (·.oneCell')=true:=by kernel_rfl
    rw [Array.all_eq_true_iff_forall_mem] at h;exact h u (by simpa using hu))
   have hplw:pb<wr.heap.size:=by omega
   have hmx:k+1<=maxLen:=by unfold maxLen;omega
   have hby:(k+1)*24<=140737488355328:=by omega
   have VS:Hid (w.heap.size<=(((wr.alloc (.cells (#[I 0,I 0, .bool false]:Array Value) 118)).alloc (.cells (#[I 0,I 0, .bool false]:Array Value) 118)).drew).heap.size):=ae (by simp;omega);have dU:Hid ((((wr.alloc (.cells (#[I 0,I 0, .bool false]:Array Value) 118)).alloc (.cells (#[I 0,I 0, .bool false]:Array Value) 118)).drew).heap.size=wr.heap.size+2):=ae (by simp);have HOO:Hid ((((wr.alloc (.cells (#[I 0,I 0, .bool false]:Array Value) 118)).alloc (.cells (#[I 0,I 0, .bool false]:Array Value) 118)).drew).ownsRow w.heap.size 118 3 (.slice A k c) k (zs.flatMap Lr.cells)):=ae ((HO.out.alloc _).alloc _).drew;have Ir:Hid (∀b,b<wr.heap.size->(((wr.alloc (.cells (#[I 0,I 0, .bool false]:Array Value) 118)).alloc (.cells (#[I 0,I 0, .bool false]:Array Value) 118)).drew).heap[b]? =wr.heap[b]?):=ae fun b hb=>(Below.heap_alloc (wr.alloc (.cells (#[I 0,I 0, .bool false]:Array Value) 118)) _ b (by simp;omega)).trans (Below.heap_alloc wr _ b hb);go_wp2_with fail
   go_region_law (refine step_append_lies _ (by rfl) _ _ _ (by rfl) w.heap.size 118 i0 (.agg (#[I 0,I 0, .bool false])) 3 24 Tryz.underlying63 hi hz0 hz1 hz2 (by rfl) (by omega) (.slice A k c) k (zs.flatMap Lr.cells) (by rfl) HOO.out ⟨wr.heap.size+1,0,none⟩ 1 1 (#[I 0,I 0, .bool false]:Array Value).toList (by rfl) (by rfl) KQ.out AU.out (by omega) hmx hby VS.out (wr.heap.size+2) dU.out ?_;intro g2 c2 w2 hown2 hgrow2 yE hlt2;have hbw:∀b,b<w.heap.size->w2.heap[b]? =wr.heap[b]? :=fun b hb=>(hgrow2.block b (Nat.lt_of_lt_of_eq (show b<wr.heap.size+2 by omega) dU.out.symm) (eG HO.out b hb)).trans (Ir.out b (by omega));have HP2:Hid (w2.heap[pb]? =some (.cells (cs.setIfInBounds po (.slice A k c)) t (0,0))):=ae ((hbw pb hpl).trans sF.out.tgt);have hcp2:w2.cell? ⟨pb,po,none⟩=some (.slice A k c):=(cell_of_row w2 pb po _ _ _ HP2.out).trans (by simp [hpos]);have Gp:=frozen_of_row w2 pb po _ _ HP2.out;have qh:=ae hbw;have rD:=ae hown2;have HG2:=ae hgrow2;have HA2:=ae yE;clear hbw hown2 hgrow2 yE)
   all_goals
    have hs2:wr.heap.size+2<=w2.heap.size:=Nat.le_trans (Nat.le_of_eq dU.out.symm) HG2.out.size;have hlo2:=jC rD.out;have hP3:bH w rb pb t (cs.setIfInBounds po (.slice (some ⟨g2,0,none⟩) (k+1) c2)) (w2.setCell ⟨pb,po,none⟩ (.slice (some ⟨g2,0,none⟩) (k+1) c2)):=by
     have h:bH w rb pb t (cs.setIfInBounds po (.slice A k c)) w2:=⟨HG2.out.os.trans sF.out.os,HG2.out.tape.trans sF.out.tape,HG2.out.output.trans sF.out.output,by omega,fun b hb h1 h2=>(qh.out b hb).trans (sF.out.block b hb h1 h2),HP2.out⟩;have h:=h.put po (.slice (some ⟨g2,0,none⟩) (k+1) c2)
     rwa [Array.setIfInBounds_setIfInBounds] at h
    have OD:jO M (w2.setCell ⟨pb,po,none⟩ (.slice (some ⟨g2,0,none⟩) (k+1) c2)) rb R:=(HR.out.of (qh.out rb hrl) fun b hb=>qh.out b (by omega)).put qO hne _;have hO3:(w2.setCell ⟨pb,po,none⟩ (.slice (some ⟨g2,0,none⟩) (k+1) c2)).ownsRow w.heap.size 118 3 (.slice (some ⟨g2,0,none⟩) (k+1) c2) (k+1) (zs.flatMap Lr.cells++(#[I 0,I 0, .bool false]:Array Value).toList):=eP (p:=⟨pb,po,none⟩) rD.out (by intro e;injection e with e;simp only at e;omega);have gJ:=ae hP3;have HR3:=ae OD;have tX:=ae hO3;clear hP3 OD hO3 HP2 qh rD HG2 HA2 hcp;go_wp2_with fail;obtain ⟨w3,hw3⟩:∃W,w2.setCell ⟨pb,po,none⟩ (.slice (some ⟨g2,0,none⟩) (k+1) c2)=W:=⟨_,rfl⟩;rw [hw3] at gJ HR3 tX ⊢;obtain ⟨cur,q1,q2,q3,q4,q5,q6,q7,_⟩:=lT tX.out;have hbz:cur[k*3+2]? =some (.bool false):=by
     have h:(cur.toList.take ((k+1)*3))[k*3+2]? =(zs.flatMap Lr.cells++(#[I 0,I 0, .bool false]:Array Value).toList)[k*3+2]? :=by rw [q6]
     rw [List.getElem?_take_of_lt (by omega),List.getElem?_append_right (by rw [nX.out];omega),nX.out,show k*3+2 - k*3=2 by omega] at h;simpa using h
    refine (YN M w3 rb g2 (k*3) 118 cur R HR3.out q1 (by rw [q5];omega) hbz (by omega) (by omega)).mono ?_;intro e w4 xu;rcases xu.get with ⟨hq,hd⟩|⟨x,R4,hq,rfl,hr4,mr⟩
    ·obtain ⟨rfl,D,hD,hT⟩:=hd;exact ⟨rfl,cu.no (HQ.out.trans (oK _ _ _ (nR _ HIT.out hq) _ (by omega))) ⟨rfl,_,(dO.refl cs).set rfl,⟨hT.os.trans gJ.out.os,hT.tape.trans gJ.out.tape,hT.output.trans gJ.out.output,Nat.le_trans gJ.out.size hT.size,fun b hb h1 h2=>(hT.block b (dP hb gJ.out.size) (by omega) h2).trans (gJ.out.block b hb h1 h2),(hT.block pb (dP hpl gJ.out.size) (by omega) hne).trans gJ.out.tgt⟩⟩⟩
    have hO4:=Ak tX.out q1 mr;have hse:kM (zs.flatMap Lr.cells++(#[I 0,I 0, .bool false]:Array Value).toList) (k*3) (Lr.cells x)=(zs++ [x]).flatMap Lr.cells:=by
     have h:=qC (Lr.cells x) (zs.flatMap Lr.cells) (#[I 0,I 0, .bool false]:Array Value).toList rfl;rw [nX.out] at h;rw [h,List.flatMap_append,List.flatMap_cons,List.flatMap_nil,List.append_nil]
    rw [hse] at hO4;have OC:bH w rb pb t (cs.setIfInBounds po (.slice (some ⟨g2,0,none⟩) (k+1) c2)) w4:=⟨mr.os.trans gJ.out.os,mr.tape.trans gJ.out.tape,mr.output.trans gJ.out.output,Nat.le_trans gJ.out.size mr.size,fun b hb h1 h2=>(mr.block b (dP hb gJ.out.size) (by omega) h2).trans (gJ.out.block b hb h1 h2),(mr.block pb (dP hpl gJ.out.size) (by omega) hne).trans gJ.out.tgt⟩;have HR4:=ae hr4;have xk:=ae OC;have Ey:=ae hO4;have FI:=ae (nP _ HIT.out hq);clear hr4 mr hO4 OC hse q1 q2 q3 q4 q5 q6 q7 hw3 hcp2 Gp xu hq;go_wp2_with fail;go_roundw
    case rel=>exact ⟨k+1,some ⟨g2,0,none⟩,c2,zs++ [x],R4,by omega,by go_num,FI.out,HR4.out,xk.out,Ey.out,fun h=>by omega⟩
    case measure=>simp [intOf];omega
  ·have hkn:k=n:=by omega
   have oC:=ae hkn;have hlt':¬(k:Int)<(n:Int):=by omega
   clear hkn hlt hcp;go_wp2_with fail
   go_end0
   have hit:=HIT.out;rw [oC.out] at hit;have hzl:zs.length=n:=EF.out.trans oC.out;refine cu.yes (HQ.out.trans hit) ?_;rw [hzl];refine ⟨rfl,A,c,HR.out,?_,?_,fun h=>yg.out (oC.out.trans h)⟩
   ·have h:=sF.out
    rwa [oC.out] at h
   ·have h:=HO.out
    rwa [oC.out] at h
def RiT (M:Nat) (w:World) (rb pb po:Nat) (t:TypeId) (cs:Array Value) (n:Nat) (B:List UInt8) (i:Value) (wr:World):Prop:=
 ∃(k:Nat) (A:Option Addr) (c:Nat) (zs:List Tr) (R:List UInt8),k<=n/\i= .int .i64 k/\gm Yo k B=some (zs,R)/\jO M wr rb R/\bH w rb pb t (cs.setIfInBounds po (.slice A k c)) wr/\
  wr.ownsRow w.heap.size 108 2 (.slice A k c) k (zs.flatMap Tr.cells)/\(k=0->A=none/\c=0)
theorem G5 (M:Nat) (w:World) (rb pb po:Nat) (t:TypeId) (cs:Array Value) (B:List UInt8) (hr:jO M w rb B) (hp:w.heap[pb]? =some (.cells cs t (0,0))) (hpo:cs[po]? =some (.slice none 0 0)) (qO:M<=pb) (hne:pb≠rb):
  Calls Tryz.prog 84 #[.iface 134 (pt rb), .pointer (some ⟨pb,po,none⟩),I 2, .func (.func 85) #[] #[]] w (cu (jg 2 Yo B) (dD w rb pb t cs) fun zs R=>Xt M w rb pb po t cs 108 2 (zs.flatMap Tr.cells) zs.length R):=by
 have hpl:pb<w.heap.size:=(bV.1 hp).1;have hlo:=hr.lo;have hrl:=hr.lt;have hcs:cs.setIfInBounds po (.slice none 0 0)=cs:=by
  apply Array.ext_getElem?;intro i;rw [Array.getElem?_setIfInBounds];split
  ·rename_i e;subst e;split
   ·exact hpo.symm
   ·rename_i e2;rw [Array.getElem?_eq_none (by omega)] at hpo;cases hpo
  ·rfl
 have hc0:w.cell? ⟨pb,po,none⟩=some (.slice none 0 0):=(cell_of_row w pb po _ _ _ hp).trans hpo;have hpos:po<cs.size:=(bV.1 hpo).1;have HC:=ae (oL M w.drew rb 2 0 B hr.drew (by omega));have Ob:Hid (bH w rb pb t cs w):=ae (bH.refl hp);have HP:Hid (bH w rb pb t (cs.setIfInBounds po (.slice none 0 0)) w):=ae (by rw [hcs];exact bH.refl hp);clear hr hp hpo hcs;obtain ⟨i0,hi,hz0,hz1,hz2⟩:=info_parts xy;go_enter Tryz.func84,Tryz.ntmps84;go_wp2_with fail;go_still_tail 9,(by kernel_rfl);go_wp2_with fail;refine HC.out.mono ?_;intro e w1 h;rcases h.get with ⟨hq,hd⟩|⟨v,B1,hq,rfl,hr1,hk1⟩
 ·obtain ⟨rfl,hb⟩:=hd;exact ⟨rfl,cu.no (by unfold jg;rw [hq];rfl) ⟨rfl,cs,dO.refl cs,Ob.out.drew.grow hb hpl hne⟩⟩
 obtain ⟨n,rfl,hn⟩:=Yn hq;have HQ:Hid (jg 2 Yo B=gm Yo n B1):=ae (by unfold jg;rw [hq];rfl);have HR1:=ae hr1;have sS:=ae (HP.out.drew.qZ hk1 hpl hne);clear hr1 hk1 HC hc0 h hq Ob;go_wp2_with fail
 go_loopw [22] (fun i wr=>RiT M w rb pb po t cs n B1 i wr) (fun i _=>n - (intOf i).toNat)
 case atStart=>exact ⟨0,none,0,[],B1,Nat.zero_le _,rfl,rfl,HR1.out,sS.out,World.ownsRow_nil _ _ _ _,fun _=>⟨rfl,rfl⟩⟩
 case round=>
  obtain ⟨k,A,c,zs,R,hk,rfl,hit,hr,hp,hown,hnl⟩:=hrel;have HR:=ae hr;have sF:=ae hp;have HO:=ae hown;have yg:=ae hnl;have HIT:=ae hit;have EF:=ae (mZ _ _ _ _ _ hit);have hcp:wr.cell? ⟨pb,po,none⟩=some (.slice A k c):=(hp.cell po).trans (by simp [hpos]);have hsw:=hp.size;clear hr hp hown hnl hit HR1 sS HP;by_cases hlt:k<n
  ·have i0':(0:Int)<=(k:Int):=by omega
   have i1:(k:Int)<(n:Int):=by omega
   have nX:Hid ((zs.flatMap Tr.cells).length=k*2):=ae (by rw [bZ (s:=2) Tr.cells zs fun _ _=>rfl,EF.out]);have KQ:Hid (∀j u,(#[I 0,I 0]:Array Value).toList[j]? =some u->(((wr.alloc (.cells (#[I 0,I 0]:Array Value) 108)).alloc (.cells (#[I 0,I 0]:Array Value) 108)).drew).cell? ((⟨wr.heap.size+1,0,none⟩:Addr).add j)=some u):=ae fun j u hu=>by
    rw [addr_add];have h:=(Row.new (wr.alloc (.cells (#[I 0,I 0]:Array Value) 108)) (#[I 0,I 0]:Array Value) 108).2 j;rw [World.size_alloc] at h;exact h.trans (by simpa using hu)
   have AU:Hid (∀u∈(#[I 0,I 0]:Array Value).toList,u.oneCell'=true):=ae (by
    intro u hu;have h:(#[I 0,I 0]:Array Value).all (·.oneCell')=true:=by kernel_rfl
    rw [Array.all_eq_true_iff_forall_mem] at h;exact h u (by simpa using hu))
   have hplw:pb<wr.heap.size:=by omega
   have hmx:k+1<=maxLen:=by unfold maxLen;omega
   have hby:(k+1)*16<=140737488355328:=by omega
   have VS:Hid (w.heap.size<=(((wr.alloc (.cells (#[I 0,I 0]:Array Value) 108)).alloc (.cells (#[I 0,I 0]:Array Value) 108)).drew).heap.size):=ae (by simp;omega);have dU:Hid ((((wr.alloc (.cells (#[I 0,I 0]:Array Value) 108)).alloc (.cells (#[I 0,I 0]:Array Value) 108)).drew).heap.size=wr.heap.size+2):=ae (by simp);have HOO:Hid ((((wr.alloc (.cells (#[I 0,I 0]:Array Value) 108)).alloc (.cells (#[I 0,I 0]:Array Value) 108)).drew).ownsRow w.heap.size 108 2 (.slice A k c) k (zs.flatMap Tr.cells)):=ae ((HO.out.alloc _).alloc _).drew;have Ir:Hid (∀b,b<wr.heap.size->(((wr.alloc (.cells (#[I 0,I 0]:Array Value) 108)).alloc (.cells (#[I 0,I 0]:Array Value) 108)).drew).heap[b]? =wr.heap[b]?):=ae fun b hb=>(Below.heap_alloc (wr.alloc (.cells (#[I 0,I 0]:Array Value) 108)) _ b (by simp;omega)).trans (Below.heap_alloc wr _ b hb);go_wp2_with fail
   go_region_law (refine step_append_lies _ (by rfl) _ _ _ (by rfl) w.heap.size 108 i0 (.agg (#[I 0,I 0])) 2 16 Tryz.underlying66 hi hz0 hz1 hz2 (by rfl) (by omega) (.slice A k c) k (zs.flatMap Tr.cells) (by rfl) HOO.out ⟨wr.heap.size+1,0,none⟩ 1 1 (#[I 0,I 0]:Array Value).toList (by rfl) (by rfl) KQ.out AU.out (by omega) hmx hby VS.out (wr.heap.size+2) dU.out ?_;intro g2 c2 w2 hown2 hgrow2 yE hlt2;have hbw:∀b,b<w.heap.size->w2.heap[b]? =wr.heap[b]? :=fun b hb=>(hgrow2.block b (Nat.lt_of_lt_of_eq (show b<wr.heap.size+2 by omega) dU.out.symm) (eG HO.out b hb)).trans (Ir.out b (by omega));have HP2:Hid (w2.heap[pb]? =some (.cells (cs.setIfInBounds po (.slice A k c)) t (0,0))):=ae ((hbw pb hpl).trans sF.out.tgt);have hcp2:w2.cell? ⟨pb,po,none⟩=some (.slice A k c):=(cell_of_row w2 pb po _ _ _ HP2.out).trans (by simp [hpos]);have Gp:=frozen_of_row w2 pb po _ _ HP2.out;have qh:=ae hbw;have rD:=ae hown2;have HG2:=ae hgrow2;have HA2:=ae yE;clear hbw hown2 hgrow2 yE)
   all_goals
    have hs2:wr.heap.size+2<=w2.heap.size:=Nat.le_trans (Nat.le_of_eq dU.out.symm) HG2.out.size;have hlo2:=jC rD.out;have hP3:bH w rb pb t (cs.setIfInBounds po (.slice (some ⟨g2,0,none⟩) (k+1) c2)) (w2.setCell ⟨pb,po,none⟩ (.slice (some ⟨g2,0,none⟩) (k+1) c2)):=by
     have h:bH w rb pb t (cs.setIfInBounds po (.slice A k c)) w2:=⟨HG2.out.os.trans sF.out.os,HG2.out.tape.trans sF.out.tape,HG2.out.output.trans sF.out.output,by omega,fun b hb h1 h2=>(qh.out b hb).trans (sF.out.block b hb h1 h2),HP2.out⟩;have h:=h.put po (.slice (some ⟨g2,0,none⟩) (k+1) c2)
     rwa [Array.setIfInBounds_setIfInBounds] at h
    have OD:jO M (w2.setCell ⟨pb,po,none⟩ (.slice (some ⟨g2,0,none⟩) (k+1) c2)) rb R:=(HR.out.of (qh.out rb hrl) fun b hb=>qh.out b (by omega)).put qO hne _;have hO3:(w2.setCell ⟨pb,po,none⟩ (.slice (some ⟨g2,0,none⟩) (k+1) c2)).ownsRow w.heap.size 108 2 (.slice (some ⟨g2,0,none⟩) (k+1) c2) (k+1) (zs.flatMap Tr.cells++(#[I 0,I 0]:Array Value).toList):=eP (p:=⟨pb,po,none⟩) rD.out (by intro e;injection e with e;simp only at e;omega);have gJ:=ae hP3;have HR3:=ae OD;have tX:=ae hO3;clear hP3 OD hO3 HP2 qh rD HG2 HA2 hcp;go_wp2_with fail;obtain ⟨w3,hw3⟩:∃W,w2.setCell ⟨pb,po,none⟩ (.slice (some ⟨g2,0,none⟩) (k+1) c2)=W:=⟨_,rfl⟩;rw [hw3] at gJ HR3 tX ⊢;obtain ⟨cur,q1,q2,q3,q4,q5,q6,q7,_⟩:=lT tX.out;refine (U8 M w3 rb g2 (k*2) 108 cur R HR3.out q1 (by rw [q5];omega) (by omega) (by omega)).mono ?_;intro e w4 xu;rcases xu.get with ⟨hq,hd⟩|⟨x,R4,hq,rfl,hr4,mr⟩
    ·obtain ⟨rfl,D,hD,hT⟩:=hd;exact ⟨rfl,cu.no (HQ.out.trans (oK _ _ _ (nR _ HIT.out hq) _ (by omega))) ⟨rfl,_,(dO.refl cs).set rfl,⟨hT.os.trans gJ.out.os,hT.tape.trans gJ.out.tape,hT.output.trans gJ.out.output,Nat.le_trans gJ.out.size hT.size,fun b hb h1 h2=>(hT.block b (dP hb gJ.out.size) (by omega) h2).trans (gJ.out.block b hb h1 h2),(hT.block pb (dP hpl gJ.out.size) (by omega) hne).trans gJ.out.tgt⟩⟩⟩
    have hO4:=Ak tX.out q1 mr;have hse:kM (zs.flatMap Tr.cells++(#[I 0,I 0]:Array Value).toList) (k*2) (Tr.cells x)=(zs++ [x]).flatMap Tr.cells:=by
     have h:=qC (Tr.cells x) (zs.flatMap Tr.cells) (#[I 0,I 0]:Array Value).toList rfl;rw [nX.out] at h;rw [h,List.flatMap_append,List.flatMap_cons,List.flatMap_nil,List.append_nil]
    rw [hse] at hO4;have OC:bH w rb pb t (cs.setIfInBounds po (.slice (some ⟨g2,0,none⟩) (k+1) c2)) w4:=⟨mr.os.trans gJ.out.os,mr.tape.trans gJ.out.tape,mr.output.trans gJ.out.output,Nat.le_trans gJ.out.size mr.size,fun b hb h1 h2=>(mr.block b (dP hb gJ.out.size) (by omega) h2).trans (gJ.out.block b hb h1 h2),(mr.block pb (dP hpl gJ.out.size) (by omega) hne).trans gJ.out.tgt⟩;have HR4:=ae hr4;have xk:=ae OC;have Ey:=ae hO4;have FI:=ae (nP _ HIT.out hq);clear hr4 mr hO4 OC hse q1 q2 q3 q4 q5 q6 q7 hw3 hcp2 Gp xu hq;go_wp2_with fail;go_roundw
    case rel=>exact ⟨k+1,some ⟨g2,0,none⟩,c2,zs++ [x],R4,by omega,by go_num,FI.out,HR4.out,xk.out,Ey.out,fun h=>by omega⟩
    case measure=>simp [intOf];omega
  ·have hkn:k=n:=by omega
   have oC:=ae hkn;have hlt':¬(k:Int)<(n:Int):=by omega
   clear hkn hlt hcp;go_wp2_with fail
   go_end0
   have hit:=HIT.out;rw [oC.out] at hit;have hzl:zs.length=n:=EF.out.trans oC.out;refine cu.yes (HQ.out.trans hit) ?_;rw [hzl];refine ⟨rfl,A,c,HR.out,?_,?_,fun h=>yg.out (oC.out.trans h)⟩
   ·have h:=sF.out
    rwa [oC.out] at h
   ·have h:=HO.out
    rwa [oC.out] at h
def RiY (M:Nat) (w:World) (rb pb po:Nat) (t:TypeId) (cs:Array Value) (n:Nat) (B:List UInt8) (i:Value) (wr:World):Prop:=
 ∃(k:Nat) (A:Option Addr) (c:Nat) (zs:List Yr) (R:List UInt8),k<=n/\i= .int .i64 k/\gm RI k B=some (zs,R)/\jO M wr rb R/\bH w rb pb t (cs.setIfInBounds po (.slice A k c)) wr/\
  wr.ownsRow w.heap.size 110 5 (.slice A k c) k (zs.flatMap Yr.cells)/\(k=0->A=none/\c=0)
theorem JS (M:Nat) (w:World) (rb pb po:Nat) (t:TypeId) (cs:Array Value) (B:List UInt8) (hr:jO M w rb B) (hp:w.heap[pb]? =some (.cells cs t (0,0))) (hpo:cs[po]? =some (.slice none 0 0)) (qO:M<=pb) (hne:pb≠rb):
  Calls Tryz.prog 86 #[.iface 134 (pt rb), .pointer (some ⟨pb,po,none⟩),I 1, .func (.func 87) #[] #[]] w (cu (jg 1 RI B) (dD w rb pb t cs) fun zs R=>Xt M w rb pb po t cs 110 5 (zs.flatMap Yr.cells) zs.length R):=by
 have hpl:pb<w.heap.size:=(bV.1 hp).1;have hlo:=hr.lo;have hrl:=hr.lt;have hcs:cs.setIfInBounds po (.slice none 0 0)=cs:=by
  apply Array.ext_getElem?;intro i;rw [Array.getElem?_setIfInBounds];split
  ·rename_i e;subst e;split
   ·exact hpo.symm
   ·rename_i e2;rw [Array.getElem?_eq_none (by omega)] at hpo;cases hpo
  ·rfl
 have hc0:w.cell? ⟨pb,po,none⟩=some (.slice none 0 0):=(cell_of_row w pb po _ _ _ hp).trans hpo;have hpos:po<cs.size:=(bV.1 hpo).1;have HC:=ae (oL M w.drew rb 1 0 B hr.drew (by omega));have Ob:Hid (bH w rb pb t cs w):=ae (bH.refl hp);have HP:Hid (bH w rb pb t (cs.setIfInBounds po (.slice none 0 0)) w):=ae (by rw [hcs];exact bH.refl hp);clear hr hp hpo hcs;obtain ⟨i0,hi,hz0,hz1,hz2⟩:=info_parts Gu;go_enter Tryz.func86,Tryz.ntmps86;go_wp2_with fail;go_still_tail 9,(by kernel_rfl);go_wp2_with fail;refine HC.out.mono ?_;intro e w1 h;rcases h.get with ⟨hq,hd⟩|⟨v,B1,hq,rfl,hr1,hk1⟩
 ·obtain ⟨rfl,hb⟩:=hd;exact ⟨rfl,cu.no (by unfold jg;rw [hq];rfl) ⟨rfl,cs,dO.refl cs,Ob.out.drew.grow hb hpl hne⟩⟩
 obtain ⟨n,rfl,hn⟩:=rQ hq;have HQ:Hid (jg 1 RI B=gm RI n B1):=ae (by unfold jg;rw [hq];rfl);have HR1:=ae hr1;have sS:=ae (HP.out.drew.qZ hk1 hpl hne);clear hr1 hk1 HC hc0 h hq Ob;go_wp2_with fail
 go_loopw [22] (fun i wr=>RiY M w rb pb po t cs n B1 i wr) (fun i _=>n - (intOf i).toNat)
 case atStart=>exact ⟨0,none,0,[],B1,Nat.zero_le _,rfl,rfl,HR1.out,sS.out,World.ownsRow_nil _ _ _ _,fun _=>⟨rfl,rfl⟩⟩
 case round=>
  obtain ⟨k,A,c,zs,R,hk,rfl,hit,hr,hp,hown,hnl⟩:=hrel;have HR:=ae hr;have sF:=ae hp;have HO:=ae hown;have yg:=ae hnl;have HIT:=ae hit;have EF:=ae (mZ _ _ _ _ _ hit);have hcp:wr.cell? ⟨pb,po,none⟩=some (.slice A k c):=(hp.cell po).trans (by simp [hpos]);have hsw:=hp.size;clear hr hp hown hnl hit HR1 sS HP;by_cases hlt:k<n
  ·have i0':(0:Int)<=(k:Int):=by omega
   have i1:(k:Int)<(n:Int):=by omega
   have nX:Hid ((zs.flatMap Yr.cells).length=k*5):=ae (by rw [bZ (s:=5) Yr.cells zs fun _ _=>rfl,EF.out]);have KQ:Hid (∀j u,(#[I 0,I 0,I 0,I 0,I 0]:Array Value).toList[j]? =some u->(((wr.alloc (.cells (#[I 0,I 0,I 0,I 0,I 0]:Array Value) 110)).alloc (.cells (#[I 0,I 0,I 0,I 0,I 0]:Array Value) 110)).drew).cell? ((⟨wr.heap.size+1,0,none⟩:Addr).add j)=some u):=ae fun j u hu=>by
    rw [addr_add];have h:=(Row.new (wr.alloc (.cells (#[I 0,I 0,I 0,I 0,I 0]:Array Value) 110)) (#[I 0,I 0,I 0,I 0,I 0]:Array Value) 110).2 j;rw [World.size_alloc] at h;exact h.trans (by simpa using hu)
   have AU:Hid (∀u∈(#[I 0,I 0,I 0,I 0,I 0]:Array Value).toList,u.oneCell'=true):=ae (by
    intro u hu;have h:(#[I 0,I 0,I 0,I 0,I 0]:Array Value).all (·.oneCell')=true:=by kernel_rfl
    rw [Array.all_eq_true_iff_forall_mem] at h;exact h u (by simpa using hu))
   have hplw:pb<wr.heap.size:=by omega
   have hmx:k+1<=maxLen:=by unfold maxLen;omega
   have hby:(k+1)*40<=140737488355328:=by omega
   have VS:Hid (w.heap.size<=(((wr.alloc (.cells (#[I 0,I 0,I 0,I 0,I 0]:Array Value) 110)).alloc (.cells (#[I 0,I 0,I 0,I 0,I 0]:Array Value) 110)).drew).heap.size):=ae (by simp;omega);have dU:Hid ((((wr.alloc (.cells (#[I 0,I 0,I 0,I 0,I 0]:Array Value) 110)).alloc (.cells (#[I 0,I 0,I 0,I 0,I 0]:Array Value) 110)).drew).heap.size=wr.heap.size+2):=ae (by simp);have HOO:Hid ((((wr.alloc (.cells (#[I 0,I 0,I 0,I 0,I 0]:Array Value) 110)).alloc (.cells (#[I 0,I 0,I 0,I 0,I 0]:Array Value) 110)).drew).ownsRow w.heap.size 110 5 (.slice A k c) k (zs.flatMap Yr.cells)):=ae ((HO.out.alloc _).alloc _).drew;have Ir:Hid (∀b,b<wr.heap.size->(((wr.alloc (.cells (#[I 0,I 0,I 0,I 0,I 0]:Array Value) 110)).alloc (.cells (#[I 0,I 0,I 0,I 0,I 0]:Array Value) 110)).drew).heap[b]? =wr.heap[b]?):=ae fun b hb=>(Below.heap_alloc (wr.alloc (.cells (#[I 0,I 0,I 0,I 0,I 0]:Array Value) 110)) _ b (by simp;omega)).trans (Below.heap_alloc wr _ b hb);go_wp2_with fail
   go_region_law (refine step_append_lies _ (by rfl) _ _ _ (by rfl) w.heap.size 110 i0 (.agg (#[I 0,I 0,I 0,I 0,I 0])) 5 40 Tryz.underlying67 hi hz0 hz1 hz2 (by rfl) (by omega) (.slice A k c) k (zs.flatMap Yr.cells) (by rfl) HOO.out ⟨wr.heap.size+1,0,none⟩ 1 1 (#[I 0,I 0,I 0,I 0,I 0]:Array Value).toList (by rfl) (by rfl) KQ.out AU.out (by omega) hmx hby VS.out (wr.heap.size+2) dU.out ?_;intro g2 c2 w2 hown2 hgrow2 yE hlt2;have hbw:∀b,b<w.heap.size->w2.heap[b]? =wr.heap[b]? :=fun b hb=>(hgrow2.block b (Nat.lt_of_lt_of_eq (show b<wr.heap.size+2 by omega) dU.out.symm) (eG HO.out b hb)).trans (Ir.out b (by omega));have HP2:Hid (w2.heap[pb]? =some (.cells (cs.setIfInBounds po (.slice A k c)) t (0,0))):=ae ((hbw pb hpl).trans sF.out.tgt);have hcp2:w2.cell? ⟨pb,po,none⟩=some (.slice A k c):=(cell_of_row w2 pb po _ _ _ HP2.out).trans (by simp [hpos]);have Gp:=frozen_of_row w2 pb po _ _ HP2.out;have qh:=ae hbw;have rD:=ae hown2;have HG2:=ae hgrow2;have HA2:=ae yE;clear hbw hown2 hgrow2 yE)
   all_goals
    have hs2:wr.heap.size+2<=w2.heap.size:=Nat.le_trans (Nat.le_of_eq dU.out.symm) HG2.out.size;have hlo2:=jC rD.out;have hP3:bH w rb pb t (cs.setIfInBounds po (.slice (some ⟨g2,0,none⟩) (k+1) c2)) (w2.setCell ⟨pb,po,none⟩ (.slice (some ⟨g2,0,none⟩) (k+1) c2)):=by
     have h:bH w rb pb t (cs.setIfInBounds po (.slice A k c)) w2:=⟨HG2.out.os.trans sF.out.os,HG2.out.tape.trans sF.out.tape,HG2.out.output.trans sF.out.output,by omega,fun b hb h1 h2=>(qh.out b hb).trans (sF.out.block b hb h1 h2),HP2.out⟩;have h:=h.put po (.slice (some ⟨g2,0,none⟩) (k+1) c2)
     rwa [Array.setIfInBounds_setIfInBounds] at h
    have OD:jO M (w2.setCell ⟨pb,po,none⟩ (.slice (some ⟨g2,0,none⟩) (k+1) c2)) rb R:=(HR.out.of (qh.out rb hrl) fun b hb=>qh.out b (by omega)).put qO hne _;have hO3:(w2.setCell ⟨pb,po,none⟩ (.slice (some ⟨g2,0,none⟩) (k+1) c2)).ownsRow w.heap.size 110 5 (.slice (some ⟨g2,0,none⟩) (k+1) c2) (k+1) (zs.flatMap Yr.cells++(#[I 0,I 0,I 0,I 0,I 0]:Array Value).toList):=eP (p:=⟨pb,po,none⟩) rD.out (by intro e;injection e with e;simp only at e;omega);have gJ:=ae hP3;have HR3:=ae OD;have tX:=ae hO3;clear hP3 OD hO3 HP2 qh rD HG2 HA2 hcp;go_wp2_with fail;obtain ⟨w3,hw3⟩:∃W,w2.setCell ⟨pb,po,none⟩ (.slice (some ⟨g2,0,none⟩) (k+1) c2)=W:=⟨_,rfl⟩;rw [hw3] at gJ HR3 tX ⊢;obtain ⟨cur,q1,q2,q3,q4,q5,q6,q7,_⟩:=lT tX.out;refine (YO M w3 rb g2 (k*5) 110 cur R HR3.out q1 (by rw [q5];omega) (by omega) (by omega)).mono ?_;intro e w4 xu;rcases xu.get with ⟨hq,hd⟩|⟨x,R4,hq,rfl,hr4,mr⟩
    ·obtain ⟨rfl,D,hD,hT⟩:=hd;exact ⟨rfl,cu.no (HQ.out.trans (oK _ _ _ (nR _ HIT.out hq) _ (by omega))) ⟨rfl,_,(dO.refl cs).set rfl,⟨hT.os.trans gJ.out.os,hT.tape.trans gJ.out.tape,hT.output.trans gJ.out.output,Nat.le_trans gJ.out.size hT.size,fun b hb h1 h2=>(hT.block b (dP hb gJ.out.size) (by omega) h2).trans (gJ.out.block b hb h1 h2),(hT.block pb (dP hpl gJ.out.size) (by omega) hne).trans gJ.out.tgt⟩⟩⟩
    have hO4:=Ak tX.out q1 mr;have hse:kM (zs.flatMap Yr.cells++(#[I 0,I 0,I 0,I 0,I 0]:Array Value).toList) (k*5) (Yr.cells x)=(zs++ [x]).flatMap Yr.cells:=by
     have h:=qC (Yr.cells x) (zs.flatMap Yr.cells) (#[I 0,I 0,I 0,I 0,I 0]:Array Value).toList rfl;rw [nX.out] at h;rw [h,List.flatMap_append,List.flatMap_cons,List.flatMap_nil,List.append_nil]
    rw [hse] at hO4;have OC:bH w rb pb t (cs.setIfInBounds po (.slice (some ⟨g2,0,none⟩) (k+1) c2)) w4:=⟨mr.os.trans gJ.out.os,mr.tape.trans gJ.out.tape,mr.output.trans gJ.out.output,Nat.le_trans gJ.out.size mr.size,fun b hb h1 h2=>(mr.block b (dP hb gJ.out.size) (by omega) h2).trans (gJ.out.block b hb h1 h2),(mr.block pb (dP hpl gJ.out.size) (by omega) hne).trans gJ.out.tgt⟩;have HR4:=ae hr4;have xk:=ae OC;have Ey:=ae hO4;have FI:=ae (nP _ HIT.out hq);clear hr4 mr hO4 OC hse q1 q2 q3 q4 q5 q6 q7 hw3 hcp2 Gp xu hq;go_wp2_with fail;go_roundw
    case rel=>exact ⟨k+1,some ⟨g2,0,none⟩,c2,zs++ [x],R4,by omega,by go_num,FI.out,HR4.out,xk.out,Ey.out,fun h=>by omega⟩
    case measure=>simp [intOf];omega
  ·have hkn:k=n:=by omega
   have oC:=ae hkn;have hlt':¬(k:Int)<(n:Int):=by omega
   clear hkn hlt hcp;go_wp2_with fail
   go_end0
   have hit:=HIT.out;rw [oC.out] at hit;have hzl:zs.length=n:=EF.out.trans oC.out;refine cu.yes (HQ.out.trans hit) ?_;rw [hzl];refine ⟨rfl,A,c,HR.out,?_,?_,fun h=>yg.out (oC.out.trans h)⟩
   ·have h:=sF.out
    rwa [oC.out] at h
   ·have h:=HO.out
    rwa [oC.out] at h
end Go.Proofs.YtbaehbbonkljpaaGreatDoor
namespace Go.Proofs.YtbaehbbonkljpaaGreatDoor
open Go Go.RowKit
attribute [local go_sem] dI dM dJ dN fM fO dG dK dH dL jd je
def TCalG (M:Nat) (w:World) (rb cb co:Nat) (t:TypeId) (cs:Array Value) (c:Cal) (R:List UInt8) (e:Ending) (w':World):Prop:=
 e= .returned (.tuple #[])/\∃A a B b,jO M w' rb R/\bH w rb cb t (iR cs co [I c.bn, .slice A c.au.length a,I c.dA, .slice B c.rules.length b]) w'/\
  w'.ownsRow w.heap.size 3 1 (.slice A c.au.length a) c.au.length (c.au.map I)/\w'.ownsRow w.heap.size 118 3 (.slice B c.rules.length b) c.rules.length (c.rules.flatMap Lr.cells)
end Go.Proofs.YtbaehbbonkljpaaGreatDoor
