/- The texts TrZ, in this order. -/
import Derived.Test.YtdibbemgpikgjaaGreatZ00
import Derived.Test.YtdibbemgpikgjaaGreatZ07
set_option maxRecDepth 10000
set_option maxHeartbeats 8000000
namespace Go.Proofs.YtdibbemgpikgjaaGreat
open Go Go.RowKit
attribute [local go_sem] eQ fA eU fC iZ ja eH eX eP eY
theorem tX (ls bs:List Value) (j:Nat) (v:Value) (hj:j<bs.length):(ls++bs).set (ls.length+j) v=ls++bs.set j v:=by
 have h:=set_mid ls bs [] j v hj;rw [List.append_nil,List.append_nil] at h;exact h
def NW (xs:List Value) (eo:Nat) (e:Ze) (A:Option Addr) (a:Nat):List Value:=
 (((((xs.set eo (.string e.name)).set (eo+1) (I e.z.cal.aN)).set (eo+1+1) (.slice A e.z.cal.au.length a)).set (eo+1+2) (I (-1))).set (eo+1+4) (I e.z.start)).set (eo+1+6) (I e.z.hor)
theorem NY (cs:Array Value) (eo m:Nat) (e:Ze) (A:Option Addr) (a:Nat):(rV cs eo e A a).toList.take m=NW (cs.toList.take m) eo e A a:=by
 unfold rV NW;simp only [Array.toList_setIfInBounds,List.take_set]
theorem Qs (ys:List dm) (x:Ze) (hx:gZ x.z) (A:Option Addr) (a:Nat):NW (aP ys++fM.toList) (ys.length*9) x A a=aP (ys++ [⟨x,⟨A,a,none,0,none,0,none,0⟩⟩]):=by
 rw [yM];unfold NW;rw [←dG];have h9:fM.toList.length=9:=rfl;have e0:(aP ys).length=(aP ys).length+0:=rfl;rw [e0,tX _ _ 0 _ (by omega),Nat.add_zero,tX _ _ 1 _ (by simp [h9])];rw [show (aP ys).length+1+1=(aP ys).length+2 from rfl,tX _ _ 2 _ (by simp [h9])];rw [show (aP ys).length+1+2=(aP ys).length+3 from rfl,tX _ _ 3 _ (by simp [h9])];rw [show (aP ys).length+1+4=(aP ys).length+5 from rfl,tX _ _ 5 _ (by simp [h9])];rw [show (aP ys).length+1+6=(aP ys).length+7 from rfl,tX _ _ 7 _ (by simp [h9])];congr 1;unfold aP dm.cells fM;simp [hx.cal.le,hx.cal.ru,hx.trans,hx.ay]
theorem U9 {W W':World} {lo g n m cap rb eo:Nat} {xs:List Value} {e:Ze} {A:Option Addr} {a:Nat} {cur:Array Value} (h:W.ownsRow lo 55 9 (.slice (some ⟨g,0,none⟩) n cap) m xs) (hg:W.heap[g]? =some (.cells cur 55 (0,0))) (hp:bU W rb g 55 (rV cur eo e A a) W'):
  W'.ownsRow lo 55 9 (.slice (some ⟨g,0,none⟩) n cap) m (NW xs eo e A a):=by
 obtain ⟨cur',h1,h2,h3,h4,h5,h6,h7,rfl⟩:=jq h;rw [hg] at h1;injection h1 with h1;injection h1 with h1;subst h1;refine EY hp.tgt h2 h3 h4 ?_ (by rw [NY,h6]) (by unfold NW;simp only [List.length_set];exact h7);unfold rV;simp only [Array.size_setIfInBounds];exact h5
def RzRel (M:Nat) (w:World) (rb pb po:Nat) (t:TypeId) (cs:Array Value) (n:Nat) (zs:List Ze) (R:List UInt8) (i:Value) (wr:World):Prop:=
 ∃(k:Nat) (A:Option Addr) (c:Nat) (ys:List dm),k≤n∧i= .int .i64 k∧ys.length=k∧ys.map (·.e)=zs.take k∧gB M wr rb (fP (zs.drop k)++R)∧bU w rb pb t (cs.setIfInBounds po (.slice A k c)) wr∧
  wr.ownsRow w.heap.size 55 9 (.slice A k c) k (aP ys)∧(∀y∈ys,yg y.s∧∃g,A=some ⟨g,0,none⟩∧LX w.heap.size g wr y.s.A y.e.z.cal.au)∧(k=0→A=none∧c=0)
def TZeR (M:Nat) (w:World) (rb pb po:Nat) (t:TypeId) (cs:Array Value) (zs:List Ze) (n:Nat) (R:List UInt8) (e:Ending) (w':World):Prop:=
 e= .returned (.tuple #[])∧∃A c ys,gB M w' rb R∧bU w rb pb t (cs.setIfInBounds po (.slice A n c)) w'∧gX w.heap.size w' (.slice A n c) ys∧ys.map (·.e)=zs
theorem RS (M:Nat) (w:World) (rb pb po n:Nat) (t:TypeId) (cs:Array Value) (zs:List Ze) (R:List UInt8) (hn:zs.length=n) (hn2:n≤128) (hfl:∀x∈zs,gZ x.z∧x.name.size≤32) (hr:gB M w rb ((le n 1++fP zs)++R)) (hp:w.heap[pb]? =some (.cells cs t (0,0))) (hpo:cs[po]? =some (.slice none 0 0)) (pM:M≤pb) (hne:pb≠rb):
  Calls Tryz.prog 42 #[.iface 109 (pt rb), .pointer (some ⟨pb,po,none⟩),I 1, .func (.func 43) #[] #[]] w (TZeR M w rb pb po t cs zs n R):=by
 rw [List.append_assoc] at hr;have hpl:pb<w.heap.size:=(aZ.1 hp).1;have hlo:=hr.lo;have hrl:=hr.lt;have hcs:cs.setIfInBounds po (.slice none 0 0)=cs:=by
  apply Array.ext_getElem?;intro i;rw [Array.getElem?_setIfInBounds];split
  ·rename_i e;subst e;split
   ·exact hpo.symm
   ·rename_i e2;rw [Array.getElem?_eq_none (by omega)] at hpo;cases hpo
  ·rfl
 have hc0:w.cell? ⟨pb,po,none⟩=some (.slice none 0 0):=(cell_of_row w pb po _ _ _ hp).trans hpo;have hpos:po<cs.size:=(aZ.1 hpo).1;have HC:=ae (fH M w.drew rb 1 0 n n (fP zs++R) hr.drew (by omega) (jA _ (by omega) (by omega) _));have HP:Hid (bU w rb pb t (cs.setIfInBounds po (.slice none 0 0)) w):=ae (by rw [hcs];exact bU.refl hp);have HN:=ae hn;have HF:=ae hfl;clear hr hp hpo hcs hn hfl;obtain ⟨i0,hi,hz0,hz1,hz2⟩:=info_parts tK;go_enter Tryz.func42,Tryz.ntmps42;go_wp2_with fail;go_still_tail 9,(by kernel_rfl);go_wp2_with fail;refine HC.out.mono ?_;rintro e w1 ⟨rfl,hr1,hk1⟩;have HR1:=ae hr1;have mY:=ae (HP.out.drew.mP hk1 hpl hne);clear hr1 hk1 HC hc0;go_wp2_with fail
 go_loopw [22] (fun i wr=>RzRel M w rb pb po t cs n zs R i wr) (fun i _=>n - (intOf i).toNat)
 case atStart=>exact ⟨0,none,0,[],Nat.zero_le _,rfl,rfl,rfl,HR1.out,mY.out,World.ownsRow_nil _ _ _ _,(fun _ h=>nomatch h),fun _=>⟨rfl,rfl⟩⟩
 case round=>
  obtain ⟨k,A,c,ys,hk,rfl,hyl,hye,hr,hp,hown,hym,hnl⟩:=hrel;have HR:=ae hr;have nT:=ae hp;have HO:=ae hown;have kX:=ae hyl;have BU:=ae hye;have Du:=ae hym;have Nv:=ae hnl;have hcp:wr.cell? ⟨pb,po,none⟩=some (.slice A k c):=(hp.cell po).trans (by simp [hpos]);have hsw:=hp.size;clear hr hp hown hyl hye hym hnl HR1 mY HP;by_cases hlt:k<n
  ·have i0':(0:Int)≤(k:Int):=by omega
   have i1:(k:Int)<(n:Int):=by omega
   have hkz:k<zs.length:=by rw [HN.out];exact hlt
   obtain ⟨x,hx⟩:∃x,zs[k]? =some x:=⟨_,dE hkz⟩;have AP:=HF.out x (fK hx);have HX:=ae hx;have yU:=ae AP;clear hx AP;have zW:Hid (∀j u,fM.toList[j]? =some u→(((wr.alloc (.cells fM 55)).alloc (.cells fM 55)).drew).cell? ((⟨wr.heap.size+1,0,none⟩:Addr).add j)=some u):=ae fun j u hu=>by
    rw [addr_add];have h:=(Row.new (wr.alloc (.cells fM 55)) fM 55).2 j;rw [World.size_alloc] at h;exact h.trans (by simpa using hu)
   have uG:Hid (∀u∈fM.toList,u.oneCell'=true):=ae (by
    intro u hu;have h:fM.all (·.oneCell')=true:=by kernel_rfl
    rw [Array.all_eq_true_iff_forall_mem] at h;exact h u (by simpa using hu))
   have QP:pb<wr.heap.size:=by omega
   have hmx:k+1≤maxLen:=by unfold maxLen;omega
   have hby:(k+1)*144≤140737488355328:=by omega
   have FX:Hid (w.heap.size≤(((wr.alloc (.cells fM 55)).alloc (.cells fM 55)).drew).heap.size):=ae (by simp;omega);have dM:Hid ((((wr.alloc (.cells fM 55)).alloc (.cells fM 55)).drew).heap.size=wr.heap.size+2):=ae (by simp);have PI:Hid ((((wr.alloc (.cells fM 55)).alloc (.cells fM 55)).drew).ownsRow w.heap.size 55 9 (.slice A k c) k (aP ys)):=ae ((HO.out.alloc _).alloc _).drew;have xh:Hid (∀b,b<wr.heap.size→(((wr.alloc (.cells fM 55)).alloc (.cells fM 55)).drew).heap[b]? =wr.heap[b]?):=ae fun b hb=>(Below.heap_alloc (wr.alloc (.cells fM 55)) _ b (by simp;omega)).trans (Below.heap_alloc wr _ b hb);go_wp2_with fail
   go_region_law (refine step_append_lies _ (by rfl) _ _ _ (by rfl) w.heap.size 55 i0 (.agg fM) 9 144 Tryz.underlying30 hi hz0 hz1 hz2 (by rfl) (by omega) (.slice A k c) k (aP ys) (by rfl) PI.out ⟨wr.heap.size+1,0,none⟩ 1 1 fM.toList (by rfl) (by rfl) zW.out uG.out (by omega) hmx hby FX.out (wr.heap.size+2) dM.out ?_;intro g2 c2 w2 hown2 hgrow2 qG hlt2;have hbw:∀b,b<w.heap.size→w2.heap[b]? =wr.heap[b]? :=fun b hb=>(hgrow2.block b (Nat.lt_of_lt_of_eq (show b<wr.heap.size+2 by omega) dM.out.symm) (dV HO.out b hb)).trans (xh.out b (by omega));have HP2:Hid (w2.heap[pb]? =some (.cells (cs.setIfInBounds po (.slice A k c)) t (0,0))):=ae ((hbw pb hpl).trans nT.out.tgt);have hcp2:w2.cell? ⟨pb,po,none⟩=some (.slice A k c):=(cell_of_row w2 pb po _ _ _ HP2.out).trans (by simp [hpos]);have y8:=frozen_of_row w2 pb po _ _ HP2.out;have lN:=ae hbw;have kW:=ae hown2;have HG2:=ae hgrow2;have HA2:=ae qG;clear hbw hown2 hgrow2 qG)
   all_goals
    have hs2:wr.heap.size+2≤w2.heap.size:=Nat.le_trans (Nat.le_of_eq dM.out.symm) HG2.out.size;have hkeep:∀b,b<wr.heap.size→some b≠(Value.slice A k c).ownBlock→w2.heap[b]? =wr.heap[b]? :=fun b hb hne=>(HG2.out.block b (Nat.lt_of_lt_of_eq (show b<wr.heap.size+2 by omega) dM.out.symm) hne).trans (xh.out b hb);have hlo2:=gq kW.out;have hP3:bU w rb pb t (cs.setIfInBounds po (.slice (some ⟨g2,0,none⟩) (k+1) c2)) (w2.setCell ⟨pb,po,none⟩ (.slice (some ⟨g2,0,none⟩) (k+1) c2)):=by
     have h:bU w rb pb t (cs.setIfInBounds po (.slice A k c)) w2:=⟨HG2.out.os.trans nT.out.os,HG2.out.tape.trans nT.out.tape,HG2.out.output.trans nT.out.output,by omega,fun b hb h1 h2=>(lN.out b hb).trans (nT.out.block b hb h1 h2),HP2.out⟩;have h:=h.put po (.slice (some ⟨g2,0,none⟩) (k+1) c2)
     rwa [Array.setIfInBounds_setIfInBounds] at h
    have DR:gB M (w2.setCell ⟨pb,po,none⟩ (.slice (some ⟨g2,0,none⟩) (k+1) c2)) rb (fP (zs.drop k)++R):=(HR.out.of (lN.out rb hrl) fun b hb=>lN.out b (by omega)).put pM hne _;have hO3:(w2.setCell ⟨pb,po,none⟩ (.slice (some ⟨g2,0,none⟩) (k+1) c2)).ownsRow w.heap.size 55 9 (.slice (some ⟨g2,0,none⟩) (k+1) c2) (k+1) (aP ys++fM.toList):=dA (p:=⟨pb,po,none⟩) kW.out (by intro e;injection e with e;simp only at e;omega);have hM3:∀y∈ys,yg y.s∧LX w.heap.size g2 (w2.setCell ⟨pb,po,none⟩ (.slice (some ⟨g2,0,none⟩) (k+1) c2)) y.s.A y.e.z.cal.au:=by
     intro y hy;obtain ⟨h1,g,hA,b,off,b1,b2,b3,b4,b5⟩:=Du.out y hy;have hne1:some b≠(Value.slice A k c).ownBlock:=by
      rw [hA];intro e;injection e with e;exact b4 e
     refine ⟨h1,b,off,b1,b2,by simp [World.setCell];omega,?_,fun j hj=>?_⟩
     ·rcases HA2.out with h|h
      ·rw [hA] at h;injection h with h;intro e;exact b4 (e.trans h.symm)
      ·omega
     ·exact (World.cell?_of_block (a:=⟨b,off+j,none⟩) ((heap_setCell_other w2 _ b _ (by show b≠pb;omega)).trans (hkeep b b3 hne1))).trans (b5 j hj)
    have iV:=ae hP3;have HR3:=ae DR;have nK:=ae hO3;have HM3:=ae hM3;clear hkeep hP3 DR hO3 hM3 HP2 lN kW HG2 HA2 hcp;go_wp2_with fail;obtain ⟨w3,hw3⟩:∃W,w2.setCell ⟨pb,po,none⟩ (.slice (some ⟨g2,0,none⟩) (k+1) c2)=W:=⟨_,rfl⟩;rw [hw3] at iV HR3 nK HM3 ⊢;obtain ⟨cur,q1,q2,q3,q4,q5,q6,q7,_⟩:=jq nK.out;have hcz:fP (zs.drop k)++R=nS x++(fP (zs.drop (k+1))++R):=by
     have hd:zs.drop k=x::zs.drop (k+1):=by
      rw [List.drop_eq_getElem_cons hkz];have h:=HX.out;rw [dE hkz] at h;injection h with h;rw [h]
     rw [hd];simp [fP]
    have hr3:=HR3.out;rw [hcz] at hr3;have hzz:∀j,j<9→cur[k*9+j]? =fM[j]? :=fun j hj=>by
     have h:(cur.toList.take ((k+1)*9))[k*9+j]? =(aP ys++fM.toList)[k*9+j]? :=by rw [q6]
     rw [List.getElem?_take_of_lt (by omega),List.getElem?_append_right (by rw [dG,kX.out];omega),dG,kX.out,show k*9+j - k*9=j by omega] at h;simpa using h
    refine (Ff M w3 rb g2 (k*9) 55 cur x _ yU.out.1 yU.out.2 hr3 q1 hzz (by omega) (by omega)).mono ?_;rintro e w4 ⟨rfl,A4,a4,hr4,iT,yx⟩;have hO4:=U9 nK.out q1 iT;rw [←kX.out,Qs ys x yU.out.1 A4 a4,kX.out] at hO4;have G9:bU w rb pb t (cs.setIfInBounds po (.slice (some ⟨g2,0,none⟩) (k+1) c2)) w4:=⟨iT.os.trans iV.out.os,iT.tape.trans iV.out.tape,iT.output.trans iV.out.output,Nat.le_trans iV.out.size iT.size,fun b hb h1 h2=>(iT.block b (dR hb iV.out.size) (by omega) h2).trans (iV.out.block b hb h1 h2),(iT.block pb (dR hpl iV.out.size) (by omega) hne).trans iV.out.tgt⟩;have hs3:w3.heap.size=w2.heap.size:=by rw [←hw3];simp [World.setCell]
    have hM4:∀y∈ys++ [(⟨x,⟨A4,a4,none,0,none,0,none,0⟩⟩:dm)],yg y.s∧∃g,(some ⟨g2,0,none⟩:Option Addr)=some ⟨g,0,none⟩∧LX w.heap.size g w4 y.s.A y.e.z.cal.au:=by
     intro y hy;rcases List.mem_append.1 hy with hy|hy
     ·obtain ⟨h1,b,off,b1,b2,b3,b4,b5⟩:=HM3.out y hy;exact ⟨h1,g2,rfl,b,off,b1,b2,dR b3 iT.size,b4,fun j hj=>(World.cell?_of_block (a:=⟨b,off+j,none⟩) (iT.block b b3 b4 (by omega))).trans (b5 j hj)⟩
     ·rw [List.mem_singleton.1 hy];obtain ⟨g4,cc4,e4,_⟩:=gV yx (by have:=yU.out.1.cal.mo.1;omega);injection e4 with e4 _ _;subst e4;exact ⟨⟨⟨rfl,rfl⟩,⟨rfl,rfl⟩,⟨rfl,rfl⟩⟩,g2,rfl,LX.dZ yx (by omega) (by omega)⟩
    have HR4:=ae hr4;have qo:=ae G9;have uF:=ae hO4;have FN:=ae hM4;have HE4:Hid ((ys++ [(⟨x,⟨A4,a4,none,0,none,0,none,0⟩⟩:dm)]).map (·.e)=zs.take (k+1)):=ae (by rw [List.map_append,BU.out,iw zs k x HX.out];rfl);clear hr4 iT yx hO4 G9 hM4 hr3 hcz q1 q2 q3 q4 q5 q6 q7 hw3 hcp2 y8 hzz;go_wp2_with fail;go_roundw
    case rel=>exact ⟨k+1,some ⟨g2,0,none⟩,c2,_,by omega,by go_num,by rw [bJ,kX.out];rfl,HE4.out,HR4.out,qo.out,uF.out,FN.out,fun h=>by omega⟩
    case measure=>simp [intOf];omega
  ·have hkn:k=n:=by omega
   have lG:=ae hkn;have hlt':¬(k:Int)<(n:Int):=by omega
   clear hkn hlt hcp;go_wp2_with fail
   go_end0
   refine ⟨rfl,A,c,ys,?_,?_,⟨?_,fun y hy=>?_,fun y hy=>(Du.out y hy).1,fun h=>?_⟩,?_⟩
   ·have h:=HR.out;rw [lG.out,List.drop_of_length_le (by rw [HN.out];exact Nat.le_refl _)] at h;exact h
   ·have h:=nT.out
    rwa [lG.out] at h
   ·have h:=HO.out;rw [lG.out] at h;rw [kX.out,lG.out];exact h
   ·obtain ⟨_,g,_,h⟩:=Du.out y hy;exact h.li
   ·obtain ⟨h1,h2⟩:=Nv.out (kX.out.symm.trans h);have h0:n=0:=by have:=kX.out;have:=lG.out;omega
    rw [h1,h2,h0]
   ·rw [BU.out,lG.out,List.take_of_length_le (by rw [HN.out];exact Nat.le_refl _)]
end Go.Proofs.YtdibbemgpikgjaaGreat
