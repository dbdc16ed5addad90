/- The texts TrZ, TrW, BEq, TrR, TrS, DgR, in this order. -/
import Derived.Test.YtdibbemgpikgjaaGreatDoorY00
import Derived.Defers
import Derived.Recover
import Derived.Test.YtdibbemgpikgjaaGreatDoorY01
import Derived.Test.YtdibbemgpikgjaaGreatDoorY05
import Derived.Test.YtdibbemgpikgjaaGreatDoorY13
import Derived.Test.YtdibbemgpikgjaaGreatDoorY22
import Derived.Test.YtdibbemgpikgjaaGreatDoorY24
set_option maxRecDepth 10000
set_option maxHeartbeats 8000000
namespace Go.Proofs.YtdibbemgpikgjaaGreatDoor
open Go Go.RowKit
attribute [local go_sem] kQ kU kR kV oU oV kN kS kP kT
theorem uJ (ls bs:List Value) (j:Nat) (v:Value) (hj:j<bs.length):(ls++bs).set (ls.length+j) v=ls++bs.set j v:=by
 have h:=set_mid ls bs [] j v hj;rw [List.append_nil,List.append_nil] at h;exact h
def PL (xs:List Value) (eo:Nat) (e:Ze) (A:Option Addr) (a:Nat):List Value:=
 (((((xs.set eo (.string e.name)).set (eo+1) (I e.z.cal.aX)).set (eo+1+1) (.slice A e.z.cal.az.length a)).set (eo+1+2) (I (-1))).set (eo+1+4) (I e.z.start)).set (eo+1+6) (I e.z.hor)
theorem PM (cs:Array Value) (eo m:Nat) (e:Ze) (A:Option Addr) (a:Nat):(tX cs eo e A a).toList.take m=PL (cs.toList.take m) eo e A a:=by
 unfold tX PL;simp only [Array.toList_setIfInBounds,List.take_set]
theorem SA (ys:List dB) (x:Ze) (hx:gU x.z) (A:Option Addr) (a:Nat):PL (aO ys++jo.toList) (ys.length*9) x A a=aO (ys++ [⟨x,⟨A,a,none,0,none,0,none,0⟩⟩]):=by
 rw [JM];unfold PL;rw [←dL];have h9:jo.toList.length=9:=rfl;have e0:(aO ys).length=(aO ys).length+0:=rfl;rw [e0,uJ _ _ 0 _ (by omega),Nat.add_zero,uJ _ _ 1 _ (by simp [h9])];rw [show (aO ys).length+1+1=(aO ys).length+2 from rfl,uJ _ _ 2 _ (by simp [h9])];rw [show (aO ys).length+1+2=(aO ys).length+3 from rfl,uJ _ _ 3 _ (by simp [h9])];rw [show (aO ys).length+1+4=(aO ys).length+5 from rfl,uJ _ _ 5 _ (by simp [h9])];rw [show (aO ys).length+1+6=(aO ys).length+7 from rfl,uJ _ _ 7 _ (by simp [h9])];congr 1;unfold aO dB.cells jo;simp [hx.cal.le,hx.cal.ru,hx.trans,hx.aN]
theorem WY {W W':World} {lo g n m cap rb eo:Nat} {xs:List Value} {e:Ze} {A:Option Addr} {a:Nat} {cur:Array Value} (h:W.ownsRow lo 90 9 (.slice (some ⟨g,0,none⟩) n cap) m xs) (hg:W.heap[g]? =some (.cells cur 90 (0,0))) (hp:dU W rb g 90 (tX cur eo e A a) W'):
  W'.ownsRow lo 90 9 (.slice (some ⟨g,0,none⟩) n cap) m (PL xs eo e A a):=by
 obtain ⟨cur',h1,h2,h3,h4,h5,h6,h7,rfl⟩:=ou h;rw [hg] at h1;injection h1 with h1;injection h1 with h1;subst h1;refine MC hp.tgt h2 h3 h4 ?_ (by rw [PM,h6]) (by unfold PL;simp only [List.length_set];exact h7);unfold tX;simp only [Array.size_setIfInBounds];exact h5
def RzRel (M:Nat) (w:World) (rb pb po:Nat) (t:TypeId) (cs:Array Value) (n:Nat) (zs:List Ze) (R:List UInt8) (i:Value) (wr:World):Prop:=
 ∃(k:Nat) (A:Option Addr) (c:Nat) (ys:List dB),k≤n∧i= .int .i64 k∧ys.length=k∧ys.map (·.e)=zs.take k∧jV M wr rb (fZ (zs.drop k)++R)∧dU w rb pb t (cs.setIfInBounds po (.slice A k c)) wr∧
  wr.ownsRow w.heap.size 90 9 (.slice A k c) k (aO ys)∧(∀y∈ys,yU y.s∧∃g,A=some ⟨g,0,none⟩∧LX w.heap.size g wr y.s.A y.e.z.cal.az)∧(k=0→A=none∧c=0)
def TZeR (M:Nat) (w:World) (rb pb po:Nat) (t:TypeId) (cs:Array Value) (zs:List Ze) (n:Nat) (R:List UInt8) (e:Ending) (w':World):Prop:=
 e= .returned (.tuple #[])∧∃A c ys,jV M w' rb R∧dU w rb pb t (cs.setIfInBounds po (.slice A n c)) w'∧gJ w.heap.size w' (.slice A n c) ys∧ys.map (·.e)=zs
theorem Ur (M:Nat) (w:World) (rb pb po n:Nat) (t:TypeId) (cs:Array Value) (zs:List Ze) (R:List UInt8) (hn:zs.length=n) (hn2:n≤128) (hfl:∀x∈zs,gU x.z∧x.name.size≤32) (hr:jV M w rb ((le n 1++fZ zs)++R)) (hp:w.heap[pb]? =some (.cells cs t (0,0))) (hpo:cs[po]? =some (.slice none 0 0)) (EM:M≤pb) (hne:pb≠rb):
  Calls Tryz.prog 48 #[.iface 134 (pt rb), .pointer (some ⟨pb,po,none⟩),I 1, .func (.func 49) #[] #[]] w (TZeR M w rb pb po t cs zs n R):=by
 rw [List.append_assoc] at hr;have hpl:pb<w.heap.size:=(bT.1 hp).1;have hlo:=hr.lo;have hrl:=hr.lt;have hcs:cs.setIfInBounds po (.slice none 0 0)=cs:=by
  apply Array.ext_getElem?;intro i;rw [Array.getElem?_setIfInBounds];split
  ·rename_i e;subst e;split
   ·exact hpo.symm
   ·rename_i e2;rw [Array.getElem?_eq_none (by omega)] at hpo;cases hpo
  ·rfl
 have hc0:w.cell? ⟨pb,po,none⟩=some (.slice none 0 0):=(cell_of_row w pb po _ _ _ hp).trans hpo;have hpos:po<cs.size:=(bT.1 hpo).1;have HC:=ae (jK M w.drew rb 1 0 n n (fZ zs++R) hr.drew (by omega) (pX _ (by omega) (by omega) _));have HP:Hid (dU w rb pb t (cs.setIfInBounds po (.slice none 0 0)) w):=ae (by rw [hcs];exact dU.refl hp);have HN:=ae hn;have HF:=ae hfl;clear hr hp hpo hcs hn hfl;obtain ⟨i0,hi,hz0,hz1,hz2⟩:=info_parts xh;go_enter Tryz.func48,Tryz.ntmps48;go_wp2_with fail;go_still_tail 9,(by kernel_rfl);go_wp2_with fail;refine HC.out.mono ?_;rintro e w1 ⟨rfl,hr1,hk1⟩;have HR1:=ae hr1;have wY:=ae (HP.out.drew.ui hk1 hpl hne);clear hr1 hk1 HC hc0;go_wp2_with fail
 go_loopw [22] (fun i wr=>RzRel M w rb pb po t cs n zs R i wr) (fun i _=>n - (intOf i).toNat)
 case atStart=>exact ⟨0,none,0,[],Nat.zero_le _,rfl,rfl,rfl,HR1.out,wY.out,World.ownsRow_nil _ _ _ _,(fun _ h=>nomatch h),fun _=>⟨rfl,rfl⟩⟩
 case round=>
  obtain ⟨k,A,c,ys,hk,rfl,hyl,hye,hr,hp,hown,hym,hnl⟩:=hrel;have HR:=ae hr;have Eo:=ae hp;have HO:=ae hown;have nI:=ae hyl;have JW:=ae hye;have NV:=ae hym;have HNL:=ae hnl;have hcp:wr.cell? ⟨pb,po,none⟩=some (.slice A k c):=(hp.cell po).trans (by simp [hpos]);have hsw:=hp.size;clear hr hp hown hyl hye hym hnl HR1 wY HP;by_cases hlt:k<n
  ·have i0':(0:Int)≤(k:Int):=by omega
   have i1:(k:Int)<(n:Int):=by omega
   have hkz:k<zs.length:=by rw [HN.out];exact hlt
   obtain ⟨x,hx⟩:∃x,zs[k]? =some x:=⟨_,bZ hkz⟩;have TA:=HF.out x (dS hx);have HX:=ae hx;have JV:=ae TA;clear hx TA;have Zi:Hid (∀j u,jo.toList[j]? =some u→(((wr.alloc (.cells jo 90)).alloc (.cells jo 90)).drew).cell? ((⟨wr.heap.size+1,0,none⟩:Addr).add j)=some u):=ae fun j u hu=>by
    rw [addr_add];have h:=(Row.new (wr.alloc (.cells jo 90)) jo 90).2 j;rw [World.size_alloc] at h;exact h.trans (by simpa using hu)
   have Ko:Hid (∀u∈jo.toList,u.oneCell'=true):=ae (by
    intro u hu;have h:jo.all (·.oneCell')=true:=by kernel_rfl
    rw [Array.all_eq_true_iff_forall_mem] at h;exact h u (by simpa using hu))
   have hplw:pb<wr.heap.size:=by omega
   have hmx:k+1≤maxLen:=by unfold maxLen;omega
   have hby:(k+1)*144≤140737488355328:=by omega
   have HBS:Hid (w.heap.size≤(((wr.alloc (.cells jo 90)).alloc (.cells jo 90)).drew).heap.size):=ae (by simp;omega);have dR:Hid ((((wr.alloc (.cells jo 90)).alloc (.cells jo 90)).drew).heap.size=wr.heap.size+2):=ae (by simp);have HOO:Hid ((((wr.alloc (.cells jo 90)).alloc (.cells jo 90)).drew).ownsRow w.heap.size 90 9 (.slice A k c) k (aO ys)):=ae ((HO.out.alloc _).alloc _).drew;have Vo:Hid (∀b,b<wr.heap.size→(((wr.alloc (.cells jo 90)).alloc (.cells jo 90)).drew).heap[b]? =wr.heap[b]?):=ae fun b hb=>(Below.heap_alloc (wr.alloc (.cells jo 90)) _ b (by simp;omega)).trans (Below.heap_alloc wr _ b hb);go_wp2_with fail
   go_region_law (refine step_append_lies _ (by rfl) _ _ _ (by rfl) w.heap.size 90 i0 (.agg jo) 9 144 Tryz.underlying35 hi hz0 hz1 hz2 (by rfl) (by omega) (.slice A k c) k (aO ys) (by rfl) HOO.out ⟨wr.heap.size+1,0,none⟩ 1 1 jo.toList (by rfl) (by rfl) Zi.out Ko.out (by omega) hmx hby HBS.out (wr.heap.size+2) dR.out ?_;intro g2 c2 w2 hown2 hgrow2 Ll hlt2;have hbw:∀b,b<w.heap.size→w2.heap[b]? =wr.heap[b]? :=fun b hb=>(hgrow2.block b (Nat.lt_of_lt_of_eq (show b<wr.heap.size+2 by omega) dR.out.symm) (eU HO.out b hb)).trans (Vo.out b (by omega));have HP2:Hid (w2.heap[pb]? =some (.cells (cs.setIfInBounds po (.slice A k c)) t (0,0))):=ae ((hbw pb hpl).trans Eo.out.tgt);have hcp2:w2.cell? ⟨pb,po,none⟩=some (.slice A k c):=(cell_of_row w2 pb po _ _ _ HP2.out).trans (by simp [hpos]);have Ws:=frozen_of_row w2 pb po _ _ HP2.out;have pG:=ae hbw;have pI:=ae hown2;have HG2:=ae hgrow2;have HA2:=ae Ll;clear hbw hown2 hgrow2 Ll)
   all_goals
    have hs2:wr.heap.size+2≤w2.heap.size:=Nat.le_trans (Nat.le_of_eq dR.out.symm) HG2.out.size;have hkeep:∀b,b<wr.heap.size→some b≠(Value.slice A k c).ownBlock→w2.heap[b]? =wr.heap[b]? :=fun b hb hne=>(HG2.out.block b (Nat.lt_of_lt_of_eq (show b<wr.heap.size+2 by omega) dR.out.symm) hne).trans (Vo.out b hb);have hlo2:=kG pI.out;have hP3:dU w rb pb t (cs.setIfInBounds po (.slice (some ⟨g2,0,none⟩) (k+1) c2)) (w2.setCell ⟨pb,po,none⟩ (.slice (some ⟨g2,0,none⟩) (k+1) c2)):=by
     have h:dU w rb pb t (cs.setIfInBounds po (.slice A k c)) w2:=⟨HG2.out.os.trans Eo.out.os,HG2.out.tape.trans Eo.out.tape,HG2.out.output.trans Eo.out.output,by omega,fun b hb h1 h2=>(pG.out b hb).trans (Eo.out.block b hb h1 h2),HP2.out⟩;have h:=h.put po (.slice (some ⟨g2,0,none⟩) (k+1) c2)
     rwa [Array.setIfInBounds_setIfInBounds] at h
    have Yw:jV M (w2.setCell ⟨pb,po,none⟩ (.slice (some ⟨g2,0,none⟩) (k+1) c2)) rb (fZ (zs.drop k)++R):=(HR.out.of (pG.out rb hrl) fun b hb=>pG.out b (by omega)).put EM hne _;have hO3:(w2.setCell ⟨pb,po,none⟩ (.slice (some ⟨g2,0,none⟩) (k+1) c2)).ownsRow w.heap.size 90 9 (.slice (some ⟨g2,0,none⟩) (k+1) c2) (k+1) (aO ys++jo.toList):=dW (p:=⟨pb,po,none⟩) pI.out (by intro e;injection e with e;simp only at e;omega);have hM3:∀y∈ys,yU y.s∧LX w.heap.size g2 (w2.setCell ⟨pb,po,none⟩ (.slice (some ⟨g2,0,none⟩) (k+1) c2)) y.s.A y.e.z.cal.az:=by
     intro y hy;obtain ⟨h1,g,hA,b,off,b1,b2,b3,b4,b5⟩:=NV.out y hy;have hne1:some b≠(Value.slice A k c).ownBlock:=by
      rw [hA];intro e;injection e with e;exact b4 e
     refine ⟨h1,b,off,b1,b2,by simp [World.setCell];omega,?_,fun j hj=>?_⟩
     ·rcases HA2.out with h|h
      ·rw [hA] at h;injection h with h;intro e;exact b4 (e.trans h.symm)
      ·omega
     ·exact (World.cell?_of_block (a:=⟨b,off+j,none⟩) ((heap_setCell_other w2 _ b _ (by show b≠pb;omega)).trans (hkeep b b3 hne1))).trans (b5 j hj)
    have rq:=ae hP3;have HR3:=ae Yw;have vg:=ae hO3;have HM3:=ae hM3;clear hkeep hP3 Yw hO3 hM3 HP2 pG pI HG2 HA2 hcp;go_wp2_with fail;obtain ⟨w3,hw3⟩:∃W,w2.setCell ⟨pb,po,none⟩ (.slice (some ⟨g2,0,none⟩) (k+1) c2)=W:=⟨_,rfl⟩;rw [hw3] at rq HR3 vg HM3 ⊢;obtain ⟨cur,q1,q2,q3,q4,q5,q6,q7,_⟩:=ou vg.out;have hcz:fZ (zs.drop k)++R=oD x++(fZ (zs.drop (k+1))++R):=by
     have hd:zs.drop k=x::zs.drop (k+1):=by
      rw [List.drop_eq_getElem_cons hkz];have h:=HX.out;rw [bZ hkz] at h;injection h with h;rw [h]
     rw [hd];simp [fZ]
    have hr3:=HR3.out;rw [hcz] at hr3;have hzz:∀j,j<9→cur[k*9+j]? =jo[j]? :=fun j hj=>by
     have h:(cur.toList.take ((k+1)*9))[k*9+j]? =(aO ys++jo.toList)[k*9+j]? :=by rw [q6]
     rw [List.getElem?_take_of_lt (by omega),List.getElem?_append_right (by rw [dL,nI.out];omega),dL,nI.out,show k*9+j - k*9=j by omega] at h;simpa using h
    refine (GI M w3 rb g2 (k*9) 90 cur x _ JV.out.1 JV.out.2 hr3 q1 hzz (by omega) (by omega)).mono ?_;rintro e w4 ⟨rfl,A4,a4,hr4,sU,ho4⟩;have hO4:=WY vg.out q1 sU;rw [←nI.out,SA ys x JV.out.1 A4 a4,nI.out] at hO4;have hP4:dU w rb pb t (cs.setIfInBounds po (.slice (some ⟨g2,0,none⟩) (k+1) c2)) w4:=⟨sU.os.trans rq.out.os,sU.tape.trans rq.out.tape,sU.output.trans rq.out.output,Nat.le_trans rq.out.size sU.size,fun b hb h1 h2=>(sU.block b (dP hb rq.out.size) (by omega) h2).trans (rq.out.block b hb h1 h2),(sU.block pb (dP hpl rq.out.size) (by omega) hne).trans rq.out.tgt⟩;have hs3:w3.heap.size=w2.heap.size:=by rw [←hw3];simp [World.setCell]
    have hM4:∀y∈ys++ [(⟨x,⟨A4,a4,none,0,none,0,none,0⟩⟩:dB)],yU y.s∧∃g,(some ⟨g2,0,none⟩:Option Addr)=some ⟨g,0,none⟩∧LX w.heap.size g w4 y.s.A y.e.z.cal.az:=by
     intro y hy;rcases List.mem_append.1 hy with hy|hy
     ·obtain ⟨h1,b,off,b1,b2,b3,b4,b5⟩:=HM3.out y hy;exact ⟨h1,g2,rfl,b,off,b1,b2,dP b3 sU.size,b4,fun j hj=>(World.cell?_of_block (a:=⟨b,off+j,none⟩) (sU.block b b3 b4 (by omega))).trans (b5 j hj)⟩
     ·rw [List.mem_singleton.1 hy];obtain ⟨g4,cc4,e4,_⟩:=dE ho4 (by have:=JV.out.1.cal.mo.1;omega);injection e4 with e4 _ _;subst e4;exact ⟨⟨⟨rfl,rfl⟩,⟨rfl,rfl⟩,⟨rfl,rfl⟩⟩,g2,rfl,LX.eQ ho4 (by omega) (by omega)⟩
    have HR4:=ae hr4;have FC:=ae hP4;have He:=ae hO4;have Du:=ae hM4;have HE4:Hid ((ys++ [(⟨x,⟨A4,a4,none,0,none,0,none,0⟩⟩:dB)]).map (·.e)=zs.take (k+1)):=ae (by rw [List.map_append,JW.out,lh zs k x HX.out];rfl);clear hr4 sU ho4 hO4 hP4 hM4 hr3 hcz q1 q2 q3 q4 q5 q6 q7 hw3 hcp2 Ws hzz;go_wp2_with fail;go_roundw
    case rel=>exact ⟨k+1,some ⟨g2,0,none⟩,c2,_,by omega,by go_num,by rw [aZ,nI.out];rfl,HE4.out,HR4.out,FC.out,He.out,Du.out,fun h=>by omega⟩
    case measure=>simp [intOf];omega
  ·have hkn:k=n:=by omega
   have sW:=ae hkn;have hlt':¬(k:Int)<(n:Int):=by omega
   clear hkn hlt hcp;go_wp2_with fail
   go_end0
   refine ⟨rfl,A,c,ys,?_,?_,⟨?_,fun y hy=>?_,fun y hy=>(NV.out y hy).1,fun h=>?_⟩,?_⟩
   ·have h:=HR.out;rw [sW.out,List.drop_of_length_le (by rw [HN.out];exact Nat.le_refl _)] at h;exact h
   ·have h:=Eo.out
    rwa [sW.out] at h
   ·have h:=HO.out;rw [sW.out] at h;rw [nI.out,sW.out];exact h
   ·obtain ⟨_,g,_,h⟩:=NV.out y hy;exact h.li
   ·obtain ⟨h1,h2⟩:=HNL.out (nI.out.symm.trans h);have h0:n=0:=by have:=nI.out;have:=sW.out;omega
    rw [h1,h2,h0]
   ·rw [JW.out,sW.out,List.take_of_length_le (by rw [HN.out];exact Nat.le_refl _)]
end Go.Proofs.YtdibbemgpikgjaaGreatDoor
namespace Go.Proofs.YtdibbemgpikgjaaGreatDoor
open Go Go.RowKit
attribute [local go_sem] kQ kU kR kV oU oV kN kS kP kT
def bQ:Tb:=⟨0,0,0,aU,aU,[]⟩
theorem oI:Tryz.zeroCells37=ai bQ (.slice none 0 0):=by kernel_rfl
theorem xG (t:Tb) (v:Value) (n:Int):(ai t v).setIfInBounds 0 (I n)=ai {t with aP:=n} v:=by simp [ai,fF]
theorem vN (t:Tb) (v:Value) (n:Int):(ai t v).setIfInBounds 1 (I n)=ai {t with version:=n} v:=by simp [ai,fF]
theorem rZ (t:Tb) (v:Value) (n:Int):(ai t v).setIfInBounds 2 (I n)=ai {t with aC:=n} v:=by simp [ai,fF]
theorem CV (t:Tb) (v:Value) (xs:List UInt8) (h:t.prev.length=32) (hx:xs.length=32):putRow (ai t v) 4 (aj xs)=ai {t with prev:=xs} v:=by
 unfold putRow splice ai fF;have h1:(aj xs).length=32:=by simp [aj,hx]
 have h2:(aj t.prev).length=32:=by simp [aj,h]
 rw [h1];simp [h2]
def TWhR (M:Nat) (w:World) (rb tb:Nat) (t:Tb) (n:Nat) (R:List UInt8) (e:Ending) (w':World):Prop:=
 e= .returned (.tuple #[])∧∃A c ys,jV M w' rb R∧dU w rb tb 37 (ai {t with bn:=aU} (.slice A n c)) w'∧gJ w.heap.size w' (.slice A n c) ys∧ys.map (·.e)=t.aK
theorem Xw (M:Nat) (w:World) (rb tb n:Nat) (t:Tb) (R:List UInt8) (h:kJ t) (hn:t.aK.length=n) (hr:jV M w rb (eY t++R)) (hp:w.heap[tb]? =some (.cells (ai bQ (.slice none 0 0)) 37 (0,0))) (hM:M≤tb) (hne:tb≠rb):
  Calls Tryz.prog 30 #[.iface 134 (pt rb), .pointer (some ⟨tb,0,none⟩)] w (TWhR M w rb tb t n R):=by
 have hel:tb<w.heap.size:=(bT.1 hp).1;have hrw:=hr.lt;have hz:∀(u:Tb) (v:Value),u.prev.length=32→u.bn.length=32→(ai u v).size=68:=fun u v h1 h2=>bF u v h1 h2;have hr':jV M w.drew rb (le t.aP 1++(le t.version 1++(le t.aC 1++(t.prev++((le n 1++fZ t.aK)++R))))):=by
  have h:=hr.drew;unfold eY at h;rw [hn] at h;simpa only [List.append_assoc] using h
 have q1:=h.aP;have q2:=h.version;have q3:=h.aC;have hn2:n≤128:=by have:=h.num;omega
 have lV:=ae (iK M w.drew rb tb 0 1 37 _ t.aP t.aP _ hr' (by omega) (pX _ (by omega) (by omega) _) hp (by rw [hz _ _ rfl rfl];decide) hM hne);have HF:=ae h;have HZ:=ae hz;have HN:=ae hn;clear h hr hr' hp hz hn;unfold TWhR;go_enter Tryz.func30,Tryz.ntmps30;go_wp2_with fail;go_still_tail 7,(by kernel_rfl);go_wp2_with fail;refine lV.out.mono ?_;rintro e w1 ⟨rfl,hr1,hp1⟩;rw [xG] at hp1;have wY:=ae hp1.iV;have HC2:=ae (iK M w1.drew rb tb 1 1 37 _ t.version t.version _ hr1.drew (by omega) (pX _ (by omega) (by omega) _) hp1.tgt (by rw [HZ.out _ _ rfl rfl];decide) hM hne);clear hr1 hp1 lV;go_wp2_with fail;go_still_tail 7,(by kernel_rfl);go_wp2_with fail;refine HC2.out.mono ?_;rintro e w2 ⟨rfl,hr2,hp2⟩;rw [vN] at hp2;have HP2:=ae (wY.out.trans hp2.iV);have sG:=ae (iK M w2.drew rb tb 2 1 37 _ t.aC t.aC _ hr2.drew (by omega) (pX _ (by omega) (by omega) _) hp2.tgt (by rw [HZ.out _ _ rfl rfl];decide) hM hne);clear hr2 hp2 HC2;go_wp2_with fail;go_still_tail 7,(by kernel_rfl);go_wp2_with fail;refine sG.out.mono ?_;rintro e w3 ⟨rfl,hr3,hp3⟩;rw [rZ] at hp3;have rq:=ae (HP2.out.trans hp3.iV);have sQ:=ae (zq M w3.drew rb tb 4 37 _ t.prev _ hr3.drew HF.out.prev hp3.tgt (by rw [HZ.out _ _ rfl rfl];decide) hM hne);clear hr3 hp3 sG;go_wp2_with fail;go_still_tail 7,(by kernel_rfl);go_wp2_with fail;refine sQ.out.mono ?_;rintro e w4 ⟨rfl,hr4,sU⟩;rw [CV _ _ _ rfl HF.out.prev] at sU;have FC:=ae (rq.out.trans sU.iV);have zY:=ae (Ur M w4 rb tb 3 n 37 _ t.aK R HN.out hn2 (fun x hx=>⟨HF.out.flat x hx,HF.out.short x hx⟩) hr4 sU.tgt (bD _ _) hM hne);clear hr4 sU sQ;go_wp2_with fail;refine zY.out.mono ?_;rintro e w5 ⟨rfl,A,c,ys,uH,J5,ho5,he5⟩;rw [nD] at J5;have uO:=ae uH;have QK:=ae (FC.out.trans J5);have pR:=ae (ho5.lower FC.out.size);have HE5:=ae he5;clear uH J5 ho5 he5 zY;go_wp2_with fail
 go_end0
 exact ⟨rfl,A,c,ys,uO.out,QK.out,pR.out,HE5.out⟩
end Go.Proofs.YtdibbemgpikgjaaGreatDoor
namespace Go.Proofs.YtdibbemgpikgjaaGreatDoor
open Go Go.RowKit
def Qi (bs:List UInt8):ByteArray:=⟨bs.toArray⟩
theorem zi (xs:List UInt8):(Qi xs).toList=xs:=by rw [Lib.toList_data];rfl
theorem BL (A:Option Addr) (bs:List UInt8) (c:Nat) (w:World) (B:Nat) (h:BytesAt w B A bs):
  (convert 32 9 (.slice A bs.length c)).run Tryz.prog w= .ok (.string (Qi bs)) w:=by
 have e:Qi bs=strOfNums (bs.map fun x=>(x.toNat:Int)):=by
  unfold Qi strOfNums;congr 1;rw [List.map_map];congr 1;rw [show ((fun n:Int=>UInt8.ofNat n.toNat) ∘ fun x:UInt8=>(x.toNat:Int))=id from by funext x;simp];simp
 rcases h with h|⟨b,off,rfl,_,hc⟩
 ·obtain rfl:=List.eq_nil_of_length_eq_zero h;exact run_convert_bytes_zero w _ _ Tryz.underlying32 Tryz.underlying5 A c _ Tryz.underlying9
 ·rw [e];refine run_convert_bytes_arg w _ _ Tryz.underlying32 Tryz.underlying5 b off bs.length c _ (by simp) (fun i hi=>?_) _ Tryz.underlying9;rw [hc i hi];simp [List.getD,hi,Extern.Stop.cell]
theorem BF (w:World) (A A':Option Addr) (xs ys:List UInt8) (c d B B':Nat) (h1:BytesAt w B A xs) (h2:BytesAt w B' A' ys):
  Calls Tryz.prog 36 #[.slice A xs.length c, .slice A' ys.length d] w fun e w'=>e= .returned (.bool (xs==ys))∧w'=w:=by
 have e1:=BL A xs c w B h1;have e2:=BL A' ys d w B' h2;clear h1 h2;go_enter Tryz.func36,Tryz.ntmps36
 go_wp2
 go_ret;exact ⟨by show Ending.returned (.bool ((Qi xs).toList==(Qi ys).toList))=_;rw [zi,zi],rfl⟩
theorem qQ {P:Program} {fn:Func} {p q:Tmp} {t1 t2:TypeId} (h:fn.results= #[.cell p t1, .cell q t2]) (tmps:Array Value) (w:World) (g g2:Nat) (t:TypeId) (cs:Array Value) (fr:Nat×Nat) (d:TypeDesc) (v:Value)
  (hp:tmps.getD p undef= .pointer (some ⟨g,0,none⟩)) (hg:w.heap[g]? =some (.cells cs t fr)) (hu:P.underlying t1=some d) (hd:(match d with| .struct _| .array _ _=>true|_=>false)=true) (hi:(P.info? t1).map (·.size)=some cs.size)
  (hq:tmps.getD q undef= .pointer (some ⟨g2,0,none⟩)) (hv:(loadVar t2 ⟨g2,0,none⟩).run P w= .ok v w):
  (results fn tmps).run P w= .ok (.tuple #[.agg cs,v]) w:=by
 have hp':tmps[p]?.getD undef= .pointer (some ⟨g,0,none⟩):=by simpa using hp
 have hq':tmps[q]?.getD undef= .pointer (some ⟨g2,0,none⟩):=by simpa using hq
 simp [results,h,hp',hq',asAddr,run_loadVar_row w g t t1 cs fr d hg hu hd hi,hv]
theorem Ju (p:Addr) (w:World):
  CallsD Tryz.prog 56 #[.pointer (some p)] .returning w fun e u' w'=>e= .returned (.tuple #[])∧u'= .returning∧w'=w:=by
 have hnn:∀w,(binOp .neq 20 .nilIface .nilIface).run Tryz.prog w= .ok (.bool false) w:=fun w=>Lib.run_neq_nil_nil w Tryz.underlying20;refine callsD_of_wpS Tryz.func56 rfl fun c₀ cs hu=>?_;apply wpS_seq;apply wpS_region;simp [wpOpsS,go_sem,recoverD,hu,Tryz.ntmps56,Exit.thenS];apply wpS_seq;apply wpS_region;simp [wpOpsS,go_sem,hnn,Exit.thenS];refine wpS_cond (t:=false) (by simp [Act.eval,Array.replicate]) ?_;simp only [Bool.false_eq_true,if_false];refine wpS_of_wp (wp_skip ?_);cases c₀
 simp_all [bodyPostS,results,Tryz.results56]
section
variable {P:Program} {ops:Array Oper} {Q:Exit→Act→World→Prop} {md:Region.Mode} {S:World→Prop} {i:Nat} {oi:Oper} {v:Value} {fuel:Nat} {listed:Array Bool} {a:Act} {w:World}
theorem XC (d:Option Tmp) (hi:ops[i]? =some oi) (hd:oi.dst=d)
  (hs:Region.noSelect ops=true) (hf:Region.free md ops listed i=true) (hr:(Region.ready md ops listed).contains i=true)
  (hQ:∀c a w,Q (.panic c) (a.put d v) w→Q (.panic c) a w) (hy:YieldsIf P ops S oi v a) (hS:S w)
  (h:wpAnyH P md ops Q S fuel (listed.setIfInBounds i true) (a.put d v) w):wpAnyH P md ops Q S (fuel+1) listed a w:=by
 subst hd;exact wpAnyH_take hi hs hf hr hQ hy hS h
theorem zU (hr:Region.ready md ops listed= [i]) (ho:ops[i]? =some oi) (hw:Region.wanted oi (yielded ops a.tmps)=true) (ty:TypeId) (x y:Operand) (hop:oi.op= .store ty x y) (hd:oi.dst=none)
  (g:Nat) (cells:Array Value) (hx:a.eval x= .pointer (some ⟨g,0,none⟩)) (hy:a.eval y= .agg cells) (t:TypeId) (old:Array Value) (hg:w.heap[g]? =some (.cells old t (0,0))) (hi:(P.info? ty).map (·.size)=some cells.size) (hold:old.size=cells.size) (h1:cells.all (·.oneCell')=true)
  (hS:S (w.setRow g cells)) (h:S (w.setRow g cells)→wpAnyH P md ops Q S fuel (listed.setIfInBounds i true) a (w.setRow g cells)):wpAnyH P md ops Q S (fuel+1) listed a w:=by
 refine wpAnyH_ready (rs:= [i]) hr (by simp) ?_;refine AllReadyH.cons ho (fun K hK=>?_) AllReadyH.nil;rw [if_pos hw];refine wp_store_row ty x y hop g cells hx hy t old hg hi hold h1 ?_;rw [hd];exact hK.out a _ hS h
end
theorem dU.grown {M:Nat} {w0 w w':World} {rb pb:Nat} {t:TypeId} {cs:Array Value} (h:dU w rb pb t cs w') (hb:Below M w0 w) (h1:M≤pb) (h2:M≤rb) (hp:pb<w.heap.size):Below M w0 w':=
 hb.trans ⟨h.os,h.tape,h.output,h.size,fun k hk=>h.block k (by omega) (by omega) (by omega)⟩
def TrdR (w:World) (t:Tb) (n:Nat) (e:Ending) (w':World):Prop:=
 ∃A c ys,e= .returned (.tuple #[.agg (ai {t with bn:=aU} (.slice A n c)), .bool true])∧gJ w.heap.size w' (.slice A n c) ys∧ys.map (·.e)=t.aK∧Below w.heap.size w w'
theorem MW (w:World) (t:Tb) (n N b off c:Nat) (h:kJ t) (hn:t.aK.length=n) (hN:(eY t).length=N) (hbl:b<w.heap.size) (hc1:N≤c) (hc2:c≤9223372036854775807)
  (hA:∀j,j<N→w.cell? ⟨b,off+j,none⟩=some (Extern.Stop.cell ((eY t)[j]?.getD 0))):
  Calls Tryz.prog 35 #[.slice (some ⟨b,off,none⟩) N c] w (TrdR w t n):=by
 have hmf:∀(fn:Fn) (first cap:Array Value) (w:World),(Instr.makeFunc fn first cap).run Tryz.prog w= .ok (.func fn first cap) w:=fun _ _ _ _=>rfl;have HF:=ae h;have dR:Hid (∀v,(Tryz.prog.info? 37).map (·.size)=some (ai {t with bn:=aU} v).size):=ae fun v=>bU _ v h.prev rfl;have HN:=ae hn;have Dv:=ae hN;obtain ⟨W,hW⟩:∃W,((w.alloc (.cells (ai bQ (.slice none 0 0)) 37)).alloc (.cells #[.bool false] 4)).alloc (.cells #[.slice (some ⟨b,off,none⟩) N c] 135)=W:=⟨_,rfl⟩;have hB:Below w.heap.size w W:=by rw [←hW];exact (((Below.refl _ w).alloc (Nat.le_refl _) _).alloc (by simp) _).alloc (by simp;omega) _
 have hs:W.heap.size=w.heap.size+3:=by rw [←hW];simp
 have ht:W.heap[w.heap.size]? =some (.cells (ai bQ (.slice none 0 0)) 37 (0,0)):=by rw [←hW];exact (Below.heap_alloc _ _ _ (by simp;omega)).trans (heap_alloc2_old w _ _)
 have ho:W.heap[w.heap.size+1]? =some (.cells #[.bool false] 4 (0,0)):=by rw [←hW];exact (Below.heap_alloc _ _ _ (by simp)).trans (heap_alloc2_new w _ _)
 have hr:jV w.heap.size W (w.heap.size+2) (eY t++ []):=by
  rw [List.append_nil];refine ⟨⟨b,off,c,?_,by rw [hN];exact hc1,hc2,hbl,fun j hj=>(hB.cell (p:=⟨b,off+j,none⟩) hbl).trans (hA j (by omega))⟩,by omega⟩;rw [←hW,hN];have:=heap_alloc_last ((w.alloc (.cells (ai bQ (.slice none 0 0)) 37)).alloc (.cells #[.bool false] 4)) (.cells #[.slice (some ⟨b,off,none⟩) N c] 135);simpa using this
 have HB:=ae hB;have HS:=ae hs;have HO:=ae ho;have HC:=ae (Xw w.heap.size W (w.heap.size+2) w.heap.size n t [] h hn hr ht (Nat.le_refl _) (by omega));clear h hn hN hA hB hs ht ho hr
 go_enter_defers Tryz.func35,Tryz.ntmps35
 go_wp2_with fail;rw [oI,hW];refine HC.out.mono ?_;rintro e w2 ⟨rfl,A,cz,ys,hr2,hp2,hz2,he2⟩;have hs0:=HS.out;have ho2:w2.heap[w.heap.size+1]? =some (.cells #[.bool false] 4 (0,0)):=(hp2.block _ (by omega) (by omega) (by omega)).trans HO.out;have HB2:=ae (hp2.grown HB.out (Nat.le_refl _) (by omega) (by omega));have HV:=ae hp2.tgt;have HZ2:=ae (hz2.lower (lo':=w.heap.size+3) (by omega));have HRW:=ae (Row.jm hp2.tgt);have pI:=ae ho2;have HE2:=ae he2;have hlt2:w.heap.size+3≤w2.heap.size:=by have:=hp2.size;omega
 obtain ⟨bb,o2,c2,hq,_⟩:=hr2.at_;have hc2:w2.cell? ⟨w.heap.size+1+1,0,none⟩=some (.slice (some ⟨bb,o2,none⟩) 0 c2):=cell_of_row w2 (w.heap.size+2) 0 _ _ _ hq;clear hr2 hp2 hz2 he2 ho2 hW HC hq HO HB HS;go_wp2_with fail;refine wp_region_noPanic ?_;refine wp_region_held_drew (S:=fun W=>Row W w.heap.size (ai {t with bn:=aU} (.slice A n cz))∧W.cell? ⟨w.heap.size+1+1,0,none⟩=some (.slice (some ⟨bb,o2,none⟩) 0 c2)) (by kernel_rfl) ⟨⟨HRW.out.1,HRW.out.2⟩,hc2⟩ (fun hH=>?_);refine gI 0 _ 12 rfl rfl hH (yieldsIf_load_mid (by rfl) _ _ rfl w.heap.size 0 rfl (ai {t with bn:=aU} (.slice A n cz)).toList _ (fun W hW j v hv=>by rw [Nat.zero_add,hW.1.2 j];simpa using hv) Tryz.underlying37 rfl (by rw [dR.out,Array.length_toList])) ?_;refine ax ?_;refine fC 1 (pt (w.heap.size+1+1)) 13 rfl rfl hH (fun W hW=>by obtain ⟨_,hW2⟩:=hW;go_simp) ?_;refine ax ?_;refine fC 2 (pt (w.heap.size+1+1)) 14 rfl rfl hH (fun W hW=>by obtain ⟨_,hW2⟩:=hW;go_simp) ?_;refine ax ?_;refine fC 3 (pt (w.heap.size+1+1)) 15 rfl rfl hH (fun W hW=>by obtain ⟨_,hW2⟩:=hW;go_simp) ?_;refine ax ?_;refine fC 4 (.slice (some ⟨bb,o2,none⟩) 0 c2) 16 rfl rfl hH (fun W hW=>by obtain ⟨_,hW2⟩:=hW;go_simp) ?_;refine ax ?_;refine fC 5 (I 0) 17 rfl rfl hH (fun W hW=>by obtain ⟨_,hW2⟩:=hW;go_simp) ?_;refine ax ?_;refine fC 6 (.bool true) 18 rfl rfl hH (fun W hW=>by obtain ⟨_,hW2⟩:=hW;go_simp) ?_;refine ax ?_;have hv2:w2.drew.heap[w.heap.size]? =some (.cells (ai {t with bn:=aU} (.slice A n cz)) 37 (0,0)):=HV.out;have HW3:Hid ((w2.drew.setRow w.heap.size (ai {t with bn:=aU} (.slice A n cz))).heap[w.heap.size]? =some (.cells (ai {t with bn:=aU} (.slice A n cz)) 37 (0,0))):=ae (setRow_heap _ _ _ _ _ _ hv2);have mV:Hid (∀k,k≠w.heap.size→(w2.drew.setRow w.heap.size (ai {t with bn:=aU} (.slice A n cz))).heap[k]? =w2.heap[k]?):=ae fun k hk=>setRow_other _ _ k _ hk;have X9:Hid ((w2.drew.setRow w.heap.size (ai {t with bn:=aU} (.slice A n cz))).heap.size=w2.heap.size):=ae (by show (w2.setRow w.heap.size _).heap.size=_;simp [World.setRow]);have HD3:Hid ((w2.drew.setRow w.heap.size (ai {t with bn:=aU} (.slice A n cz))).os=w2.os∧(w2.drew.setRow w.heap.size (ai {t with bn:=aU} (.slice A n cz))).tape=w2.tape∧(w2.drew.setRow w.heap.size (ai {t with bn:=aU} (.slice A n cz))).output=w2.output):=ae ⟨rfl,rfl,rfl⟩;have hc3:(w2.drew.setRow w.heap.size (ai {t with bn:=aU} (.slice A n cz))).cell? ⟨w.heap.size+1+1,0,none⟩=some (.slice (some ⟨bb,o2,none⟩) 0 c2):=(World.cell?_of_block (a:=⟨w.heap.size+1+1,0,none⟩) (mV.out _ (by show w.heap.size+1+1≠w.heap.size;omega))).trans hc2;refine zU (i:=7) (by kernel_rfl) rfl (by rfl) _ _ _ rfl rfl w.heap.size (ai {t with bn:=aU} (.slice A n cz)) rfl rfl 37 (ai {t with bn:=aU} (.slice A n cz)) hv2 (dR.out _) rfl (bz _ _ _ _) ⟨Row.jm HW3.out,hc3⟩ (fun hH3=>?_);clear hH hH3;generalize w2.drew.setRow w.heap.size (ai {t with bn:=aU} (.slice A n cz))=w3 at HW3 mV X9 HD3 hc3 ⊢;have ho3:w3.heap[w.heap.size+1]? =some (.cells #[.bool false] 4 (0,0)):=(mV.out _ (by omega)).trans pI.out;have hcc:=cell_of_row _ (w.heap.size+1) 0 _ _ _ ho3;have hfc:=frozen_of_row _ (w.heap.size+1) 0 _ _ ho3;have vg:=ae ho3;have hS4:Row (w3.setCell ⟨w.heap.size+1,0,none⟩ (.bool true)) w.heap.size (ai {t with bn:=aU} (.slice A n cz))∧(w3.setCell ⟨w.heap.size+1,0,none⟩ (.bool true)).cell? ⟨w.heap.size+1+1,0,none⟩=some (.slice (some ⟨bb,o2,none⟩) 0 c2):=
  ⟨Row.jm ((heap_setCell_other w3 _ w.heap.size _ (by show w.heap.size≠w.heap.size+1;omega)).trans HW3.out),(World.cell?_of_block (a:=⟨w.heap.size+1+1,0,none⟩) (heap_setCell_other w3 _ _ _ (by show w.heap.size+1+1≠w.heap.size+1;omega))).trans hc3⟩
 have Ad:=ae hS4;clear hv2 ho3 hS4;refine aW 8 (fun K hK=>?_);go_simp;refine hK.out _ _ Ad.out (fun hH4=>?_);refine wpAnyH_done (by kernel_rfl) ?_ _;refine NoPanic.normal ?_;clear hK K hH4;go_wp2_with fail;refine leaves_cons (f:=56) (args:= #[.pointer (some ⟨w.heap.size+1,0,none⟩)]) (by simp) (by simp [go_sem]) ?_;refine (Ju _ _).mono ?_;rintro e u' U8 ⟨rfl,rfl,rfl⟩;have hbl:∀k,k≠w.heap.size→k≠w.heap.size+1→(w3.setCell ⟨w.heap.size+1,0,none⟩ (.bool true)).heap[k]? =w2.heap[k]? :=fun k h1 h2=>
  (heap_setCell_other _ _ k _ h2).trans (mV.out k h1)
 have hsz:(w3.setCell ⟨w.heap.size+1,0,none⟩ (.bool true)).heap.size=w2.heap.size:=by rw [←X9.out];simp [World.setCell]
 have hv4:(w3.setCell ⟨w.heap.size+1,0,none⟩ (.bool true)).heap[w.heap.size]? =some (.cells (ai {t with bn:=aU} (.slice A n cz)) 37 (0,0)):=(heap_setCell_other w3 ⟨w.heap.size+1,0,none⟩ w.heap.size _ (by show w.heap.size≠w.heap.size+1;omega)).trans HW3.out;have hc4:=cell_of_row _ (w.heap.size+1) 0 _ _ _ (heap_setCell_same _ (w.heap.size+1) 0 _ _ (.bool true) vg.out);refine ⟨_,qQ rfl _ _ w.heap.size (w.heap.size+1) _ (ai {t with bn:=aU} (.slice A n cz)) (0,0) _ (.bool true) rfl hv4 Tryz.underlying37 rfl (dR.out _) rfl (iU _ _ _ hc4),A,cz,ys,rfl,?_,HE2.out,?_⟩
 ·exact (HZ2.out.aS (Nat.le_of_eq hsz.symm) fun k h1 h2=>hbl k (by omega) (by omega)).lower (by omega)
 ·exact HB2.out.trans ⟨HD3.out.1,HD3.out.2.1,HD3.out.2.2,Nat.le_of_eq hsz.symm,fun k hk=>hbl k (by omega) (by omega)⟩
def ZZ (w:World) (t:Tb) (n:Nat) (e:Ending) (w':World):Prop:=
 ∃A c ys,e= .returned (.tuple #[.agg (ai {t with bn:=aU} (.slice A n c)),I 0])∧gJ w.heap.size w' (.slice A n c) ys∧ys.map (·.e)=t.aK∧Below w.heap.size w w'
theorem kJ.mac0 {t:Tb} (h:kJ t):kJ {t with bn:=aU}:=⟨h.aP,h.version,h.aC,h.prev,rfl,h.first,h.num,h.flat,h.short⟩
theorem CQ (w:World) (t:Tb) (n N b off c:Nat) (h:kJ t) (hn:t.aK.length=n) (hN:(eY t).length=N) (hup:∀ys:List dB,ys.map (·.e)=t.aK→jv ys) (hbl:b<w.heap.size) (hc1:N≤c) (hc2:c≤9223372036854775807)
  (hA:∀j,j<N→w.cell? ⟨b,off+j,none⟩=some (Extern.Stop.cell ((eY t)[j]?.getD 0))):
  Calls Tryz.prog 20 #[.slice (some ⟨b,off,none⟩) N c] w (ZZ w t n):=by
 have HF:=ae h.mac0;have dR:Hid (∀v,(Tryz.prog.info? 37).map (·.size)=some (ai {t with bn:=aU} v).size):=ae fun v=>bU _ v h.prev rfl;have uP:Hid (∀v,(ai bQ (.slice none 0 0)).size=(ai {t with bn:=aU} v).size):=ae fun v=>by exact (bF bQ _ rfl rfl).trans (bF {t with bn:=aU} v h.prev rfl).symm
 have HN:=ae hn;have Dv:=ae hN;have NT:=ae hup;obtain ⟨W,hW⟩:∃W,w.alloc (.cells (ai bQ (.slice none 0 0)) 37)=W:=⟨_,rfl⟩;have hB:Below w.heap.size w W:=by rw [←hW];exact (Below.refl _ w).alloc (Nat.le_refl _) _
 have hs:W.heap.size=w.heap.size+1:=by rw [←hW];simp
 have ht:W.heap[w.heap.size]? =some (.cells (ai bQ (.slice none 0 0)) 37 (0,0)):=by rw [←hW];exact heap_alloc_last w _
 have HA:=ae hA;have HB:=ae hB;have HS:=ae hs;have HT:=ae ht;have HC:=ae (MW W t n N b off c h hn hN (by omega) hc1 hc2 fun j hj=>(hB.cell (p:=⟨b,off+j,none⟩) hbl).trans (hA j hj));have uZ:Hid (eY {t with bn:=aU}=eY t):=ae rfl;clear h hn hN hA hB hs ht hup;go_enter Tryz.func20,Tryz.ntmps20;go_wp2_with fail;rw [oI,hW];refine HC.out.mono ?_;rintro e w2 ⟨A,c2,ys,rfl,hz2,he2,hb2⟩;have hs0:=HS.out;have HZ2:=ae hz2;have HE2:=ae he2;have pG:=ae (ah HB.out hb2);have HT2:Hid (w2.heap[w.heap.size]? =some (.cells (ai bQ (.slice none 0 0)) 37 (0,0))):=ae ((hb2.block _ (by omega)).trans HT.out);have hl2:w.heap.size+1≤w2.heap.size:=by have:=hb2.size;omega
 clear hz2 he2 hb2 hW HC HB HS HT;go_wp2_with (first
  |(with_reducible refine bC 37 ?_;refine dw rfl _ rfl (ai bQ (.slice none 0 0)) oI ?_)
  |(with_reducible refine cZ 37 ?_;refine fG rfl _ _ _ rfl (ai {t with bn:=aU} (.slice A n c2)) rfl rfl 37 (ai bQ (.slice none 0 0)) rfl (dR.out _) (uP.out _) (bz _ _ _ _) ?_;intro W3 hb3 hl3 hr3;have HB3:=ae hb3;have HR3:=ae hr3;have HZ3:=ae (HZ2.out.below hb3);clear hb3 hr3)
  |(with_reducible refine dN 37 ?_;refine aY rfl _ _ rfl w2.heap.size rfl (ai {t with bn:=aU} (.slice A n c2)) HR3.out _ Tryz.underlying37 rfl (dR.out _) ?_))
 refine (rY {t with bn:=aU} A n c2 W.heap.size ys W3 HF.out HE2.out.symm (by rw [←HN.out,←HE2.out,List.length_map]) HZ3.out (NT.out ys HE2.out)).mono ?_;rintro e w4 ⟨⟨g4,c4,rfl,ho4⟩,hb4⟩;rw [uZ.out,Dv.out] at ho4 ⊢;have hb3w:=pG.out.trans (HB3.out.mono (by omega));have hb4w:=hb3w.trans (hb4.mono (by omega));have HB4:=ae hb4w;have HR4:Hid (Row w4 w2.heap.size (ai {t with bn:=aU} (.slice A n c2))):=ae (HR3.out.keep hb4);have KH:Hid (gJ W.heap.size w4 (.slice A n c2) ys):=ae (HZ3.out.below hb4);have HT4:Hid (w4.heap[w.heap.size]? =some (.cells (ai bQ (.slice none 0 0)) 37 (0,0))):=ae ((hb4.block _ (by omega)).trans ((HB3.out.block _ (by omega)).trans HT2.out));have h1:BytesAt w4 w4.heap.size (some ⟨g4,0,none⟩) (eY t):=by
  obtain ⟨A',c',hv,_,_,_,hy⟩:=Iy (bs:=eY t) (by rw [Dv.out];exact ho4);injection hv with e1 e2 e3;subst e1;exact hy
 have h2:BytesAt w4 w.heap.size (some ⟨b,off,none⟩) (eY t):= .inr ⟨b,off,rfl,hbl,fun j hj=>(hb4w.cell (p:=⟨b,off+j,none⟩) hbl).trans (HA.out j (by have:=Dv.out;omega))⟩;have HEQ:Hid (Calls Tryz.prog 36 #[.slice (some ⟨g4,0,none⟩) N c4, .slice (some ⟨b,off,none⟩) N c] w4 fun e w'=>e= .returned (.bool true)∧w'=w4):=ae (by
  have h:=BF w4 (some ⟨g4,0,none⟩) (some ⟨b,off,none⟩) (eY t) (eY t) c4 c _ _ h1 h2;rw [Dv.out] at h;simpa using h)
 clear ho4 hb4 hb3w hb4w h1 h2 HB3 HR3 HZ3 HT2 HZ2 pG;go_wp2_with fail;refine HEQ.out.mono ?_;rintro e w5 ⟨rfl,rfl⟩;go_wp2_with (first
  |(with_reducible refine dN 37 ?_;refine aY rfl _ _ rfl w2.heap.size rfl (ai {t with bn:=aU} (.slice A n c2)) HR4.out _ Tryz.underlying37 rfl (dR.out _) ?_)
  |(with_reducible refine cZ 37 ?_;refine wpList_store_row rfl _ _ _ rfl w.heap.size (ai {t with bn:=aU} (.slice A n c2)) rfl rfl 37 (ai bQ (.slice none 0 0)) HT4.out (dR.out _) (uP.out _) (bz _ _ _ _) ?_))
 refine bodyPost_ret (v:= .tuple #[.agg (ai {t with bn:=aU} (.slice A n c2)),I 0]) (bK rfl _ _ w.heap.size _ (ai {t with bn:=aU} (.slice A n c2)) (0,0) _ rfl (setRow_heap _ _ _ _ _ _ HT4.out) Tryz.underlying37 rfl (dR.out _) _ rfl) rfl ?_;refine ⟨A,c2,ys,rfl,(KH.out.aS ?_ fun k h1 h2=>setRow_other _ _ k _ (by omega)).lower (by omega),HE2.out,below_setRow HB4.out (Nat.le_refl _) _⟩;simp [World.setRow]
theorem Xf (x k s:Int) (w:World) (hk:bits BinOp.and IntKind.u64 (IntKind.u64.wrap k) 31=s) (h0:0≤s) (h1:s≤31):
  Calls Tryz.prog 75 #[.int .u32 x,I k] w fun e w'=>e= .returned (.int .u32 (kX x s))∧w'=w:=by
 have hd:IntKind.u64.wrap (32 - s)=32 - s:=by rw [IntKind.wrap_u64];omega
 go_enter Tryz.func75,Tryz.ntmps75;go_wp2_with fail;go_ret;exact ⟨rfl,rfl⟩
def amt (k:Int):Int:=bits BinOp.and IntKind.u64 (IntKind.u64.wrap k) 31
theorem MI (x k:Int) (w:World) (h:(decide (0≤amt k)&&decide (amt k≤31))=true):
  Calls Tryz.prog 75 #[.int .u32 x,I k] w fun e w'=>e= .returned (.int .u32 (kX x (amt k)))∧w'=w:=by
 rw [Bool.and_eq_true,decide_eq_true_eq,decide_eq_true_eq] at h;exact Xf x k (amt k) w rfl h.1 h.2
end Go.Proofs.YtdibbemgpikgjaaGreatDoor
