/- The texts TrZ, TrW, BEq, TrR, TrS, DgR, in this order. -/
import Derived.Test.YtdibbemgpikgjaaGreatDoorV00
import Derived.Test.YtdibbemgpikgjaaGreatDoorVA0
import Derived.Defers
import Derived.Recover
import Derived.Test.YtdibbemgpikgjaaGreatDoorV01
import Derived.Test.YtdibbemgpikgjaaGreatDoorV05
import Derived.Test.YtdibbemgpikgjaaGreatDoorV14
import Derived.Test.YtdibbemgpikgjaaGreatDoorV23
import Derived.Test.YtdibbemgpikgjaaGreatDoorV25
namespace Go.Proofs.YtdibbemgpikgjaaGreatDoor
open Go Go.RowKit
attribute [local go_sem] jZ kD ku kF nT nV jX kz jY kC
theorem tC (ls bs:List Value) (j:Nat) (v:Value) (hj:j<bs.length):(ls++bs).set (ls.length+j) v=ls++bs.set j v:=by
 have h:=set_mid ls bs [] j v hj
 rw [List.append_nil,List.append_nil] at h
 exact h
def MW (xs:List Value) (eo:Nat) (e:Ze) (A:Option Addr) (a:Nat):List Value:=
 (((((xs.set eo (.string e.name)).set (eo+1) (I e.z.cal.aK)).set (eo+1+1) (.slice A e.z.cal.au.length a)).set (eo+1+2) (I (-1))).set (eo+1+4) (I e.z.start)).set (eo+1+6) (I e.z.hor)
theorem MX (cs:Array Value) (eo m:Nat) (e:Ze) (A:Option Addr) (a:Nat):(su cs eo e A a).toList.take m=MW (cs.toList.take m) eo e A a:=by
 unfold su MW
 simp only [Array.toList_setIfInBounds,List.take_set]
theorem PK (ys:List cZ) (x:Ze) (hx:fP x.z) (A:Option Addr) (a:Nat):MW (aQ ys++iV.toList) (ys.length*9) x A a=aQ (ys++ [⟨x,⟨A,a,none,0,none,0,none,0⟩⟩]):=by
 rw [H8]
 unfold MW
 rw [←dO]
 have h9:iV.toList.length=9:=rfl
 have e0:(aQ ys).length=(aQ ys).length+0:=rfl
 rw [e0,tC _ _ 0 _ (by omega),Nat.add_zero,tC _ _ 1 _ (by simp [h9])]
 rw [show (aQ ys).length+1+1=(aQ ys).length+2 from rfl,tC _ _ 2 _ (by simp [h9])]
 rw [show (aQ ys).length+1+2=(aQ ys).length+3 from rfl,tC _ _ 3 _ (by simp [h9])]
 rw [show (aQ ys).length+1+4=(aQ ys).length+5 from rfl,tC _ _ 5 _ (by simp [h9])]
 rw [show (aQ ys).length+1+6=(aQ ys).length+7 from rfl,tC _ _ 7 _ (by simp [h9])]
 congr 1
 unfold aQ cZ.cells iV
 simp [hx.cal.le,hx.cal.ru,hx.trans,hx.aB]
theorem Uc {W W':World} {lo g n m cap rb eo:Nat} {xs:List Value} {e:Ze} {A:Option Addr} {a:Nat} {cur:Array Value} (h:W.ownsRow lo 90 9 (.slice (some ⟨g,0,none⟩) n cap) m xs) (hg:W.heap[g]? =some (.cells cur 90 (0,0))) (hp:dH W rb g 90 (su cur eo e A a) W'):
  W'.ownsRow lo 90 9 (.slice (some ⟨g,0,none⟩) n cap) m (MW xs eo e A a):=by
 obtain ⟨cur',h1,h2,h3,h4,h5,h6,h7,rfl⟩:=ni h
 rw [hg] at h1
 injection h1 with h1
 injection h1 with h1
 subst h1
 refine JM hp.tgt h2 h3 h4 ?_ (by rw [MX,h6]) (by unfold MW;simp only [List.length_set];exact h7)
 unfold su
 simp only [Array.size_setIfInBounds]
 exact h5
def RzRel (M:Nat) (w:World) (rb pb po:Nat) (t:TypeId) (cs:Array Value) (n:Nat) (zs:List Ze) (R:List UInt8) (i:Value) (wr:World):Prop:=
 ∃(k:Nat) (A:Option Addr) (c:Nat) (ys:List cZ),k≤n∧i= .int .i64 k∧ys.length=k∧ys.map (·.e)=zs.take k∧jC M wr rb (eU (zs.drop k)++R)∧dH w rb pb t (cs.setIfInBounds po (.slice A k c)) wr∧
  wr.ownsRow w.heap.size 90 9 (.slice A k c) k (aQ ys)∧(∀y∈ys,xI y.s∧∃g,A=some ⟨g,0,none⟩∧LX w.heap.size g wr y.s.A y.e.z.cal.au)∧(k=0→A=none∧c=0)
def TZeR (M:Nat) (w:World) (rb pb po:Nat) (t:TypeId) (cs:Array Value) (zs:List Ze) (n:Nat) (R:List UInt8) (e:Ending) (w':World):Prop:=
 e= .returned (.tuple #[])∧∃A c ys,jC M w' rb R∧dH w rb pb t (cs.setIfInBounds po (.slice A n c)) w'∧fK w.heap.size w' (.slice A n c) ys∧ys.map (·.e)=zs
set_option maxRecDepth 10000 in
set_option maxHeartbeats 4000000 in
theorem QS (M:Nat) (w:World) (rb pb po n:Nat) (t:TypeId) (cs:Array Value) (zs:List Ze) (R:List UInt8) (hn:zs.length=n) (hn2:n≤128) (hfl:∀x∈zs,fP x.z∧x.name.size≤32) (hr:jC M w rb ((le n 1++eU zs)++R)) (hp:w.heap[pb]? =some (.cells cs t (0,0))) (hpo:cs[po]? =some (.slice none 0 0)) (Df:M≤pb) (hne:pb≠rb):
  Calls Tryz.prog 48 #[.iface 134 (pt rb), .pointer (some ⟨pb,po,none⟩),I 1, .func (.func 49) #[] #[]] w (TZeR M w rb pb po t cs zs n R):=by
 rw [List.append_assoc] at hr
 have hpl:pb<w.heap.size:=(Array.getElem?_eq_some_iff.1 hp).1
 have hlo:=hr.lo
 have hrl:=hr.lt
 have hcs:cs.setIfInBounds po (.slice none 0 0)=cs:=by
  apply Array.ext_getElem?
  intro i
  rw [Array.getElem?_setIfInBounds]
  split
  ·rename_i e;subst e
   split
   ·exact hpo.symm
   ·rename_i e2;rw [Array.getElem?_eq_none (by omega)] at hpo;cases hpo
  ·rfl
 have hc0:w.cell? ⟨pb,po,none⟩=some (.slice none 0 0):=(cell_of_row w pb po _ _ _ hp).trans hpo
 have hpos:po<cs.size:=(Array.getElem?_eq_some_iff.1 hpo).1
 have HC:=ae (jk M w.drew rb 1 0 n n (eU zs++R) hr.drew (by omega) (oO _ (by omega) (by omega) _))
 have HP:Hid (dH w rb pb t (cs.setIfInBounds po (.slice none 0 0)) w):=ae (by rw [hcs];exact dH.refl hp)
 have HN:=ae hn
 have HF:=ae hfl
 clear hr hp hpo hcs hn hfl
 obtain ⟨i0,hi,hz0,hz1,hz2⟩:=info_parts vK
 go_enter Tryz.func48,Tryz.ntmps48
 go_wp2_with fail
 go_still_tail 9,(by kernel_rfl)
 go_wp2_with fail
 refine HC.out.mono ?_
 rintro e w1 ⟨rfl,hr1,hk1⟩
 have HR1:=ae hr1
 have xB:=ae (HP.out.drew.sG hk1 hpl hne)
 clear hr1 hk1 HC hc0
 go_wp2_with fail
 go_loopw [22] (fun i wr=>RzRel M w rb pb po t cs n zs R i wr) (fun i _=>n - (intOf i).toNat)
 case atStart=>exact ⟨0,none,0,[],Nat.zero_le _,rfl,rfl,rfl,HR1.out,xB.out,World.ownsRow_nil _ _ _ _,(fun _ h=>nomatch h),fun _=>⟨rfl,rfl⟩⟩
 case round=>
  obtain ⟨k,A,c,ys,hk,rfl,hyl,hye,hr,hp,hown,hym,hnl⟩:=hrel
  have HR:=ae hr
  have Cm:=ae hp
  have HO:=ae hown
  have pg:=ae hyl
  have IZ:=ae hye
  have CG:=ae hym
  have HNL:=ae hnl
  have hcp:wr.cell? ⟨pb,po,none⟩=some (.slice A k c):=(hp.cell po).trans (by simp [hpos])
  have hsw:=hp.size
  clear hr hp hown hyl hye hym hnl HR1 xB HP
  by_cases hlt:k<n
  ·have i0':(0:Int)≤(k:Int):=by omega
   have i1:(k:Int)<(n:Int):=by omega
   have hkz:k<zs.length:=by rw [HN.out];exact hlt
   obtain ⟨x,hx⟩:∃x,zs[k]? =some x:=⟨_,List.getElem?_eq_getElem hkz⟩
   have Qd:=HF.out x (List.mem_of_getElem? hx)
   have HX:=ae hx
   have WR:=ae Qd
   clear hx Qd
   have V7:Hid (∀j u,iV.toList[j]? =some u→(((wr.alloc (.cells iV 90)).alloc (.cells iV 90)).drew).cell? ((⟨wr.heap.size+1,0,none⟩:Addr).add j)=some u):=ae fun j u hu=>by
    rw [addr_add]
    have h:=(Row.new (wr.alloc (.cells iV 90)) iV 90).2 j
    rw [World.size_alloc] at h
    exact h.trans (by simpa using hu)
   have V8:Hid (∀u∈iV.toList,u.oneCell'=true):=ae (by
    intro u hu
    have h:iV.all (·.oneCell')=true:=by kernel_rfl
    rw [Array.all_eq_true_iff_forall_mem] at h
    exact h u (by simpa using hu))
   have hplw:pb<wr.heap.size:=by omega
   have hmx:k+1≤maxLen:=by unfold maxLen;omega
   have hby:(k+1)*144≤140737488355328:=by omega
   have Yp:Hid (w.heap.size≤(((wr.alloc (.cells iV 90)).alloc (.cells iV 90)).drew).heap.size):=ae (by simp;omega)
   have eX:Hid ((((wr.alloc (.cells iV 90)).alloc (.cells iV 90)).drew).heap.size=wr.heap.size+2):=ae (by simp)
   have HOO:Hid ((((wr.alloc (.cells iV 90)).alloc (.cells iV 90)).drew).ownsRow w.heap.size 90 9 (.slice A k c) k (aQ ys)):=ae ((HO.out.alloc _).alloc _).drew
   have RZ:Hid (∀b,b<wr.heap.size→(((wr.alloc (.cells iV 90)).alloc (.cells iV 90)).drew).heap[b]? =wr.heap[b]?):=ae fun b hb=>(Below.heap_alloc (wr.alloc (.cells iV 90)) _ b (by simp;omega)).trans (Below.heap_alloc wr _ b hb)
   go_wp2_with fail
   go_region_law (refine step_append_lies _ (by rfl) _ _ _ (by rfl) w.heap.size 90 i0 (.agg iV) 9 144 Tryz.underlying35 hi hz0 hz1 hz2 (by rfl) (by omega) (.slice A k c) k (aQ ys) (by rfl) HOO.out ⟨wr.heap.size+1,0,none⟩ 1 1 iV.toList (by rfl) (by rfl) V7.out V8.out (by omega) hmx hby Yp.out (wr.heap.size+2) eX.out ?_;intro g2 c2 w2 hown2 hgrow2 Jn hlt2;have hbw:∀b,b<w.heap.size→w2.heap[b]? =wr.heap[b]? :=fun b hb=>(hgrow2.block b (Nat.lt_of_lt_of_eq (show b<wr.heap.size+2 by omega) eX.out.symm) (dN HO.out b hb)).trans (RZ.out b (by omega));have HP2:Hid (w2.heap[pb]? =some (.cells (cs.setIfInBounds po (.slice A k c)) t (0,0))):=ae ((hbw pb hpl).trans Cm.out.tgt);have hcp2:w2.cell? ⟨pb,po,none⟩=some (.slice A k c):=(cell_of_row w2 pb po _ _ _ HP2.out).trans (by simp [hpos]);have TJ:=frozen_of_row w2 pb po _ _ HP2.out;have qW:=ae hbw;have vk:=ae hown2;have HG2:=ae hgrow2;have HA2:=ae Jn;clear hbw hown2 hgrow2 Jn)
   all_goals
    have hs2:wr.heap.size+2≤w2.heap.size:=Nat.le_trans (Nat.le_of_eq eX.out.symm) HG2.out.size
    have hkeep:∀b,b<wr.heap.size→some b≠(Value.slice A k c).ownBlock→w2.heap[b]? =wr.heap[b]? :=fun b hb hne=>(HG2.out.block b (Nat.lt_of_lt_of_eq (show b<wr.heap.size+2 by omega) eX.out.symm) hne).trans (RZ.out b hb)
    have hlo2:=jL vk.out
    have hP3:dH w rb pb t (cs.setIfInBounds po (.slice (some ⟨g2,0,none⟩) (k+1) c2)) (w2.setCell ⟨pb,po,none⟩ (.slice (some ⟨g2,0,none⟩) (k+1) c2)):=by
     have h:dH w rb pb t (cs.setIfInBounds po (.slice A k c)) w2:=⟨HG2.out.os.trans Cm.out.os,HG2.out.tape.trans Cm.out.tape,HG2.out.output.trans Cm.out.output,by omega,fun b hb h1 h2=>(qW.out b hb).trans (Cm.out.block b hb h1 h2),HP2.out⟩
     have h:=h.put po (.slice (some ⟨g2,0,none⟩) (k+1) c2)
     rwa [Array.setIfInBounds_setIfInBounds] at h
    have Vr:jC M (w2.setCell ⟨pb,po,none⟩ (.slice (some ⟨g2,0,none⟩) (k+1) c2)) rb (eU (zs.drop k)++R):=(HR.out.of (qW.out rb hrl) fun b hb=>qW.out b (by omega)).put Df hne _
    have hO3:(w2.setCell ⟨pb,po,none⟩ (.slice (some ⟨g2,0,none⟩) (k+1) c2)).ownsRow w.heap.size 90 9 (.slice (some ⟨g2,0,none⟩) (k+1) c2) (k+1) (aQ ys++iV.toList):=dI (p:=⟨pb,po,none⟩) vk.out (by intro e;injection e with e;simp only at e;omega)
    have hM3:∀y∈ys,xI y.s∧LX w.heap.size g2 (w2.setCell ⟨pb,po,none⟩ (.slice (some ⟨g2,0,none⟩) (k+1) c2)) y.s.A y.e.z.cal.au:=by
     intro y hy
     obtain ⟨h1,g,hA,b,off,b1,b2,b3,b4,b5⟩:=CG.out y hy
     have hne1:some b≠(Value.slice A k c).ownBlock:=by
      rw [hA]
      intro e
      injection e with e
      exact b4 e
     refine ⟨h1,b,off,b1,b2,by simp [World.setCell];omega,?_,fun j hj=>?_⟩
     ·rcases HA2.out with h|h
      ·rw [hA] at h
       injection h with h
       intro e
       exact b4 (e.trans h.symm)
      ·omega
     ·exact (World.cell?_of_block (a:=⟨b,off+j,none⟩) ((heap_setCell_other w2 _ b _ (by show b≠pb;omega)).trans (hkeep b b3 hne1))).trans (b5 j hj)
    have o9:=ae hP3
    have HR3:=ae Vr
    have wL:=ae hO3
    have Yv:=ae hM3
    clear hkeep hP3 Vr hO3 hM3 HP2 qW vk HG2 HA2 hcp
    go_wp2_with fail
    obtain ⟨w3,hw3⟩:∃W,w2.setCell ⟨pb,po,none⟩ (.slice (some ⟨g2,0,none⟩) (k+1) c2)=W:=⟨_,rfl⟩
    rw [hw3] at o9 HR3 wL Yv ⊢
    obtain ⟨cur,q1,q2,q3,q4,q5,q6,q7,_⟩:=ni wL.out
    have hcz:eU (zs.drop k)++R=nG x++(eU (zs.drop (k+1))++R):=by
     have hd:zs.drop k=x::zs.drop (k+1):=by
      rw [List.drop_eq_getElem_cons hkz]
      have h:=HX.out
      rw [List.getElem?_eq_getElem hkz] at h
      injection h with h
      rw [h]
     rw [hd]
     simp [eU]
    have hr3:=HR3.out
    rw [hcz] at hr3
    have hzz:∀j,j<9→cur[k*9+j]? =iV[j]? :=fun j hj=>by
     have h:(cur.toList.take ((k+1)*9))[k*9+j]? =(aQ ys++iV.toList)[k*9+j]? :=by rw [q6]
     rw [List.getElem?_take_of_lt (by omega),List.getElem?_append_right (by rw [dO,pg.out];omega),dO,pg.out,show k*9+j - k*9=j by omega] at h
     simpa using h
    refine (EL M w3 rb g2 (k*9) 90 cur x _ WR.out.1 WR.out.2 hr3 q1 hzz (by omega) (by omega)).mono ?_
    rintro e w4 ⟨rfl,A4,a4,hr4,ry,XN⟩
    have hO4:=Uc wL.out q1 ry
    rw [←pg.out,PK ys x WR.out.1 A4 a4,pg.out] at hO4
    have hP4:dH w rb pb t (cs.setIfInBounds po (.slice (some ⟨g2,0,none⟩) (k+1) c2)) w4:=⟨ry.os.trans o9.out.os,ry.tape.trans o9.out.tape,ry.output.trans o9.out.output,Nat.le_trans o9.out.size ry.size,fun b hb h1 h2=>(ry.block b (Nat.lt_of_lt_of_le hb o9.out.size) (by omega) h2).trans (o9.out.block b hb h1 h2),(ry.block pb (Nat.lt_of_lt_of_le hpl o9.out.size) (by omega) hne).trans o9.out.tgt⟩
    have hs3:w3.heap.size=w2.heap.size:=by rw [←hw3];simp [World.setCell]
    have hM4:∀y∈ys++ [(⟨x,⟨A4,a4,none,0,none,0,none,0⟩⟩:cZ)],xI y.s∧∃g,(some ⟨g2,0,none⟩:Option Addr)=some ⟨g,0,none⟩∧LX w.heap.size g w4 y.s.A y.e.z.cal.au:=by
     intro y hy
     rcases List.mem_append.1 hy with hy|hy
     ·obtain ⟨h1,b,off,b1,b2,b3,b4,b5⟩:=Yv.out y hy
      exact ⟨h1,g2,rfl,b,off,b1,b2,Nat.lt_of_lt_of_le b3 ry.size,b4,fun j hj=>(World.cell?_of_block (a:=⟨b,off+j,none⟩) (ry.block b b3 b4 (by omega))).trans (b5 j hj)⟩
     ·rw [List.mem_singleton.1 hy]
      obtain ⟨g4,cc4,e4,_⟩:=dw XN (by have:=WR.out.1.cal.mo.1;omega)
      injection e4 with e4 _ _
      subst e4
      exact ⟨⟨⟨rfl,rfl⟩,⟨rfl,rfl⟩,⟨rfl,rfl⟩⟩,g2,rfl,LX.dW XN (by omega) (by omega)⟩
    have HR4:=ae hr4
    have DK:=ae hP4
    have Fb:=ae hO4
    have rq:=ae hM4
    have HE4:Hid ((ys++ [(⟨x,⟨A4,a4,none,0,none,0,none,0⟩⟩:cZ)]).map (·.e)=zs.take (k+1)):=ae (by rw [List.map_append,IZ.out,kK zs k x HX.out];rfl)
    clear hr4 ry XN hO4 hP4 hM4 hr3 hcz q1 q2 q3 q4 q5 q6 q7 hw3 hcp2 TJ hzz
    go_wp2_with fail
    go_roundw
    case rel=>exact ⟨k+1,some ⟨g2,0,none⟩,c2,_,by omega,by go_num,by rw [List.length_append,pg.out];rfl,HE4.out,HR4.out,DK.out,Fb.out,rq.out,fun h=>by omega⟩
    case measure=>simp [intOf];omega
  ·have hkn:k=n:=by omega
   have rF:=ae hkn
   have hlt':¬(k:Int)<(n:Int):=by omega
   clear hkn hlt hcp
   go_wp2_with fail
   go_end0
   refine ⟨rfl,A,c,ys,?_,?_,⟨?_,fun y hy=>?_,fun y hy=>(CG.out y hy).1,fun h=>?_⟩,?_⟩
   ·have h:=HR.out
    rw [rF.out,List.drop_of_length_le (by rw [HN.out];exact Nat.le_refl _)] at h
    exact h
   ·have h:=Cm.out
    rwa [rF.out] at h
   ·have h:=HO.out
    rw [rF.out] at h
    rw [pg.out,rF.out]
    exact h
   ·obtain ⟨_,g,_,h⟩:=CG.out y hy
    exact h.li
   ·obtain ⟨h1,h2⟩:=HNL.out (pg.out.symm.trans h)
    have h0:n=0:=by have:=pg.out;have:=rF.out;omega
    rw [h1,h2,h0]
   ·rw [IZ.out,rF.out,List.take_of_length_le (by rw [HN.out];exact Nat.le_refl _)]
end Go.Proofs.YtdibbemgpikgjaaGreatDoor
namespace Go.Proofs.YtdibbemgpikgjaaGreatDoor
open Go Go.RowKit
attribute [local go_sem] jZ kD ku kF nT nV jX kz jY kC
def bJ:Tb:=⟨0,0,0,aY,aY,[]⟩
theorem kL:Tryz.zeroCells37=ai bJ (.slice none 0 0):=by kernel_rfl
theorem vU (t:Tb) (v:Value) (n:Int):(ai t v).setIfInBounds 0 (I n)=ai {t with aW:=n} v:=by simp [ai,ji]
theorem uA (t:Tb) (v:Value) (n:Int):(ai t v).setIfInBounds 1 (I n)=ai {t with version:=n} v:=by simp [ai,ji]
theorem qQ (t:Tb) (v:Value) (n:Int):(ai t v).setIfInBounds 2 (I n)=ai {t with aI:=n} v:=by simp [ai,ji]
theorem AA (t:Tb) (v:Value) (xs:List UInt8) (h:t.prev.length=32) (hx:xs.length=32):putRow (ai t v) 4 (aj xs)=ai {t with prev:=xs} v:=by
 unfold putRow splice ai ji
 have h1:(aj xs).length=32:=by simp [aj,hx]
 have h2:(aj t.prev).length=32:=by simp [aj,h]
 rw [h1]
 simp [h2]
def TWhR (M:Nat) (w:World) (rb tb:Nat) (t:Tb) (n:Nat) (R:List UInt8) (e:Ending) (w':World):Prop:=
 e= .returned (.tuple #[])∧∃A c ys,jC M w' rb R∧dH w rb tb 37 (ai {t with bG:=aY} (.slice A n c)) w'∧fK w.heap.size w' (.slice A n c) ys∧ys.map (·.e)=t.aS
set_option maxRecDepth 10000 in
set_option maxHeartbeats 4000000 in
theorem Ux (M:Nat) (w:World) (rb tb n:Nat) (t:Tb) (R:List UInt8) (h:jU t) (hn:t.aS.length=n) (hr:jC M w rb (dR t++R)) (hp:w.heap[tb]? =some (.cells (ai bJ (.slice none 0 0)) 37 (0,0))) (hM:M≤tb) (hne:tb≠rb):
  Calls Tryz.prog 30 #[.iface 134 (pt rb), .pointer (some ⟨tb,0,none⟩)] w (TWhR M w rb tb t n R):=by
 have hel:tb<w.heap.size:=(Array.getElem?_eq_some_iff.1 hp).1
 have hrw:=hr.lt
 have hz:∀(u:Tb) (v:Value),u.prev.length=32→u.bG.length=32→(ai u v).size=68:=fun u v h1 h2=>bn u v h1 h2
 have hr':jC M w.drew rb (le t.aW 1++(le t.version 1++(le t.aI 1++(t.prev++((le n 1++eU t.aS)++R))))):=by
  have h:=hr.drew
  unfold dR at h
  rw [hn] at h
  simpa only [List.append_assoc] using h
 have q1:=h.aW
 have q2:=h.version
 have q3:=h.aI
 have hn2:n≤128:=by have:=h.num;omega
 have nH:=ae (iy M w.drew rb tb 0 1 37 _ t.aW t.aW _ hr' (by omega) (oO _ (by omega) (by omega) _) hp (by rw [hz _ _ rfl rfl];decide) hM hne)
 have HF:=ae h
 have HZ:=ae hz
 have HN:=ae hn
 clear h hr hr' hp hz hn
 unfold TWhR
 go_enter Tryz.func30,Tryz.ntmps30
 go_wp2_with fail
 go_still_tail 7,(by kernel_rfl)
 go_wp2_with fail
 refine nH.out.mono ?_
 rintro e w1 ⟨rfl,hr1,hp1⟩
 rw [vU] at hp1
 have xB:=ae hp1.iJ
 have HC2:=ae (iy M w1.drew rb tb 1 1 37 _ t.version t.version _ hr1.drew (by omega) (oO _ (by omega) (by omega) _) hp1.tgt (by rw [HZ.out _ _ rfl rfl];decide) hM hne)
 clear hr1 hp1 nH
 go_wp2_with fail
 go_still_tail 7,(by kernel_rfl)
 go_wp2_with fail
 refine HC2.out.mono ?_
 rintro e w2 ⟨rfl,hr2,hp2⟩
 rw [uA] at hp2
 have HP2:=ae (xB.out.trans hp2.iJ)
 have rD:=ae (iy M w2.drew rb tb 2 1 37 _ t.aI t.aI _ hr2.drew (by omega) (oO _ (by omega) (by omega) _) hp2.tgt (by rw [HZ.out _ _ rfl rfl];decide) hM hne)
 clear hr2 hp2 HC2
 go_wp2_with fail
 go_still_tail 7,(by kernel_rfl)
 go_wp2_with fail
 refine rD.out.mono ?_
 rintro e w3 ⟨rfl,hr3,hp3⟩
 rw [qQ] at hp3
 have o9:=ae (HP2.out.trans hp3.iJ)
 have qX:=ae (xZ M w3.drew rb tb 4 37 _ t.prev _ hr3.drew HF.out.prev hp3.tgt (by rw [HZ.out _ _ rfl rfl];decide) hM hne)
 clear hr3 hp3 rD
 go_wp2_with fail
 go_still_tail 7,(by kernel_rfl)
 go_wp2_with fail
 refine qX.out.mono ?_
 rintro e w4 ⟨rfl,hr4,ry⟩
 rw [AA _ _ _ rfl HF.out.prev] at ry
 have DK:=ae (o9.out.trans ry.iJ)
 have xA:=ae (QS M w4 rb tb 3 n 37 _ t.aS R HN.out hn2 (fun x hx=>⟨HF.out.flat x hx,HF.out.short x hx⟩) hr4 ry.tgt (bC _ _) hM hne)
 clear hr4 ry qX
 go_wp2_with fail
 refine xA.out.mono ?_
 rintro e w5 ⟨rfl,A,c,ys,tq,Iw,ho5,he5⟩
 rw [mF] at Iw
 have l9:=ae tq
 have Cj:=ae (DK.out.trans Iw)
 have kT:=ae (ho5.lower DK.out.size)
 have HE5:=ae he5
 clear tq Iw ho5 he5 xA
 go_wp2_with fail
 go_end0
 exact ⟨rfl,A,c,ys,l9.out,Cj.out,kT.out,HE5.out⟩
end Go.Proofs.YtdibbemgpikgjaaGreatDoor
namespace Go.Proofs.YtdibbemgpikgjaaGreatDoor
open Go Go.RowKit
def NM (bs:List UInt8):ByteArray:=⟨bs.toArray⟩
theorem xR (xs:List UInt8):(NM xs).toList=xs:=by rw [Lib.toList_data];rfl
theorem zQ (A:Option Addr) (bs:List UInt8) (c:Nat) (w:World) (B:Nat) (h:BytesAt w B A bs):
  (convert 32 9 (.slice A bs.length c)).run Tryz.prog w= .ok (.string (NM bs)) w:=by
 have e:NM bs=strOfNums (bs.map fun x=>(x.toNat:Int)):=by
  unfold NM strOfNums
  congr 1
  rw [List.map_map]
  congr 1
  rw [show ((fun n:Int=>UInt8.ofNat n.toNat) ∘ fun x:UInt8=>(x.toNat:Int))=id from by funext x;simp]
  simp
 rcases h with h|⟨b,off,rfl,_,hc⟩
 ·obtain rfl:=List.eq_nil_of_length_eq_zero h
  exact run_convert_bytes_zero w _ _ Tryz.underlying32 Tryz.underlying5 A c _ Tryz.underlying9
 ·rw [e]
  refine run_convert_bytes_arg w _ _ Tryz.underlying32 Tryz.underlying5 b off bs.length c _ (by simp) (fun i hi=>?_) _ Tryz.underlying9
  rw [hc i hi]
  simp [List.getD,hi,Extern.Stop.cell]
set_option maxRecDepth 10000 in
set_option maxHeartbeats 1000000 in
theorem zL (w:World) (A A':Option Addr) (xs ys:List UInt8) (c d B B':Nat) (h1:BytesAt w B A xs) (h2:BytesAt w B' A' ys):
  Calls Tryz.prog 36 #[.slice A xs.length c, .slice A' ys.length d] w fun e w'=>e= .returned (.bool (xs==ys))∧w'=w:=by
 have e1:=zQ A xs c w B h1
 have e2:=zQ A' ys d w B' h2
 clear h1 h2
 go_enter Tryz.func36,Tryz.ntmps36
 go_wp2
 go_ret
 exact ⟨by show Ending.returned (.bool ((NM xs).toList==(NM ys).toList))=_;rw [xR,xR],rfl⟩
end Go.Proofs.YtdibbemgpikgjaaGreatDoor
namespace Go.Proofs.YtdibbemgpikgjaaGreatDoor
open Go Go.RowKit
theorem pU {P:Program} {fn:Func} {p q:Tmp} {t1 t2:TypeId} (h:fn.results= #[.cell p t1, .cell q t2]) (tmps:Array Value) (w:World) (g g2:Nat) (t:TypeId) (cs:Array Value) (fr:Nat×Nat) (d:TypeDesc) (v:Value)
  (hp:tmps.getD p undef= .pointer (some ⟨g,0,none⟩)) (hg:w.heap[g]? =some (.cells cs t fr)) (hu:P.underlying t1=some d) (hd:(match d with| .struct _| .array _ _=>true|_=>false)=true) (hi:(P.info? t1).map (·.size)=some cs.size)
  (hq:tmps.getD q undef= .pointer (some ⟨g2,0,none⟩)) (hv:(loadVar t2 ⟨g2,0,none⟩).run P w= .ok v w):
  (results fn tmps).run P w= .ok (.tuple #[.agg cs,v]) w:=by
 have hp':tmps[p]?.getD undef= .pointer (some ⟨g,0,none⟩):=by simpa using hp
 have hq':tmps[q]?.getD undef= .pointer (some ⟨g2,0,none⟩):=by simpa using hq
 simp [results,h,hp',hq',asAddr,run_loadVar_row w g t t1 cs fr d hg hu hd hi,hv]
theorem He (p:Addr) (w:World):
  CallsD Tryz.prog 56 #[.pointer (some p)] .returning w fun e u' w'=>e= .returned (.tuple #[])∧u'= .returning∧w'=w:=by
 have hnn:∀w,(binOp .neq 20 .nilIface .nilIface).run Tryz.prog w= .ok (.bool false) w:=fun w=>Lib.run_neq_nil_nil w Tryz.underlying20
 refine callsD_of_wpS Tryz.func56 rfl fun c₀ cs hu=>?_
 apply wpS_seq
 apply wpS_region
 simp [wpOpsS,go_sem,recoverD,hu,Tryz.ntmps56,Exit.thenS]
 apply wpS_seq
 apply wpS_region
 simp [wpOpsS,go_sem,hnn,Exit.thenS]
 refine wpS_cond (t:=false) (by simp [Act.eval,Array.replicate]) ?_
 simp only [Bool.false_eq_true,if_false]
 refine wpS_of_wp (wp_skip ?_)
 cases c₀
 simp_all [bodyPostS,results,Tryz.results56]
section
variable {P:Program} {ops:Array Oper} {Q:Exit→Act→World→Prop} {md:Region.Mode} {S:World→Prop} {i:Nat} {oi:Oper} {v:Value} {fuel:Nat} {listed:Array Bool} {a:Act} {w:World}
theorem UB (d:Option Tmp) (hi:ops[i]? =some oi) (hd:oi.dst=d)
  (hs:Region.noSelect ops=true) (hf:Region.free md ops listed i=true) (hr:(Region.ready md ops listed).contains i=true)
  (hQ:∀c a w,Q (.panic c) (a.put d v) w→Q (.panic c) a w) (hy:YieldsIf P ops S oi v a) (hS:S w)
  (h:wpAnyH P md ops Q S fuel (listed.setIfInBounds i true) (a.put d v) w):wpAnyH P md ops Q S (fuel+1) listed a w:=by
 subst hd
 exact wpAnyH_take hi hs hf hr hQ hy hS h
theorem yN (hr:Region.ready md ops listed= [i]) (ho:ops[i]? =some oi) (hw:Region.wanted oi (yielded ops a.tmps)=true) (ty:TypeId) (x y:Operand) (hop:oi.op= .store ty x y) (hd:oi.dst=none)
  (g:Nat) (cells:Array Value) (hx:a.eval x= .pointer (some ⟨g,0,none⟩)) (hy:a.eval y= .agg cells) (t:TypeId) (old:Array Value) (hg:w.heap[g]? =some (.cells old t (0,0))) (hi:(P.info? ty).map (·.size)=some cells.size) (hold:old.size=cells.size) (h1:cells.all (·.oneCell')=true)
  (hS:S (w.setRow g cells)) (h:S (w.setRow g cells)→wpAnyH P md ops Q S fuel (listed.setIfInBounds i true) a (w.setRow g cells)):wpAnyH P md ops Q S (fuel+1) listed a w:=by
 refine wpAnyH_ready (rs:= [i]) hr (by simp) ?_
 refine AllReadyH.cons ho (fun K hK=>?_) AllReadyH.nil
 rw [if_pos hw]
 refine wp_store_row ty x y hop g cells hx hy t old hg hi hold h1 ?_
 rw [hd]
 exact hK.out a _ hS h
end
theorem dH.grown {M:Nat} {w0 w w':World} {rb pb:Nat} {t:TypeId} {cs:Array Value} (h:dH w rb pb t cs w') (hb:Below M w0 w) (h1:M≤pb) (h2:M≤rb) (hp:pb<w.heap.size):Below M w0 w':=
 hb.trans ⟨h.os,h.tape,h.output,h.size,fun k hk=>h.block k (by omega) (by omega) (by omega)⟩
def TrdR (w:World) (t:Tb) (n:Nat) (e:Ending) (w':World):Prop:=
 ∃A c ys,e= .returned (.tuple #[.agg (ai {t with bG:=aY} (.slice A n c)), .bool true])∧fK w.heap.size w' (.slice A n c) ys∧ys.map (·.e)=t.aS∧Below w.heap.size w w'
set_option maxRecDepth 10000 in
set_option maxHeartbeats 400000 in
theorem J4 (w:World) (t:Tb) (n N b off c:Nat) (h:jU t) (hn:t.aS.length=n) (hN:(dR t).length=N) (hbl:b<w.heap.size) (hc1:N≤c) (hc2:c≤9223372036854775807)
  (hA:∀j,j<N→w.cell? ⟨b,off+j,none⟩=some (Extern.Stop.cell ((dR t)[j]?.getD 0))):
  Calls Tryz.prog 35 #[.slice (some ⟨b,off,none⟩) N c] w (TrdR w t n):=by
 have hmf:∀(fn:Fn) (first cap:Array Value) (w:World),(Instr.makeFunc fn first cap).run Tryz.prog w= .ok (.func fn first cap) w:=fun _ _ _ _=>rfl
 have HF:=ae h
 have eX:Hid (∀v,(Tryz.prog.info? 37).map (·.size)=some (ai {t with bG:=aY} v).size):=ae fun v=>bV _ v h.prev rfl
 have HN:=ae hn
 have Ik:=ae hN
 obtain ⟨W,hW⟩:∃W,((w.alloc (.cells (ai bJ (.slice none 0 0)) 37)).alloc (.cells #[.bool false] 4)).alloc (.cells #[.slice (some ⟨b,off,none⟩) N c] 135)=W:=⟨_,rfl⟩
 have hB:Below w.heap.size w W:=by rw [←hW];exact (((Below.refl _ w).alloc (Nat.le_refl _) _).alloc (by simp) _).alloc (by simp;omega) _
 have hs:W.heap.size=w.heap.size+3:=by rw [←hW];simp
 have ht:W.heap[w.heap.size]? =some (.cells (ai bJ (.slice none 0 0)) 37 (0,0)):=by rw [←hW];exact (Below.heap_alloc _ _ _ (by simp;omega)).trans (heap_alloc2_old w _ _)
 have ho:W.heap[w.heap.size+1]? =some (.cells #[.bool false] 4 (0,0)):=by rw [←hW];exact (Below.heap_alloc _ _ _ (by simp)).trans (heap_alloc2_new w _ _)
 have hr:jC w.heap.size W (w.heap.size+2) (dR t++ []):=by
  rw [List.append_nil]
  refine ⟨⟨b,off,c,?_,by rw [hN];exact hc1,hc2,hbl,fun j hj=>(hB.cell (p:=⟨b,off+j,none⟩) hbl).trans (hA j (by omega))⟩,by omega⟩
  rw [←hW,hN]
  have:=heap_alloc_last ((w.alloc (.cells (ai bJ (.slice none 0 0)) 37)).alloc (.cells #[.bool false] 4)) (.cells #[.slice (some ⟨b,off,none⟩) N c] 135)
  simpa using this
 have HB:=ae hB
 have HS:=ae hs
 have HO:=ae ho
 have HC:=ae (Ux w.heap.size W (w.heap.size+2) w.heap.size n t [] h hn hr ht (Nat.le_refl _) (by omega))
 clear h hn hN hA hB hs ht ho hr
 go_enter_defers Tryz.func35,Tryz.ntmps35
 go_wp2_with fail
 rw [kL,hW]
 refine HC.out.mono ?_
 rintro e w2 ⟨rfl,A,cz,ys,hr2,hp2,hz2,he2⟩
 have hs0:=HS.out
 have ho2:w2.heap[w.heap.size+1]? =some (.cells #[.bool false] 4 (0,0)):=(hp2.block _ (by omega) (by omega) (by omega)).trans HO.out
 have HB2:=ae (hp2.grown HB.out (Nat.le_refl _) (by omega) (by omega))
 have HV:=ae hp2.tgt
 have HZ2:=ae (hz2.lower (lo':=w.heap.size+3) (by omega))
 have HRW:=ae (Row.iq hp2.tgt)
 have vk:=ae ho2
 have HE2:=ae he2
 have hlt2:w.heap.size+3≤w2.heap.size:=by have:=hp2.size;omega
 obtain ⟨bb,o2,c2,hq,_⟩:=hr2.at_
 have hc2:w2.cell? ⟨w.heap.size+1+1,0,none⟩=some (.slice (some ⟨bb,o2,none⟩) 0 c2):=cell_of_row w2 (w.heap.size+2) 0 _ _ _ hq
 clear hr2 hp2 hz2 he2 ho2 hW HC hq HO HB HS
 go_wp2_with fail
 refine wp_region_noPanic ?_
 refine wp_region_held_drew (S:=fun W=>Row W w.heap.size (ai {t with bG:=aY} (.slice A n cz))∧W.cell? ⟨w.heap.size+1+1,0,none⟩=some (.slice (some ⟨bb,o2,none⟩) 0 c2)) (by kernel_rfl) ⟨⟨HRW.out.1,HRW.out.2⟩,hc2⟩ (fun hH=>?_)
 refine aag 0 _ 12 rfl rfl hH (yieldsIf_load_mid (by rfl) _ _ rfl w.heap.size 0 rfl (ai {t with bG:=aY} (.slice A n cz)).toList _ (fun W hW j v hv=>by rw [Nat.zero_add,hW.1.2 j];simpa using hv) Tryz.underlying37 rfl (by rw [eX.out,Array.length_toList])) ?_
 refine ax ?_
 refine aaf 1 (pt (w.heap.size+1+1)) 13 rfl rfl hH (fun W hW=>by obtain ⟨_,hW2⟩:=hW;go_simp) ?_
 refine ax ?_
 refine aaf 2 (pt (w.heap.size+1+1)) 14 rfl rfl hH (fun W hW=>by obtain ⟨_,hW2⟩:=hW;go_simp) ?_
 refine ax ?_
 refine aaf 3 (pt (w.heap.size+1+1)) 15 rfl rfl hH (fun W hW=>by obtain ⟨_,hW2⟩:=hW;go_simp) ?_
 refine ax ?_
 refine aaf 4 (.slice (some ⟨bb,o2,none⟩) 0 c2) 16 rfl rfl hH (fun W hW=>by obtain ⟨_,hW2⟩:=hW;go_simp) ?_
 refine ax ?_
 refine aaf 5 (I 0) 17 rfl rfl hH (fun W hW=>by obtain ⟨_,hW2⟩:=hW;go_simp) ?_
 refine ax ?_
 refine aaf 6 (.bool true) 18 rfl rfl hH (fun W hW=>by obtain ⟨_,hW2⟩:=hW;go_simp) ?_
 refine ax ?_
 have hv2:w2.drew.heap[w.heap.size]? =some (.cells (ai {t with bG:=aY} (.slice A n cz)) 37 (0,0)):=HV.out
 have HW3:Hid ((w2.drew.setRow w.heap.size (ai {t with bG:=aY} (.slice A n cz))).heap[w.heap.size]? =some (.cells (ai {t with bG:=aY} (.slice A n cz)) 37 (0,0))):=ae (setRow_heap _ _ _ _ _ _ hv2)
 have lV:Hid (∀k,k≠w.heap.size→(w2.drew.setRow w.heap.size (ai {t with bG:=aY} (.slice A n cz))).heap[k]? =w2.heap[k]?):=ae fun k hk=>setRow_other _ _ k _ hk
 have U5:Hid ((w2.drew.setRow w.heap.size (ai {t with bG:=aY} (.slice A n cz))).heap.size=w2.heap.size):=ae (by show (w2.setRow w.heap.size _).heap.size=_;simp [World.setRow])
 have HD3:Hid ((w2.drew.setRow w.heap.size (ai {t with bG:=aY} (.slice A n cz))).os=w2.os∧(w2.drew.setRow w.heap.size (ai {t with bG:=aY} (.slice A n cz))).tape=w2.tape∧(w2.drew.setRow w.heap.size (ai {t with bG:=aY} (.slice A n cz))).output=w2.output):=ae ⟨rfl,rfl,rfl⟩
 have hc3:(w2.drew.setRow w.heap.size (ai {t with bG:=aY} (.slice A n cz))).cell? ⟨w.heap.size+1+1,0,none⟩=some (.slice (some ⟨bb,o2,none⟩) 0 c2):=(World.cell?_of_block (a:=⟨w.heap.size+1+1,0,none⟩) (lV.out _ (by show w.heap.size+1+1≠w.heap.size;omega))).trans hc2
 refine yN (i:=7) (by kernel_rfl) rfl (by rfl) _ _ _ rfl rfl w.heap.size (ai {t with bG:=aY} (.slice A n cz)) rfl rfl 37 (ai {t with bG:=aY} (.slice A n cz)) hv2 (eX.out _) rfl (bf _ _ _ _) ⟨Row.iq HW3.out,hc3⟩ (fun hH3=>?_)
 clear hH hH3
 generalize w2.drew.setRow w.heap.size (ai {t with bG:=aY} (.slice A n cz))=w3 at HW3 lV U5 HD3 hc3 ⊢
 have ho3:w3.heap[w.heap.size+1]? =some (.cells #[.bool false] 4 (0,0)):=(lV.out _ (by omega)).trans vk.out
 have hcc:=cell_of_row _ (w.heap.size+1) 0 _ _ _ ho3
 have hfc:=frozen_of_row _ (w.heap.size+1) 0 _ _ ho3
 have wL:=ae ho3
 have hS4:Row (w3.setCell ⟨w.heap.size+1,0,none⟩ (.bool true)) w.heap.size (ai {t with bG:=aY} (.slice A n cz))∧(w3.setCell ⟨w.heap.size+1,0,none⟩ (.bool true)).cell? ⟨w.heap.size+1+1,0,none⟩=some (.slice (some ⟨bb,o2,none⟩) 0 c2):=
  ⟨Row.iq ((heap_setCell_other w3 _ w.heap.size _ (by show w.heap.size≠w.heap.size+1;omega)).trans HW3.out),(World.cell?_of_block (a:=⟨w.heap.size+1+1,0,none⟩) (heap_setCell_other w3 _ _ _ (by show w.heap.size+1+1≠w.heap.size+1;omega))).trans hc3⟩
 have II:=ae hS4
 clear hv2 ho3 hS4
 refine aV 8 (fun K hK=>?_)
 go_simp
 refine hK.out _ _ II.out (fun hH4=>?_)
 refine wpAnyH_done (by kernel_rfl) ?_ _
 refine NoPanic.normal ?_
 clear hK K hH4
 go_wp2_with fail
 refine leaves_cons (f:=56) (args:= #[.pointer (some ⟨w.heap.size+1,0,none⟩)]) (by simp) (by simp [go_sem]) ?_
 refine (He _ _).mono ?_
 rintro e u' w11 ⟨rfl,rfl,rfl⟩
 have hbl:∀k,k≠w.heap.size→k≠w.heap.size+1→(w3.setCell ⟨w.heap.size+1,0,none⟩ (.bool true)).heap[k]? =w2.heap[k]? :=fun k h1 h2=>
  (heap_setCell_other _ _ k _ h2).trans (lV.out k h1)
 have hsz:(w3.setCell ⟨w.heap.size+1,0,none⟩ (.bool true)).heap.size=w2.heap.size:=by rw [←U5.out];simp [World.setCell]
 have hv4:(w3.setCell ⟨w.heap.size+1,0,none⟩ (.bool true)).heap[w.heap.size]? =some (.cells (ai {t with bG:=aY} (.slice A n cz)) 37 (0,0)):=(heap_setCell_other w3 ⟨w.heap.size+1,0,none⟩ w.heap.size _ (by show w.heap.size≠w.heap.size+1;omega)).trans HW3.out
 have hc4:=cell_of_row _ (w.heap.size+1) 0 _ _ _ (heap_setCell_same _ (w.heap.size+1) 0 _ _ (.bool true) wL.out)
 refine ⟨_,pU rfl _ _ w.heap.size (w.heap.size+1) _ (ai {t with bG:=aY} (.slice A n cz)) (0,0) _ (.bool true) rfl hv4 Tryz.underlying37 rfl (eX.out _) rfl (iI _ _ _ hc4),A,cz,ys,rfl,?_,HE2.out,?_⟩
 ·exact (HZ2.out.aP (Nat.le_of_eq hsz.symm) fun k h1 h2=>hbl k (by omega) (by omega)).lower (by omega)
 ·exact HB2.out.trans ⟨HD3.out.1,HD3.out.2.1,HD3.out.2.2,Nat.le_of_eq hsz.symm,fun k hk=>hbl k (by omega) (by omega)⟩
end Go.Proofs.YtdibbemgpikgjaaGreatDoor
namespace Go.Proofs.YtdibbemgpikgjaaGreatDoor
open Go Go.RowKit
def Xc (w:World) (t:Tb) (n:Nat) (e:Ending) (w':World):Prop:=
 ∃A c ys,e= .returned (.tuple #[.agg (ai {t with bG:=aY} (.slice A n c)),I 0])∧fK w.heap.size w' (.slice A n c) ys∧ys.map (·.e)=t.aS∧Below w.heap.size w w'
theorem jU.mac0 {t:Tb} (h:jU t):jU {t with bG:=aY}:=⟨h.aW,h.version,h.aI,h.prev,rfl,h.first,h.num,h.flat,h.short⟩
set_option maxRecDepth 10000 in
set_option maxHeartbeats 2000000 in
theorem Aw (w:World) (t:Tb) (n N b off c:Nat) (h:jU t) (hn:t.aS.length=n) (hN:(dR t).length=N) (hup:∀ys:List cZ,ys.map (·.e)=t.aS→fV ys) (hbl:b<w.heap.size) (hc1:N≤c) (hc2:c≤9223372036854775807)
  (hA:∀j,j<N→w.cell? ⟨b,off+j,none⟩=some (Extern.Stop.cell ((dR t)[j]?.getD 0))):
  Calls Tryz.prog 20 #[.slice (some ⟨b,off,none⟩) N c] w (Xc w t n):=by
 have HF:=ae h.mac0
 have eX:Hid (∀v,(Tryz.prog.info? 37).map (·.size)=some (ai {t with bG:=aY} v).size):=ae fun v=>bV _ v h.prev rfl
 have qJ:Hid (∀v,(ai bJ (.slice none 0 0)).size=(ai {t with bG:=aY} v).size):=ae fun v=>by exact (bn bJ _ rfl rfl).trans (bn {t with bG:=aY} v h.prev rfl).symm
 have HN:=ae hn
 have Ik:=ae hN
 have DR:=ae hup
 obtain ⟨W,hW⟩:∃W,w.alloc (.cells (ai bJ (.slice none 0 0)) 37)=W:=⟨_,rfl⟩
 have hB:Below w.heap.size w W:=by rw [←hW];exact (Below.refl _ w).alloc (Nat.le_refl _) _
 have hs:W.heap.size=w.heap.size+1:=by rw [←hW];simp
 have ht:W.heap[w.heap.size]? =some (.cells (ai bJ (.slice none 0 0)) 37 (0,0)):=by rw [←hW];exact heap_alloc_last w _
 have HA:=ae hA
 have HB:=ae hB
 have HS:=ae hs
 have HT:=ae ht
 have HC:=ae (J4 W t n N b off c h hn hN (by omega) hc1 hc2 fun j hj=>(hB.cell (p:=⟨b,off+j,none⟩) hbl).trans (hA j hj))
 have BC:Hid (dR {t with bG:=aY}=dR t):=ae rfl
 clear h hn hN hA hB hs ht hup
 go_enter Tryz.func20,Tryz.ntmps20
 go_wp2_with fail
 rw [kL,hW]
 refine HC.out.mono ?_
 rintro e w2 ⟨A,c2,ys,rfl,hz2,he2,hb2⟩
 have hs0:=HS.out
 have HZ2:=ae hz2
 have HE2:=ae he2
 have qW:=ae (ah HB.out hb2)
 have HT2:Hid (w2.heap[w.heap.size]? =some (.cells (ai bJ (.slice none 0 0)) 37 (0,0))):=ae ((hb2.block _ (by omega)).trans HT.out)
 have hl2:w.heap.size+1≤w2.heap.size:=by have:=hb2.size;omega
 clear hz2 he2 hb2 hW HC HB HS HT
 go_wp2_with (first
  |(with_reducible refine bP 37 ?_;refine bW rfl _ rfl (ai bJ (.slice none 0 0)) kL ?_)
  |(with_reducible refine bH 37 ?_;refine dX rfl _ _ _ rfl (ai {t with bG:=aY} (.slice A n c2)) rfl rfl 37 (ai bJ (.slice none 0 0)) rfl (eX.out _) (qJ.out _) (bf _ _ _ _) ?_;intro W3 hb3 hl3 hr3;have HB3:=ae hb3;have HR3:=ae hr3;have HZ3:=ae (HZ2.out.below hb3);clear hb3 hr3)
  |(with_reducible refine dG 37 ?_;refine aU rfl _ _ rfl w2.heap.size rfl (ai {t with bG:=aY} (.slice A n c2)) HR3.out _ Tryz.underlying37 rfl (eX.out _) ?_))
 refine (qP {t with bG:=aY} A n c2 W.heap.size ys W3 HF.out HE2.out.symm (by rw [←HN.out,←HE2.out,List.length_map]) HZ3.out (DR.out ys HE2.out)).mono ?_
 rintro e w4 ⟨⟨g4,c4,rfl,XN⟩,hb4⟩
 rw [BC.out,Ik.out] at XN ⊢
 have hb3w:=qW.out.trans (HB3.out.mono (by omega))
 have XD:=hb3w.trans (hb4.mono (by omega))
 have HB4:=ae XD
 have HR4:Hid (Row w4 w2.heap.size (ai {t with bG:=aY} (.slice A n c2))):=ae (HR3.out.keep hb4)
 have KN:Hid (fK W.heap.size w4 (.slice A n c2) ys):=ae (HZ3.out.below hb4)
 have HT4:Hid (w4.heap[w.heap.size]? =some (.cells (ai bJ (.slice none 0 0)) 37 (0,0))):=ae ((hb4.block _ (by omega)).trans ((HB3.out.block _ (by omega)).trans HT2.out))
 have h1:BytesAt w4 w4.heap.size (some ⟨g4,0,none⟩) (dR t):=by
  obtain ⟨A',c',hv,_,_,_,hy⟩:=F8 (bs:=dR t) (by rw [Ik.out];exact XN)
  injection hv with e1 e2 e3
  subst e1
  exact hy
 have h2:BytesAt w4 w.heap.size (some ⟨b,off,none⟩) (dR t):= .inr ⟨b,off,rfl,hbl,fun j hj=>(XD.cell (p:=⟨b,off+j,none⟩) hbl).trans (HA.out j (by have:=Ik.out;omega))⟩
 have HEQ:Hid (Calls Tryz.prog 36 #[.slice (some ⟨g4,0,none⟩) N c4, .slice (some ⟨b,off,none⟩) N c] w4 fun e w'=>e= .returned (.bool true)∧w'=w4):=ae (by
  have h:=zL w4 (some ⟨g4,0,none⟩) (some ⟨b,off,none⟩) (dR t) (dR t) c4 c _ _ h1 h2
  rw [Ik.out] at h
  simpa using h)
 clear XN hb4 hb3w XD h1 h2 HB3 HR3 HZ3 HT2 HZ2 qW
 go_wp2_with fail
 refine HEQ.out.mono ?_
 rintro e w5 ⟨rfl,rfl⟩
 go_wp2_with (first
  |(with_reducible refine dG 37 ?_;refine aU rfl _ _ rfl w2.heap.size rfl (ai {t with bG:=aY} (.slice A n c2)) HR4.out _ Tryz.underlying37 rfl (eX.out _) ?_)
  |(with_reducible refine bH 37 ?_;refine wpList_store_row rfl _ _ _ rfl w.heap.size (ai {t with bG:=aY} (.slice A n c2)) rfl rfl 37 (ai bJ (.slice none 0 0)) HT4.out (eX.out _) (qJ.out _) (bf _ _ _ _) ?_))
 refine bodyPost_ret (v:= .tuple #[.agg (ai {t with bG:=aY} (.slice A n c2)),I 0]) (bK rfl _ _ w.heap.size _ (ai {t with bG:=aY} (.slice A n c2)) (0,0) _ rfl (setRow_heap _ _ _ _ _ _ HT4.out) Tryz.underlying37 rfl (eX.out _) _ rfl) rfl ?_
 refine ⟨A,c2,ys,rfl,(KN.out.aP ?_ fun k h1 h2=>setRow_other _ _ k _ (by omega)).lower (by omega),HE2.out,below_setRow HB4.out (Nat.le_refl _) _⟩
 simp [World.setRow]
end Go.Proofs.YtdibbemgpikgjaaGreatDoor
namespace Go.Proofs.YtdibbemgpikgjaaGreatDoor
open Go Go.RowKit
set_option maxRecDepth 10000 in
set_option maxHeartbeats 1000000 in
theorem Uj (x k s:Int) (w:World) (hk:bits BinOp.and IntKind.u64 (IntKind.u64.wrap k) 31=s) (h0:0≤s) (h1:s≤31):
  Calls Tryz.prog 75 #[.int .u32 x,I k] w fun e w'=>e= .returned (.int .u32 (yG x s))∧w'=w:=by
 have hd:IntKind.u64.wrap (32 - s)=32 - s:=by rw [IntKind.wrap_u64];omega
 go_enter Tryz.func75,Tryz.ntmps75
 go_wp2_with fail
 go_ret
 exact ⟨rfl,rfl⟩
def amt (k:Int):Int:=bits BinOp.and IntKind.u64 (IntKind.u64.wrap k) 31
theorem JQ (x k:Int) (w:World) (h:(decide (0≤amt k)&&decide (amt k≤31))=true):
  Calls Tryz.prog 75 #[.int .u32 x,I k] w fun e w'=>e= .returned (.int .u32 (yG x (amt k)))∧w'=w:=by
 rw [Bool.and_eq_true,decide_eq_true_eq,decide_eq_true_eq] at h
 exact Uj x k (amt k) w rfl h.1 h.2
end Go.Proofs.YtdibbemgpikgjaaGreatDoor
