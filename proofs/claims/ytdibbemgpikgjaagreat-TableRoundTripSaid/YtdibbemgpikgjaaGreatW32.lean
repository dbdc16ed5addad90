/- The texts Se, Ue, Sf, Uf, Li, Lj, in this order. -/
import Derived.Test.YtdibbemgpikgjaaGreatW00
import Derived.Test.YtdibbemgpikgjaaGreatW21
import Derived.Test.YtdibbemgpikgjaaGreatW26
import Derived.Test.YtdibbemgpikgjaaGreatW30
import Derived.Test.YtdibbemgpikgjaaGreatW31
set_option maxRecDepth 10000
set_option maxHeartbeats 8000000
namespace Go.Proofs.YtdibbemgpikgjaaGreat
open Go Go.RowKit
attribute [local go_sem] dD dH dE dI ed eu dB dF dC dG
def NZ (lo g:Nat) (w:World) (A:Option Addr) (cs:List Value):Prop:=
 cs.length=0∨∃b off,A=some ⟨b,off,none⟩∧(lo≤b∧b<w.heap.size∧b≠g)∧∀j u,cs[j]? =some u→w.cell? ⟨b,off+j,none⟩=some u
theorem NZ.of {lo g g':Nat} {w w':World} {A:Option Addr} {cs:List Value} (h:NZ lo g w A cs) (hs:w.heap.size≤w'.heap.size) (hb:∀k,lo≤k→k<w.heap.size→k≠g→w'.heap[k]? =w.heap[k]? ∧k≠g'):NZ lo g' w' A cs:=by
 rcases h with h|⟨b,off,h1,⟨h2,h3,h4⟩,h5⟩
 ·exact .inl h
 ·obtain ⟨e1,e2⟩:=hb b h2 h3 h4;exact .inr ⟨b,off,h1,⟨h2,by omega,e2⟩,fun j u hu=>(World.cell?_of_block (a:=⟨b,off+j,none⟩) e1).trans (h5 j u hu)⟩
theorem NZ.own {lo B g e s n c:Nat} {w:World} {A:Option Addr} {cs:List Value} (h:w.ownsRow B e s (.slice A n c) n cs) (hl:lo≤B) (hg:g<B):NZ lo g w A cs:=by
 by_cases h0:n=0
 ·refine .inl ?_;have:=h.1;rw [h0] at this;omega
 ·obtain ⟨b,cap,h1,h2⟩:=eU h (by omega);injection h1 with h1 _ _;subst h1;have h3:=fM h;refine .inr ⟨b,0,rfl,by omega,fun j u hu=>?_⟩;rw [Nat.zero_add];exact l9 h j u hu
structure ZX (lo g:Nat) (w:World) (y:dA):Prop where
 aj:NZ lo g w y.s.A (y.e.z.cal.aj.map I)
 rules:NZ lo g w y.s.B (y.e.z.cal.rules.flatMap Lr.cells)
 trans:NZ lo g w y.s.C (y.e.z.trans.flatMap Tr.cells)
 az:NZ lo g w y.s.D (y.e.z.az.flatMap Yr.cells)
theorem ZX.of {lo g g':Nat} {w w':World} {y:dA} (h:ZX lo g w y) (hs:w.heap.size≤w'.heap.size) (hb:∀k,lo≤k→k<w.heap.size→k≠g→w'.heap[k]? =w.heap[k]? ∧k≠g'):ZX lo g' w' y:=
 ⟨h.aj.of hs hb,h.rules.of hs hb,h.trans.of hs hb,h.az.of hs hb⟩
theorem NZ.at {lo g:Nat} {w:World} {A:Option Addr} {cs:List Value} (h:NZ lo g w A cs):aB w w.heap.size A cs:=by
 rcases h with h|⟨b,off,h1,⟨_,h3,_⟩,h5⟩
 ·exact .inl h
 ·exact .inr ⟨b,off,h1,h3,h5⟩
theorem ZX.at {lo g:Nat} {w:World} {y:dA} (h:ZX lo g w y):jR w w.heap.size y.s y.e.z:=⟨h.aj.at,h.rules.at,h.trans.at,h.az.at⟩
theorem NZ.lower {lo lo' g:Nat} {w:World} {A:Option Addr} {cs:List Value} (h:NZ lo g w A cs) (hl:lo'≤lo):NZ lo' g w A cs:=by
 rcases h with h|⟨b,off,h1,⟨h2,h3,h4⟩,h5⟩
 ·exact .inl h
 ·exact .inr ⟨b,off,h1,⟨by omega,h3,h4⟩,h5⟩
theorem ZX.lower {lo lo' g:Nat} {w:World} {y:dA} (h:ZX lo g w y) (hl:lo'≤lo):ZX lo' g w y:=
 ⟨h.aj.lower hl,h.rules.lower hl,h.trans.lower hl,h.az.lower hl⟩
structure I9 (lo:Nat) (w:World) (v:Value) (zs:List dA):Prop where
 row:w.ownsRow lo 55 9 v zs.length (aP zs)
 each:∀x∈zs,∃g,ZX lo g w x
 nil:zs.length=0→v= .slice none 0 0
theorem I9.aQ {lo:Nat} {w w':World} {v:Value} {zs:List dA} (h:I9 lo w v zs) (hs:w.heap.size≤w'.heap.size) (hb:∀k,lo≤k→k<w.heap.size→w'.heap[k]? =w.heap[k]?):I9 lo w' v zs:=
 ⟨bf h.row hb,fun x hx=>by obtain ⟨g,hg⟩:=h.each x hx;exact ⟨g,hg.of hs fun k h1 h2 h3=>⟨hb k h1 h2,h3⟩⟩,h.nil⟩
theorem I9.below {lo:Nat} {w w':World} {v:Value} {zs:List dA} (h:I9 lo w v zs) (hb:Below w.heap.size w w'):I9 lo w' v zs:=h.aQ hb.size fun k _ hk=>hb.block k hk
theorem I9.lower {lo lo':Nat} {w:World} {v:Value} {zs:List dA} (h:I9 lo w v zs) (hl:lo'≤lo):I9 lo' w v zs:=
 ⟨aX h.row hl,fun x hx=>by obtain ⟨g,hg⟩:=h.each x hx;exact ⟨g,hg.lower hl⟩,h.nil⟩
theorem I9.zes {lo:Nat} {w:World} {A:Option Addr} {n c:Nat} {zs:List dA} (h:I9 lo w (.slice A n c) zs):oD w w.heap.size A zs:=by
 refine ⟨?_,fun x hx=>by obtain ⟨g,hg⟩:=h.each x hx;exact hg.at⟩;by_cases h0:zs.length=0
 ·rw [List.eq_nil_of_length_eq_zero h0];exact .inl rfl
 ·obtain ⟨b,cap,h1,h2⟩:=eU h.row (by omega);injection h1 with h1 _ _;subst h1;have h3:=fM h.row;refine .inr ⟨b,0,rfl,by omega,fun j u hu=>?_⟩;rw [Nat.zero_add];exact l9 h.row j u hu
theorem TC (ys:List dA) (x:Ze) (s:Zs):lC (aP ys++fZ.toList) (ys.length*9) (⟨x,s⟩:dA).cells.toList=aP (ys++ [⟨x,s⟩]):=by
 have h:=qc (⟨x,s⟩:dA).cells.toList (aP ys) fZ.toList rfl;rw [dN] at h;rw [h,zV];unfold aP;rw [List.flatMap_cons,List.flatMap_nil,List.append_nil]
def TZeQ (M:Nat) (w:World) (rb pb po:Nat) (t:TypeId) (cs:Array Value) (zs:List Ze) (n:Nat) (R:List UInt8) (e:Ending) (w':World):Prop:=
 e= .returned (.tuple #[])∧∃A c ys,fQ M w' rb R∧bD w rb pb t (cs.setIfInBounds po (.slice A n c)) w'∧I9 w.heap.size w' (.slice A n c) ys∧ys.map (·.e)=zs
end Go.Proofs.YtdibbemgpikgjaaGreat
namespace Go.Proofs.YtdibbemgpikgjaaGreat
open Go Go.RowKit
attribute [local go_sem] dD dH dE dI ed eu dB dF dC dG jA jB
def RzuRel (M:Nat) (w:World) (rb pb po:Nat) (t:TypeId) (cs:Array Value) (n:Nat) (B:List UInt8) (i:Value) (wr:World):Prop:=
 ∃(k:Nat) (A:Option Addr) (c:Nat) (ys:List dA) (R:List UInt8),k≤n∧i= .int .i64 k∧eH Ha k B=some (ys.map (·.e),R)∧fQ M wr rb R∧bD w rb pb t (cs.setIfInBounds po (.slice A k c)) wr∧
  wr.ownsRow w.heap.size 55 9 (.slice A k c) k (aP ys)∧(∀y∈ys,∃g,A=some ⟨g,0,none⟩∧ZX w.heap.size g wr y)∧(k=0→A=none∧c=0)
theorem QD (M:Nat) (w:World) (rb pb po:Nat) (t:TypeId) (cs:Array Value) (B:List UInt8) (hr:fQ M w rb B) (hp:w.heap[pb]? =some (.cells cs t (0,0))) (hpo:cs[po]? =some (.slice none 0 0)) (mG:M≤pb) (hne:pb≠rb):
  Calls Tryz.prog 42 #[.iface 109 (pt rb), .pointer (some ⟨pb,po,none⟩),I 1, .func (.func 43) #[] #[]] w (dw (gY 1 Ha B) (dO w rb pb t cs) fun zs R=>TZeQ M w rb pb po t cs zs zs.length R):=by
 have hpl:pb<w.heap.size:=(bY.1 hp).1;have hlo:=hr.lo;have hrl:=hr.lt;have hcs:cs.setIfInBounds po (.slice none 0 0)=cs:=by
  apply Array.ext_getElem?;intro i;rw [Array.getElem?_setIfInBounds];split
  ·rename_i e;subst e;split
   ·exact hpo.symm
   ·rename_i e2;rw [Array.getElem?_eq_none (by omega)] at hpo;cases hpo
  ·rfl
 have hc0:w.cell? ⟨pb,po,none⟩=some (.slice none 0 0):=(cell_of_row w pb po _ _ _ hp).trans hpo;have hpos:po<cs.size:=(bY.1 hpo).1;have HC:=ae (oM M w.drew rb 1 0 B hr.drew (by omega));have Oa:Hid (bD w rb pb t cs w):=ae (bD.refl hp);have HP:Hid (bD w rb pb t (cs.setIfInBounds po (.slice none 0 0)) w):=ae (by rw [hcs];exact bD.refl hp);clear hr hp hpo hcs;obtain ⟨i0,hi,hz0,hz1,hz2⟩:=info_parts uQ;go_enter Tryz.func42,Tryz.ntmps42;go_wp2_with fail;go_still_tail 9,(by kernel_rfl);go_wp2_with fail;refine HC.out.mono ?_;intro e w1 h;rcases h.get with ⟨hq,hd⟩|⟨v,B1,hq,rfl,hr1,hk1⟩
 ·obtain ⟨rfl,hb⟩:=hd;exact ⟨rfl,dw.no (by unfold gY;rw [hq];rfl) ⟨rfl,cs,dU.refl cs,Oa.out.drew.grow hb hpl hne⟩⟩
 obtain ⟨n,rfl,hn⟩:=rU hq;have HQ:Hid (gY 1 Ha B=eH Ha n B1):=ae (by unfold gY;rw [hq];rfl);have HR1:=ae hr1;have lU:=ae (HP.out.drew.jZ hk1 hpl hne);clear hr1 hk1 HC hc0 h hq Oa;go_wp2_with fail
 go_loopw [22] (fun i wr=>RzuRel M w rb pb po t cs n B1 i wr) (fun i _=>n - (intOf i).toNat)
 case atStart=>exact ⟨0,none,0,[],B1,Nat.zero_le _,rfl,rfl,HR1.out,lU.out,World.ownsRow_nil _ _ _ _,(fun _ h=>nomatch h),fun _=>⟨rfl,rfl⟩⟩
 case round=>
  obtain ⟨k,A,c,ys,R,hk,rfl,hit,hr,hp,hown,hym,hnl⟩:=hrel;have hyl:ys.length=k:=by have h:=mZ _ _ _ _ _ hit;rwa [List.length_map] at h
  have HIT:=ae hit;have HR:=ae hr;have lV:=ae hp;have HO:=ae hown;have lW:=ae hyl;have IY:=ae hym;have KX:=ae hnl;have hcp:wr.cell? ⟨pb,po,none⟩=some (.slice A k c):=(hp.cell po).trans (by simp [hpos]);have hsw:=hp.size;clear hr hp hown hyl hit hym hnl HR1 lU HP;by_cases hlt:k<n
  ·have Ri:(0:Int)≤(k:Int):=by omega
   have i1:(k:Int)<(n:Int):=by omega
   have BB:Hid (∀j u,fZ.toList[j]? =some u→(((wr.alloc (.cells fZ 55)).alloc (.cells fZ 55)).drew).cell? ((⟨wr.heap.size+1,0,none⟩:Addr).add j)=some u):=ae fun j u hu=>by
    rw [addr_add];have h:=(Row.new (wr.alloc (.cells fZ 55)) fZ 55).2 j;rw [World.size_alloc] at h;exact h.trans (by simpa using hu)
   have vU:Hid (∀u∈fZ.toList,u.oneCell'=true):=ae (by
    intro u hu;have h:fZ.all (·.oneCell')=true:=by kernel_rfl
    rw [Array.all_eq_true_iff_forall_mem] at h;exact h u (by simpa using hu))
   have Uh:pb<wr.heap.size:=by omega
   have hmx:k+1≤maxLen:=by unfold maxLen;omega
   have hby:(k+1)*144≤140737488355328:=by omega
   have N7:Hid (w.heap.size≤(((wr.alloc (.cells fZ 55)).alloc (.cells fZ 55)).drew).heap.size):=ae (by simp;omega);have dR:Hid ((((wr.alloc (.cells fZ 55)).alloc (.cells fZ 55)).drew).heap.size=wr.heap.size+2):=ae (by simp);have RH:Hid ((((wr.alloc (.cells fZ 55)).alloc (.cells fZ 55)).drew).ownsRow w.heap.size 55 9 (.slice A k c) k (aP ys)):=ae ((HO.out.alloc _).alloc _).drew;have yF:Hid (∀b,b<wr.heap.size→(((wr.alloc (.cells fZ 55)).alloc (.cells fZ 55)).drew).heap[b]? =wr.heap[b]?):=ae fun b hb=>(Below.heap_alloc (wr.alloc (.cells fZ 55)) _ b (by simp;omega)).trans (Below.heap_alloc wr _ b hb);go_wp2_with fail
   go_region_law (refine step_append_lies _ (by rfl) _ _ _ (by rfl) w.heap.size 55 i0 (.agg fZ) 9 144 Tryz.underlying30 hi hz0 hz1 hz2 (by rfl) (by omega) (.slice A k c) k (aP ys) (by rfl) RH.out ⟨wr.heap.size+1,0,none⟩ 1 1 fZ.toList (by rfl) (by rfl) BB.out vU.out (by omega) hmx hby N7.out (wr.heap.size+2) dR.out ?_;intro g2 c2 w2 hown2 hgrow2 qE hlt2;have hbw:∀b,b<w.heap.size→w2.heap[b]? =wr.heap[b]? :=fun b hb=>(hgrow2.block b (Nat.lt_of_lt_of_eq (show b<wr.heap.size+2 by omega) dR.out.symm) (eG HO.out b hb)).trans (yF.out b (by omega));have HP2:Hid (w2.heap[pb]? =some (.cells (cs.setIfInBounds po (.slice A k c)) t (0,0))):=ae ((hbw pb hpl).trans lV.out.tgt);have hcp2:w2.cell? ⟨pb,po,none⟩=some (.slice A k c):=(cell_of_row w2 pb po _ _ _ HP2.out).trans (by simp [hpos]);have xw:=frozen_of_row w2 pb po _ _ HP2.out;have nR:=ae hbw;have mJ:=ae hown2;have HG2:=ae hgrow2;have HA2:=ae qE;clear hbw hown2 hgrow2 qE)
   all_goals
    have hs2:wr.heap.size+2≤w2.heap.size:=Nat.le_trans (Nat.le_of_eq dR.out.symm) HG2.out.size;have hkeep:∀b,b<wr.heap.size→some b≠(Value.slice A k c).ownBlock→w2.heap[b]? =wr.heap[b]? :=fun b hb hne=>(HG2.out.block b (Nat.lt_of_lt_of_eq (show b<wr.heap.size+2 by omega) dR.out.symm) hne).trans (yF.out b hb);have hlo2:=fM mJ.out;have hP3:bD w rb pb t (cs.setIfInBounds po (.slice (some ⟨g2,0,none⟩) (k+1) c2)) (w2.setCell ⟨pb,po,none⟩ (.slice (some ⟨g2,0,none⟩) (k+1) c2)):=by
     have h:bD w rb pb t (cs.setIfInBounds po (.slice A k c)) w2:=⟨HG2.out.os.trans lV.out.os,HG2.out.tape.trans lV.out.tape,HG2.out.output.trans lV.out.output,by omega,fun b hb h1 h2=>(nR.out b hb).trans (lV.out.block b hb h1 h2),HP2.out⟩;have h:=h.put po (.slice (some ⟨g2,0,none⟩) (k+1) c2)
     rwa [Array.setIfInBounds_setIfInBounds] at h
    have CP:fQ M (w2.setCell ⟨pb,po,none⟩ (.slice (some ⟨g2,0,none⟩) (k+1) c2)) rb R:=(HR.out.of (nR.out rb hrl) fun b hb=>nR.out b (by omega)).put mG hne _;have hO3:(w2.setCell ⟨pb,po,none⟩ (.slice (some ⟨g2,0,none⟩) (k+1) c2)).ownsRow w.heap.size 55 9 (.slice (some ⟨g2,0,none⟩) (k+1) c2) (k+1) (aP ys++fZ.toList):=dn (p:=⟨pb,po,none⟩) mJ.out (by intro e;injection e with e;simp only at e;omega);have hM3:∀y∈ys,ZX w.heap.size g2 (w2.setCell ⟨pb,po,none⟩ (.slice (some ⟨g2,0,none⟩) (k+1) c2)) y:=by
     intro y hy;obtain ⟨g,hA,hx⟩:=IY.out y hy;refine hx.of (by simp [World.setCell];omega) fun b b2 b3 b4=>?_;have hne1:some b≠(Value.slice A k c).ownBlock:=by
      rw [hA];intro e;injection e with e;exact b4 e
     refine ⟨(heap_setCell_other w2 _ b _ (by show b≠pb;omega)).trans (hkeep b b3 hne1),?_⟩;rcases HA2.out with h|h
     ·rw [hA] at h;injection h with h;intro e;exact b4 (e.trans h.symm)
     ·omega
    have dV:=ae hP3;have HR3:=ae CP;have mV:=ae hO3;have HM3:=ae hM3;clear hkeep hP3 CP hO3 hM3 HP2 nR mJ HG2 HA2 hcp;go_wp2_with fail;obtain ⟨w3,hw3⟩:∃W,w2.setCell ⟨pb,po,none⟩ (.slice (some ⟨g2,0,none⟩) (k+1) c2)=W:=⟨_,rfl⟩;rw [hw3] at dV HR3 mV HM3 ⊢;obtain ⟨cur,q1,q2,q3,q4,q5,q6,q7,_⟩:=ji mV.out;have hzz:∀j,j<9→cur[k*9+j]? =fZ[j]? :=fun j hj=>by
     have h:(cur.toList.take ((k+1)*9))[k*9+j]? =(aP ys++fZ.toList)[k*9+j]? :=by rw [q6]
     rw [List.getElem?_take_of_lt (by omega),List.getElem?_append_right (by rw [dN,lW.out];omega),dN,lW.out,show k*9+j - k*9=j by omega] at h;simpa using h
    refine (U0 M w3 rb g2 (k*9) 55 cur R HR3.out q1 hzz (by omega) (by omega)).mono ?_;intro e w4 xx;rcases xx.get with ⟨hq,hd⟩|⟨x,R4,hq,rfl,s4,hr4,gW,CS⟩
    ·obtain ⟨rfl,D,hD,hT⟩:=hd;exact ⟨rfl,dw.no (HQ.out.trans (oL _ _ _ (nO _ HIT.out hq) _ (by omega))) ⟨rfl,_,(dU.refl cs).set rfl,⟨hT.os.trans dV.out.os,hT.tape.trans dV.out.tape,hT.output.trans dV.out.output,Nat.le_trans dV.out.size hT.size,fun b hb h1 h2=>(hT.block b (dS hb dV.out.size) (by omega) h2).trans (dV.out.block b hb h1 h2),(hT.block pb (dS hpl dV.out.size) (by omega) hne).trans dV.out.tgt⟩⟩⟩
    have Gl:Hid (eH Ha (k+1) B1=some ((ys++ [(⟨x,s4⟩:dA)]).map (·.e),R4)):=ae (by rw [List.map_append];exact nN _ HIT.out hq);have hO4:=Be mV.out q1 gW;rw [←lW.out,TC ys x s4,lW.out] at hO4;have FB:bD w rb pb t (cs.setIfInBounds po (.slice (some ⟨g2,0,none⟩) (k+1) c2)) w4:=⟨gW.os.trans dV.out.os,gW.tape.trans dV.out.tape,gW.output.trans dV.out.output,Nat.le_trans dV.out.size gW.size,fun b hb h1 h2=>(gW.block b (dS hb dV.out.size) (by omega) h2).trans (dV.out.block b hb h1 h2),(gW.block pb (dS hpl dV.out.size) (by omega) hne).trans dV.out.tgt⟩;have hs3:w3.heap.size=w2.heap.size:=by rw [←hw3];simp [World.setCell]
    have hM4:∀y∈ys++ [(⟨x,s4⟩:dA)],∃g,(some ⟨g2,0,none⟩:Option Addr)=some ⟨g,0,none⟩∧ZX w.heap.size g w4 y:=by
     intro y hy;refine ⟨g2,rfl,?_⟩;rcases List.mem_append.1 hy with hy|hy
     ·exact (HM3.out y hy).of gW.size fun b b2 b3 b4=>⟨gW.block b b3 b4 (by omega),b4⟩
     ·rw [List.mem_singleton.1 hy];exact ⟨.own CS.aj (by omega) (by omega), .own CS.rules (by omega) (by omega), .own CS.trans (by omega) (by omega), .own CS.az (by omega) (by omega)⟩
    have HR4:=ae hr4;have pV:=ae FB;have uZ:=ae hO4;have Iq:=ae hM4;clear hr4 gW CS hO4 FB hM4 xx hq q1 q2 q3 q4 q5 q6 q7 hw3 hcp2 xw hzz;go_wp2_with fail;go_roundw
    case rel=>exact ⟨k+1,some ⟨g2,0,none⟩,c2,_,R4,by omega,by go_num,Gl.out,HR4.out,pV.out,uZ.out,Iq.out,fun h=>by omega⟩
    case measure=>simp [intOf];omega
  ·have hkn:k=n:=by omega
   have kY:=ae hkn;have hlt':¬(k:Int)<(n:Int):=by omega
   clear hkn hlt hcp;go_wp2_with fail
   go_end0
   have hit:=HIT.out;rw [kY.out] at hit;have hzl:(ys.map (·.e)).length=n:=by rw [List.length_map];exact lW.out.trans kY.out
   refine dw.yes (HQ.out.trans hit) ?_;rw [hzl];refine ⟨rfl,A,c,ys,HR.out,?_,⟨?_,fun y hy=>?_,fun h=>?_⟩,rfl⟩
   ·have h:=lV.out
    rwa [kY.out] at h
   ·have h:=HO.out;rw [kY.out] at h;rw [lW.out,kY.out];exact h
   ·obtain ⟨g,_,h⟩:=IY.out y hy;exact ⟨g,h⟩
   ·obtain ⟨h1,h2⟩:=KX.out (lW.out.symm.trans h);have h0:n=0:=by have:=lW.out;have:=kY.out;omega
    rw [h1,h2,h0]
end Go.Proofs.YtdibbemgpikgjaaGreat
namespace Go.Proofs.YtdibbemgpikgjaaGreat
open Go Go.RowKit
attribute [local go_sem] dD dH dE dI ed eu dB dF dC dG
def TWhQ (M:Nat) (w:World) (rb tb:Nat) (t:Tb) (n:Nat) (R:List UInt8) (e:Ending) (w':World):Prop:=
 e= .returned (.tuple #[])∧∃A c ys,fQ M w' rb R∧bD w rb tb 32 (ai {t with bJ:=aS} (.slice A n c)) w'∧I9 w.heap.size w' (.slice A n c) ys∧ys.map (·.e)=t.aK
end Go.Proofs.YtdibbemgpikgjaaGreat
namespace Go.Proofs.YtdibbemgpikgjaaGreat
open Go Go.RowKit
attribute [local go_sem] dD dH dE dI ed eu dB dF dC dG jA jB
theorem U1 (M:Nat) (w:World) (rb tb:Nat) (B0:List UInt8) (hr:fQ M w rb B0) (hp:w.heap[tb]? =some (.cells (ai bn (.slice none 0 0)) 32 (0,0))) (hM:M≤tb) (hne:tb≠rb):
  Calls Tryz.prog 23 #[.iface 109 (pt rb), .pointer (some ⟨tb,0,none⟩)] w (dw (Eb B0) (dO w rb tb 32 (ai bn (.slice none 0 0))) fun t R=>TWhQ M w rb tb t t.aK.length R):=by
 have hel:tb<w.heap.size:=(bY.1 hp).1;have hrw:=hr.lt;have hz:∀(u:Tb) (v:Value),u.prev.length=32→u.bJ.length=32→(ai u v).size=68:=fun u v h1 h2=>aZ u v h1 h2;have jO:=ae (fD M w.drew rb tb 0 1 32 _ B0 hr.drew (by omega) hp (by rw [hz _ _ rfl rfl];decide) hM hne);have HZ:=ae hz;have HZ0:Hid ((ai bn (.slice none 0 0)).size=68):=ae (hz _ _ rfl rfl);clear hr hp hz;go_enter Tryz.func23,Tryz.ntmps23;go_wp2_with fail;go_still_tail 7,(by kernel_rfl);go_wp2_with fail;refine jO.out.mono ?_;intro e w1 h;rcases h.get with ⟨hq,hd⟩|⟨vi,B1,hq,rfl,hr1,hp1⟩
 ·obtain ⟨rfl,hd2⟩:=hd;exact ⟨rfl,dw.no (by simp only [Eb,hq,Option.bind_none]) (dO.bz ⟨rfl,hd2⟩)⟩
 have vX:=ae hq;rw [rW] at hp1;have lU:=ae hp1.bz;have HC2:=ae (fD M w1.drew rb tb 1 1 32 _ B1 hr1.drew (by omega) hp1.tgt (by rw [HZ.out _ _ rfl rfl];decide) hM hne);clear hr1 hp1 jO h hq;go_wp2_with fail;go_still_tail 7,(by kernel_rfl);go_wp2_with fail;refine HC2.out.mono ?_;intro e w2 h;rcases h.get with ⟨hq,hd⟩|⟨vv,B2,hq,rfl,hr2,hp2⟩
 ·obtain ⟨rfl,hd2⟩:=hd;exact ⟨rfl,dw.no (by simp only [Eb,vX.out,hq,Option.bind_some,Option.bind_none]) (dO.after (dO.bz ⟨rfl,hd2⟩) lU.out ⟨by rw [HZ.out _ _ rfl rfl,HZ0.out],fun _=>aT _ _ _ _⟩)⟩
 have yz:=ae hq;rw [qG] at hp2;have HP2:=ae (lU.out.trans hp2.bz);have qy:=ae (fD M w2.drew rb tb 2 1 32 _ B2 hr2.drew (by omega) hp2.tgt (by rw [HZ.out _ _ rfl rfl];decide) hM hne);clear hr2 hp2 HC2 h hq;go_wp2_with fail;go_still_tail 7,(by kernel_rfl);go_wp2_with fail;refine qy.out.mono ?_;intro e w3 h;rcases h.get with ⟨hq,hd⟩|⟨vw,B3,hq,rfl,hr3,hp3⟩
 ·obtain ⟨rfl,hd2⟩:=hd;exact ⟨rfl,dw.no (by simp only [Eb,vX.out,yz.out,hq,Option.bind_some,Option.bind_none]) (dO.after (dO.bz ⟨rfl,hd2⟩) HP2.out ⟨by rw [HZ.out _ _ rfl rfl,HZ0.out],fun _=>aT _ _ _ _⟩)⟩
 have Y0:=ae hq;rw [nZ] at hp3;have dV:=ae (HP2.out.trans hp3.bz);have qH:=ae (Hr M w3.drew rb tb 4 32 _ B3 hr3.drew hp3.tgt (by rw [HZ.out _ _ rfl rfl];decide) hM hne);clear hr3 hp3 qy h hq;go_wp2_with fail;go_still_tail 7,(by kernel_rfl);go_wp2_with fail;refine qH.out.mono ?_;intro e w4 h;rcases h.get with ⟨hq,hd⟩|⟨pv,B4,hq,rfl,hr4,gW⟩
 ·obtain ⟨rfl,hd2⟩:=hd;exact ⟨rfl,dw.no (by simp only [Eb,vX.out,yz.out,Y0.out,hq,Option.bind_some,Option.bind_none]) (dO.after (dO.bz ⟨rfl,hd2⟩) dV.out ⟨by rw [HZ.out _ _ rfl rfl,HZ0.out],fun _=>aT _ _ _ _⟩)⟩
 have hpl:pv.length=32:=by
  have h:=hq;unfold pD at h;split at h
  ·simp only [Option.some.injEq,Prod.mk.injEq] at h;rw [←h.1,List.length_take];omega
  ·simp at h
 have HY4:=ae hq;rw [wM _ _ _ rfl hpl] at gW;have pV:=ae (dV.out.trans gW.bz);have yt:=ae (QD M w4 rb tb 3 32 _ B4 hr4 gW.tgt (bK _ _) hM hne);clear hr4 gW qH h hq;go_wp2_with fail;refine yt.out.mono ?_;intro e w5 h;rcases h.get with ⟨hq,hd⟩|⟨zs,B5,hq,rfl,A,c,ys,tq,xA,Zg,he5⟩
 ·obtain ⟨rfl,hd2⟩:=hd;exact ⟨rfl,dw.no (by simp only [Eb,vX.out,yz.out,Y0.out,HY4.out,hq,Option.bind_some,Option.map_none]) (dO.after ⟨rfl,hd2⟩ pV.out ⟨by rw [HZ.out _ _ hpl rfl,HZ0.out],fun _=>aT _ _ _ _⟩)⟩
 have Y1:=ae hq;rw [lM] at xA;have qJ:=ae tq;have EU:=ae (pV.out.trans xA);have sH:=ae (Zg.lower pV.out.size);have HE5:=ae he5;clear tq xA Zg he5 yt h hq;go_wp2_with fail
 go_end0
 refine dw.yes (a:=⟨vi,vv,vw,pv,aS,zs⟩) (R:=B5) (by simp only [Eb,vX.out,yz.out,Y0.out,HY4.out,Y1.out,Option.bind_some,Option.map_some]) ?_;exact ⟨rfl,A,c,ys,qJ.out,EU.out,sH.out,HE5.out⟩
end Go.Proofs.YtdibbemgpikgjaaGreat
namespace Go.Proofs.YtdibbemgpikgjaaGreat
open Go Go.RowKit
attribute [local go_sem] dD dH dE dI ed eu dB dF dC dG
def DiesZ (w:World) (rb pb po:Nat) (t:TypeId) (cs:Array Value) (e:Ending) (w':World):Prop:=e= .panicked kR∧∃g c,bD w rb pb t (cs.setIfInBounds po (.slice (some ⟨g,0,none⟩) 1 c)) w'
def DiesW (w:World) (rb tb:Nat) (t:Tb) (e:Ending) (w':World):Prop:=e= .panicked kR∧∃g c,bD w rb tb 32 (ai {t with bJ:=aS,aK:= []} (.slice (some ⟨g,0,none⟩) 1 c)) w'
def qg (t:Tb) (x:Ze):List UInt8:=le t.bC 1++(le t.version 1++(le t.aH 1++(t.prev++(le 1 1++qw x))))
theorem J7 (M:Nat) (w:World) (rb pb po:Nat) (t:TypeId) (cs:Array Value) (x:Ze) (Uk:ig x.z∧x.name.size≤32) (hr:fQ M w rb (le 1 1++qw x)) (hp:w.heap[pb]? =some (.cells cs t (0,0))) (hpo:cs[po]? =some (.slice none 0 0)) (mG:M≤pb) (hne:pb≠rb):
  Calls Tryz.prog 42 #[.iface 109 (pt rb), .pointer (some ⟨pb,po,none⟩),I 1, .func (.func 43) #[] #[]] w (DiesZ w rb pb po t cs):=by
 have hpl:pb<w.heap.size:=(bY.1 hp).1;have hlo:=hr.lo;have hrl:=hr.lt;have hcs:cs.setIfInBounds po (.slice none 0 0)=cs:=by
  apply Array.ext_getElem?;intro i;rw [Array.getElem?_setIfInBounds];split
  ·rename_i e;subst e;split
   ·exact hpo.symm
   ·rename_i e2;rw [Array.getElem?_eq_none (by omega)] at hpo;cases hpo
  ·rfl
 have hc0:w.cell? ⟨pb,po,none⟩=some (.slice none 0 0):=(cell_of_row w pb po _ _ _ hp).trans hpo;have hpos:po<cs.size:=(bY.1 hpo).1;have HC:=ae (kH M w.drew rb 1 0 1 1 (qw x) hr.drew (by omega) (iG _ (by omega) (by omega) _));have HP:Hid (bD w rb pb t (cs.setIfInBounds po (.slice none 0 0)) w):=ae (by rw [hcs];exact bD.refl hp);have KO:=ae Uk;clear hr hp hpo hcs Uk;obtain ⟨i0,hi,hz0,hz1,hz2⟩:=info_parts uQ;go_enter Tryz.func42,Tryz.ntmps42;go_wp2_with fail;go_still_tail 9,(by kernel_rfl);go_wp2_with fail;refine HC.out.mono ?_;rintro e w1 ⟨rfl,hr1,hk1⟩;have HR1:=ae hr1;have lU:=ae (HP.out.drew.jZ hk1 hpl hne);clear hr1 hk1 HC hc0;go_wp2_with fail
 go_loopw [22] (fun i wr=>i= .int .i64 0∧fQ M wr rb (qw x)∧bD w rb pb t (cs.setIfInBounds po (.slice none 0 0)) wr) (fun _ _=>0)
 case atStart=>exact ⟨rfl,HR1.out,lU.out⟩
 case round=>
  obtain ⟨rfl,hr,hp⟩:=hrel;have HR:=ae hr;have lV:=ae hp;have hcp:wr.cell? ⟨pb,po,none⟩=some (.slice none 0 0):=(hp.cell po).trans (by simp [hpos]);have hsw:=hp.size;clear hr hp HR1 lU HP;have BB:Hid (∀j u,fZ.toList[j]? =some u→(((wr.alloc (.cells fZ 55)).alloc (.cells fZ 55)).drew).cell? ((⟨wr.heap.size+1,0,none⟩:Addr).add j)=some u):=ae fun j u hu=>by
   rw [addr_add];have h:=(Row.new (wr.alloc (.cells fZ 55)) fZ 55).2 j;rw [World.size_alloc] at h;exact h.trans (by simpa using hu)
  have vU:Hid (∀u∈fZ.toList,u.oneCell'=true):=ae (by
   intro u hu;have h:fZ.all (·.oneCell')=true:=by kernel_rfl
   rw [Array.all_eq_true_iff_forall_mem] at h;exact h u (by simpa using hu))
  have Uh:pb<wr.heap.size:=by omega
  have hmx:0+1≤maxLen:=by unfold maxLen;omega
  have hby:(0+1)*144≤140737488355328:=by omega
  have N7:Hid (w.heap.size≤(((wr.alloc (.cells fZ 55)).alloc (.cells fZ 55)).drew).heap.size):=ae (by simp;omega);have dR:Hid ((((wr.alloc (.cells fZ 55)).alloc (.cells fZ 55)).drew).heap.size=wr.heap.size+2):=ae (by simp);have RH:Hid ((((wr.alloc (.cells fZ 55)).alloc (.cells fZ 55)).drew).ownsRow w.heap.size 55 9 (.slice none 0 0) 0 []):=ae (World.ownsRow_nil _ _ _ _);have yF:Hid (∀b,b<wr.heap.size→(((wr.alloc (.cells fZ 55)).alloc (.cells fZ 55)).drew).heap[b]? =wr.heap[b]?):=ae fun b hb=>(Below.heap_alloc (wr.alloc (.cells fZ 55)) _ b (by simp;omega)).trans (Below.heap_alloc wr _ b hb);go_wp2_with fail
  go_region_law (refine step_append_lies _ (by rfl) _ _ _ (by rfl) w.heap.size 55 i0 (.agg fZ) 9 144 Tryz.underlying30 hi hz0 hz1 hz2 (by rfl) (by omega) (.slice none 0 0) 0 [] (by rfl) RH.out ⟨wr.heap.size+1,0,none⟩ 1 1 fZ.toList (by rfl) (by rfl) BB.out vU.out (by omega) hmx hby N7.out (wr.heap.size+2) dR.out ?_;intro g2 c2 w2 hown2 hgrow2 qE hlt2;have hbw:∀b,b<w.heap.size→w2.heap[b]? =wr.heap[b]? :=fun b hb=>(hgrow2.block b (Nat.lt_of_lt_of_eq (show b<wr.heap.size+2 by omega) dR.out.symm) (by simp [Value.ownBlock])).trans (yF.out b (by omega));have HP2:Hid (w2.heap[pb]? =some (.cells (cs.setIfInBounds po (.slice none 0 0)) t (0,0))):=ae ((hbw pb hpl).trans lV.out.tgt);have hcp2:w2.cell? ⟨pb,po,none⟩=some (.slice none 0 0):=(cell_of_row w2 pb po _ _ _ HP2.out).trans (by simp [hpos]);have xw:=frozen_of_row w2 pb po _ _ HP2.out;have nR:=ae hbw;have mJ:=ae hown2;have HG2:=ae hgrow2;have HA2:=ae qE;clear hbw hown2 hgrow2 qE)
  all_goals
   have hs2:wr.heap.size+2≤w2.heap.size:=Nat.le_trans (Nat.le_of_eq dR.out.symm) HG2.out.size;have hlo2:=fM mJ.out;have hP3:bD w rb pb t (cs.setIfInBounds po (.slice (some ⟨g2,0,none⟩) 1 c2)) (w2.setCell ⟨pb,po,none⟩ (.slice (some ⟨g2,0,none⟩) 1 c2)):=by
    have h:bD w rb pb t (cs.setIfInBounds po (.slice none 0 0)) w2:=⟨HG2.out.os.trans lV.out.os,HG2.out.tape.trans lV.out.tape,HG2.out.output.trans lV.out.output,by omega,fun b hb h1 h2=>(nR.out b hb).trans (lV.out.block b hb h1 h2),HP2.out⟩;have h:=h.put po (.slice (some ⟨g2,0,none⟩) 1 c2)
    rwa [Array.setIfInBounds_setIfInBounds] at h
   have CP:fQ M (w2.setCell ⟨pb,po,none⟩ (.slice (some ⟨g2,0,none⟩) 1 c2)) rb (qw x):=(HR.out.of (nR.out rb hrl) fun b hb=>nR.out b (by omega)).put mG hne _;have hO3:(w2.setCell ⟨pb,po,none⟩ (.slice (some ⟨g2,0,none⟩) 1 c2)).ownsRow w.heap.size 55 9 (.slice (some ⟨g2,0,none⟩) (0+1) c2) (0+1) ([]++fZ.toList):=dn (p:=⟨pb,po,none⟩) mJ.out (by intro e;injection e with e;simp only at e;omega);have dV:=ae hP3;have HR3:=ae CP;have mV:=ae hO3;clear hP3 CP hO3 HP2 nR mJ HG2 HA2 hcp;go_wp2_with fail;obtain ⟨w3,hw3⟩:∃W,w2.setCell ⟨pb,po,none⟩ (.slice (some ⟨g2,0,none⟩) 1 c2)=W:=⟨_,rfl⟩
   (try rw [hw3] at dV HR3 mV ⊢)
   obtain ⟨cur,q1,q2,q3,q4,q5,q6,q7,_⟩:=ji mV.out;have hzz:∀j,j<9→cur[0+j]? =fZ[j]? :=fun j hj=>by
    have h:(cur.toList.take ((0+1)*9))[j]? =([]++fZ.toList)[j]? :=by rw [q6]
    rw [List.getElem?_take_of_lt (by omega)] at h;simpa using h
   refine (Ns M w3 rb g2 0 55 cur x KO.out.1 KO.out.2 HR3.out q1 hzz (by omega) (by omega)).mono ?_;rintro e w4 ⟨rfl,C,_,gW⟩;exact ⟨rfl,rfl,g2,c2,⟨gW.os.trans dV.out.os,gW.tape.trans dV.out.tape,gW.output.trans dV.out.output,Nat.le_trans dV.out.size gW.size,fun b hb h1 h2=>(gW.block b (dS hb dV.out.size) (by omega) h2).trans (dV.out.block b hb h1 h2),(gW.block pb (dS hpl dV.out.size) (by omega) hne).trans dV.out.tgt⟩⟩
theorem NC (M:Nat) (w:World) (rb tb:Nat) (t:Tb) (x:Ze) (h:lF t) (Uk:ig x.z∧x.name.size≤32) (hr:fQ M w rb (qg t x)) (hp:w.heap[tb]? =some (.cells (ai bn (.slice none 0 0)) 32 (0,0))) (hM:M≤tb) (hne:tb≠rb):
  Calls Tryz.prog 23 #[.iface 109 (pt rb), .pointer (some ⟨tb,0,none⟩)] w (DiesW w rb tb t):=by
 have hel:tb<w.heap.size:=(bY.1 hp).1;have hrw:=hr.lt;have hz:∀(u:Tb) (v:Value),u.prev.length=32→u.bJ.length=32→(ai u v).size=68:=fun u v h1 h2=>aZ u v h1 h2;have hr':fQ M w.drew rb (le t.bC 1++(le t.version 1++(le t.aH 1++(t.prev++(le 1 1++qw x))))):=hr.drew;have q1:=h.bC;have q2:=h.version;have q3:=h.aH;have jO:=ae (iY M w.drew rb tb 0 1 32 _ t.bC t.bC _ hr' (by omega) (iG _ (by omega) (by omega) _) hp (by rw [hz _ _ rfl rfl];decide) hM hne);have HF:=ae h;have HZ:=ae hz;clear h hr hr' hp hz;go_enter Tryz.func23,Tryz.ntmps23;go_wp2_with fail;go_still_tail 7,(by kernel_rfl);go_wp2_with fail;refine jO.out.mono ?_;rintro e w1 ⟨rfl,hr1,hp1⟩;rw [rW] at hp1;have lU:=ae hp1.bz;have HC2:=ae (iY M w1.drew rb tb 1 1 32 _ t.version t.version _ hr1.drew (by omega) (iG _ (by omega) (by omega) _) hp1.tgt (by rw [HZ.out _ _ rfl rfl];decide) hM hne);clear hr1 hp1 jO;go_wp2_with fail;go_still_tail 7,(by kernel_rfl);go_wp2_with fail;refine HC2.out.mono ?_;rintro e w2 ⟨rfl,hr2,hp2⟩;rw [qG] at hp2;have HP2:=ae (lU.out.trans hp2.bz);have qy:=ae (iY M w2.drew rb tb 2 1 32 _ t.aH t.aH _ hr2.drew (by omega) (iG _ (by omega) (by omega) _) hp2.tgt (by rw [HZ.out _ _ rfl rfl];decide) hM hne);clear hr2 hp2 HC2;go_wp2_with fail;go_still_tail 7,(by kernel_rfl);go_wp2_with fail;refine qy.out.mono ?_;rintro e w3 ⟨rfl,hr3,hp3⟩;rw [nZ] at hp3;have dV:=ae (HP2.out.trans hp3.bz);have qH:=ae (uD M w3.drew rb tb 4 32 _ t.prev _ hr3.drew HF.out.prev hp3.tgt (by rw [HZ.out _ _ rfl rfl];decide) hM hne);clear hr3 hp3 qy;go_wp2_with fail;go_still_tail 7,(by kernel_rfl);go_wp2_with fail;refine qH.out.mono ?_;rintro e w4 ⟨rfl,hr4,gW⟩;rw [wM _ _ _ rfl HF.out.prev] at gW;have pV:=ae (dV.out.trans gW.bz);have yt:=ae (J7 M w4 rb tb 3 32 _ x Uk hr4 gW.tgt (bK _ _) hM hne);clear hr4 gW qH;go_wp2_with fail;refine yt.out.mono ?_;rintro e w5 ⟨rfl,g,c,xA⟩;rw [lM] at xA;exact ⟨rfl,rfl,g,c,pV.out.trans xA⟩
end Go.Proofs.YtdibbemgpikgjaaGreat
namespace Go.Proofs.YtdibbemgpikgjaaGreat
open Go Go.RowKit
attribute [local go_sem] dD dH dE dI ed eu dB dF dC dG
theorem xU (b:Nat) (w:World) (v:Value) (hq:w.heap[b]? =some (.cells #[v] 4 (0,0))):
  CallsD Tryz.prog 40 #[.pointer (some ⟨b,0,none⟩)] (.panicking kR) w fun e u' w'=>e= .returned (.tuple #[])∧u'= .panicking [{v:= .iface 107 (.agg #[]),recovered:=true}]∧iT b w w'∧w'.heap[b]? =some (.cells #[.bool false] 4 (0,0)):=by
 have hnn:∀w,(binOp .neq 20 (.iface 107 (.agg #[])) .nilIface).run Tryz.prog w= .ok (.bool true) w:=by intro w;simp [go_sem]
 have hta:∀w,(Instr.typeAssert (.iface 107 (.agg #[])) 20 107 true).run Tryz.prog w= .ok (.tuple #[.agg #[], .bool true]) w:=by intro w;kernel_rfl
 have HB1:=ae (ag w (.cells #[] 107));have hq1:(w.alloc (.cells #[] 107)).heap[b]? =some (.cells #[v] 4 (0,0)):=(HB1.out.block _ (iU hq)).trans hq;have hcc:=cell_of_row _ b 0 _ _ _ hq1;have hfc:=frozen_of_row _ b 0 _ _ hq1;have HK:Hid (iT b w ((w.alloc (.cells #[] 107)).setCell ⟨b,0,none⟩ (.bool false))):=ae ⟨rfl,rfl,rfl,by simp [World.setCell],fun k hk hn=>(heap_setCell_other _ ⟨b,0,none⟩ k _ hn).trans (Below.heap_alloc w _ k hk)⟩;have HQ:Hid (((w.alloc (.cells #[] 107)).setCell ⟨b,0,none⟩ (.bool false)).heap[b]? =some (.cells #[.bool false] 4 (0,0))):=ae (by rw [heap_setCell_same _ b 0 _ _ _ hq1];rfl);clear hq hq1 HB1;unfold kR;refine callsD_of_wpS Tryz.func40 rfl fun c₀ cs hu=>?_;apply wpS_seq;apply wpS_region;simp [wpOpsS,go_sem,recoverD,hu,Tryz.ntmps40,Exit.thenS];refine wpS_of_wp ?_;simp only [Array.replicate_succ,Array.replicate_zero,List.push_toArray,List.append_toArray,List.nil_append,List.cons_append,List.setIfInBounds_toArray,List.set_cons_zero,List.set_cons_succ];go_wp2_with fail;simp [bodyPostS,results,Tryz.results40];exact ⟨HK.out,HQ.out⟩
theorem UY (w:World) (t:Tb) (x:Ze) (N b off c:Nat) (h:lF t) (Uk:ig x.z∧x.name.size≤32) (hN:(qg t x).length=N) (hbl:b<w.heap.size) (hc1:N≤c) (hc2:c≤9223372036854775807)
  (hA:∀j,j<N→w.cell? ⟨b,off+j,none⟩=some (Extern.Stop.cell ((qg t x)[j]?.getD 0))):
  Calls Tryz.prog 20 #[.slice (some ⟨b,off,none⟩) N c] w fun e w'=>(∃g cz,e= .returned (.tuple #[.agg (ai {t with bJ:=aS,aK:= []} (.slice (some ⟨g,0,none⟩) 1 cz)), .bool false]))∧Below w.heap.size w w':=by
 have hmf:∀(fn:Fn) (first cap:Array Value) (w:World),(Instr.makeFunc fn first cap).run Tryz.prog w= .ok (.func fn first cap) w:=fun _ _ _ _=>rfl;obtain ⟨W,hW⟩:∃W,((w.alloc (.cells (ai bn (.slice none 0 0)) 32)).alloc (.cells #[.bool false] 4)).alloc (.cells #[.slice (some ⟨b,off,none⟩) N c] 110)=W:=⟨_,rfl⟩;have hB:Below w.heap.size w W:=by rw [←hW];exact (((Below.refl _ w).alloc (Nat.le_refl _) _).alloc (by simp) _).alloc (by simp;omega) _
 have hs:W.heap.size=w.heap.size+3:=by rw [←hW];simp
 have ht:W.heap[w.heap.size]? =some (.cells (ai bn (.slice none 0 0)) 32 (0,0)):=by rw [←hW];exact (Below.heap_alloc _ _ _ (by simp;omega)).trans (heap_alloc2_old w _ _)
 have ho:W.heap[w.heap.size+1]? =some (.cells #[.bool false] 4 (0,0)):=by rw [←hW];exact (Below.heap_alloc _ _ _ (by simp)).trans (heap_alloc2_new w _ _)
 have hr:fQ w.heap.size W (w.heap.size+2) (qg t x):=by
  refine ⟨⟨b,off,c,?_,by rw [hN];exact hc1,hc2,hbl,fun j hj=>(hB.cell (p:=⟨b,off+j,none⟩) hbl).trans (hA j (by omega))⟩,by omega⟩;rw [←hW,hN];have:=heap_alloc_last ((w.alloc (.cells (ai bn (.slice none 0 0)) 32)).alloc (.cells #[.bool false] 4)) (.cells #[.slice (some ⟨b,off,none⟩) N c] 110);simpa using this
 have HB:=ae hB;have HS:=ae hs;have HO:=ae ho;have HC:=ae (NC w.heap.size W (w.heap.size+2) w.heap.size t x h Uk hr ht (Nat.le_refl _) (by omega));have vH:=h.prev;clear h hN hA hB hs ht ho hr
 go_enter_defers Tryz.func20,Tryz.ntmps20
 go_wp2_with fail;rw [fK,hW];refine HC.out.mono ?_;rintro e w2 ⟨rfl,g,cz,hp2⟩;have hs0:=HS.out;have ho2:w2.heap[w.heap.size+1]? =some (.cells #[.bool false] 4 (0,0)):=(hp2.block _ (by omega) (by omega) (by omega)).trans HO.out;have HB2:=ae (hp2.grown HB.out (Nat.le_refl _) (by omega) (by omega));refine leaves_cons (f:=40) (args:= #[.pointer (some ⟨w.heap.size+1,0,none⟩)]) (by simp) (by simp [go_sem]) ?_;refine (xU (w.heap.size+1) w2 (.bool false) ho2).mono ?_;rintro e u' w3 ⟨rfl,rfl,hk3,hq3⟩;have hv3:w3.heap[w.heap.size]? =some (.cells (ai {t with bJ:=aS,aK:= []} (.slice (some ⟨g,0,none⟩) 1 cz)) 32 (0,0)):=(hk3.block _ (by have:=hp2.size;omega) (by omega)).trans hp2.tgt;have hc3:=cell_of_row _ (w.heap.size+1) 0 _ _ _ hq3;refine ⟨_,iV rfl _ _ w.heap.size (w.heap.size+1) _ (ai {t with bJ:=aS,aK:= []} (.slice (some ⟨g,0,none⟩) 1 cz)) (0,0) _ (.bool false) rfl hv3 Tryz.underlying32 rfl (bP {t with bJ:=aS,aK:= []} _ vH rfl) rfl (jh _ _ _ hc3),⟨g,cz,rfl⟩,?_⟩;have h1:=HB2.out;exact ⟨hk3.os.trans h1.os,hk3.tape.trans h1.tape,hk3.output.trans h1.output,Nat.le_trans h1.size hk3.size,fun k hk=>(hk3.block k (dS hk h1.size) (by omega)).trans (h1.block k hk)⟩
theorem Hm (w:World) (t:Tb) (x:Ze) (N b off c:Nat) (h:lF t) (Uk:ig x.z∧x.name.size≤32) (hN:(qg t x).length=N) (hbl:b<w.heap.size) (hc1:N≤c) (hc2:c≤9223372036854775807)
  (hA:∀j,j<N→w.cell? ⟨b,off+j,none⟩=some (Extern.Stop.cell ((qg t x)[j]?.getD 0))):
  Calls Tryz.prog 6 #[.slice (some ⟨b,off,none⟩) N c] w (Gives (.tuple #[.agg (ai bn (.slice none 0 0)), .int .i64 3]) w):=by
 have HW0:=ae (AV.new w (ai bn (.slice none 0 0)) 32);have HB0:=ae (ag w (.cells (ai bn (.slice none 0 0)) 32));have HC:Hid (∀W,Below w.heap.size w W→Calls Tryz.prog 20 #[.slice (some ⟨b,off,none⟩) N c] W fun e w'=>(∃g cz,e= .returned (.tuple #[.agg (ai {t with bJ:=aS,aK:= []} (.slice (some ⟨g,0,none⟩) 1 cz)), .bool false]))∧Below W.heap.size W w'):=ae (fun W hb=>UY W t x N b off c h Uk hN (dS hbl hb.size) hc1 hc2 fun j hj=>(hb.cell (p:=⟨b,off+j,none⟩) hbl).trans (hA j hj));have vH:=h.prev;clear h hN hA;go_enter Tryz.func6,Tryz.ntmps6;go_upto_region 1 with ((with_reducible refine bu 32 ?_);go_must (refine aN rfl _ rfl (ai bn (.slice none 0 0)) eP ?_));go_wp2_with fail;refine (HC.out _ HB0.out).mono ?_;rintro e w2 ⟨⟨g,cz,rfl⟩,hb2⟩;have HR2:=ae (HW0.out.below hb2);have HB2:=ae (ah HB0.out hb2);have dR:Hid ((Tryz.prog.info? 32).map (·.size)=some (ai {t with bJ:=aS,aK:= []} (.slice (some ⟨g,0,none⟩) 1 cz)).size):=ae (bP {t with bJ:=aS,aK:= []} _ vH rfl);have yw:Hid ((ai bn (.slice none 0 0)).size=(ai {t with bJ:=aS,aK:= []} (.slice (some ⟨g,0,none⟩) 1 cz)).size):=ae ((aZ bn _ rfl rfl).trans (aZ {t with bJ:=aS,aK:= []} _ vH rfl).symm);have hw2:w.heap.size<w2.heap.size:=HR2.out.lt;have Iz:Hid ((Tryz.prog.info? 32).map (·.size)=some (ai bn (.slice none 0 0)).size):=ae (bP bn _ rfl rfl);clear hb2 HC HW0 HB0;have HR3:Hid (AV w.heap.size 32 (ai bn (.slice none 0 0)) ((w2.alloc (.cells (ai bn (.slice none 0 0)) 32)).setRow w2.heap.size (ai {t with bJ:=aS,aK:= []} (.slice (some ⟨g,0,none⟩) 1 cz)))):=ae ((HR2.out.below (ag w2 _)).qW (by omega) _);have HB3:Hid (Below w.heap.size w ((w2.alloc (.cells (ai bn (.slice none 0 0)) 32)).setRow w2.heap.size (ai {t with bJ:=aS,aK:= []} (.slice (some ⟨g,0,none⟩) 1 cz)))):=ae (aC (ah HB2.out (ag w2 _)) (by omega) _);go_wp2_with (first
  |((with_reducible refine bu 32 ?_);go_must (refine aN rfl _ rfl (ai bn (.slice none 0 0)) eP ?_))
  |((with_reducible refine gu 32 ?_);go_must (refine bW rfl _ rfl (ai bn (.slice none 0 0)) (by kernel_rfl) ?_))
  |((with_reducible refine eQ 32 ?_);go_must (first
    |(refine wpList_store_row rfl _ _ _ rfl w2.heap.size (ai {t with bJ:=aS,aK:= []} (.slice (some ⟨g,0,none⟩) 1 cz)) rfl rfl 32 (ai bn (.slice none 0 0)) (heap_alloc_last _ _) dR.out yw.out (aT _ _ _ _) ?_)
    |(refine wpList_store_row rfl _ _ _ rfl w.heap.size (ai bn (.slice none 0 0)) rfl rfl 32 (ai bn (.slice none 0 0)) HR3.out.var Iz.out rfl (aT _ _ _ _) ?_))))
 refine bodyPost_ret (v:= .tuple #[.agg (ai bn (.slice none 0 0)),I 3]) (bQ rfl _ _ w.heap.size _ (ai bn (.slice none 0 0)) (0,0) _ rfl (setRow_heap _ _ _ _ _ _ HR3.out.var) Tryz.underlying32 rfl Iz.out _ rfl) rfl ?_;exact ⟨rfl,aC HB3.out (Nat.le_refl _) _⟩
end Go.Proofs.YtdibbemgpikgjaaGreat
