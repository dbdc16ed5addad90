/- The texts Se, TrW, BEq, TrR, TrS, in this order. -/
import Derived.Test.YtdibbemgpikgjaaGreatZ00
import Derived.Defers
import Derived.Recover
import Derived.Test.YtdibbemgpikgjaaGreatZ01
import Derived.Test.YtdibbemgpikgjaaGreatZ08
import Derived.Test.YtdibbemgpikgjaaGreatZ09
import Derived.Test.YtdibbemgpikgjaaGreatZ17
import Derived.Test.YtdibbemgpikgjaaGreatZ27
set_option maxRecDepth 10000
set_option maxHeartbeats 8000000
namespace Go.Proofs.YtdibbemgpikgjaaGreat
open Go Go.RowKit
attribute [local go_sem] eQ fA eU fC iZ ja eH eX eP eY
def Ld (lo g:Nat) (w:World) (A:Option Addr) (cs:List Value):Prop:=
 cs.length=0∨∃b off,A=some ⟨b,off,none⟩∧(lo≤b∧b<w.heap.size∧b≠g)∧∀j u,cs[j]? =some u→w.cell? ⟨b,off+j,none⟩=some u
theorem Ld.of {lo g g':Nat} {w w':World} {A:Option Addr} {cs:List Value} (h:Ld lo g w A cs) (hs:w.heap.size≤w'.heap.size) (hb:∀k,lo≤k→k<w.heap.size→k≠g→w'.heap[k]? =w.heap[k]? ∧k≠g'):Ld lo g' w' A cs:=by
 rcases h with h|⟨b,off,h1,⟨h2,h3,h4⟩,h5⟩
 ·exact .inl h
 ·obtain ⟨e1,e2⟩:=hb b h2 h3 h4;exact .inr ⟨b,off,h1,⟨h2,by omega,e2⟩,fun j u hu=>(World.cell?_of_block (a:=⟨b,off+j,none⟩) e1).trans (h5 j u hu)⟩
theorem Ld.own {lo B g e s n c:Nat} {w:World} {A:Option Addr} {cs:List Value} (h:w.ownsRow B e s (.slice A n c) n cs) (hl:lo≤B) (hg:g<B):Ld lo g w A cs:=by
 by_cases h0:n=0
 ·refine .inl ?_;have:=h.1;rw [h0] at this;omega
 ·obtain ⟨b,cap,h1,h2⟩:=gV h (by omega);injection h1 with h1 _ _;subst h1;have h3:=gq h;refine .inr ⟨b,0,rfl,by omega,fun j u hu=>?_⟩;rw [Nat.zero_add];exact jW h j u hu
structure ZX (lo g:Nat) (w:World) (y:dm):Prop where
 au:Ld lo g w y.s.A (y.e.z.cal.au.map I)
 rules:Ld lo g w y.s.B (y.e.z.cal.rules.flatMap Lr.cells)
 trans:Ld lo g w y.s.C (y.e.z.trans.flatMap Tr.cells)
 ay:Ld lo g w y.s.D (y.e.z.ay.flatMap Yr.cells)
theorem ZX.of {lo g g':Nat} {w w':World} {y:dm} (h:ZX lo g w y) (hs:w.heap.size≤w'.heap.size) (hb:∀k,lo≤k→k<w.heap.size→k≠g→w'.heap[k]? =w.heap[k]? ∧k≠g'):ZX lo g' w' y:=
 ⟨h.au.of hs hb,h.rules.of hs hb,h.trans.of hs hb,h.ay.of hs hb⟩
theorem Ld.at {lo g:Nat} {w:World} {A:Option Addr} {cs:List Value} (h:Ld lo g w A cs):aB w w.heap.size A cs:=by
 rcases h with h|⟨b,off,h1,⟨_,h3,_⟩,h5⟩
 ·exact .inl h
 ·exact .inr ⟨b,off,h1,h3,h5⟩
theorem ZX.at {lo g:Nat} {w:World} {y:dm} (h:ZX lo g w y):gW w w.heap.size y.s y.e.z:=⟨h.au.at,h.rules.at,h.trans.at,h.ay.at⟩
theorem Ld.lower {lo lo' g:Nat} {w:World} {A:Option Addr} {cs:List Value} (h:Ld lo g w A cs) (hl:lo'≤lo):Ld lo' g w A cs:=by
 rcases h with h|⟨b,off,h1,⟨h2,h3,h4⟩,h5⟩
 ·exact .inl h
 ·exact .inr ⟨b,off,h1,⟨by omega,h3,h4⟩,h5⟩
theorem ZX.lower {lo lo' g:Nat} {w:World} {y:dm} (h:ZX lo g w y) (hl:lo'≤lo):ZX lo' g w y:=
 ⟨h.au.lower hl,h.rules.lower hl,h.trans.lower hl,h.ay.lower hl⟩
structure I8 (lo:Nat) (w:World) (v:Value) (zs:List dm):Prop where
 row:w.ownsRow lo 55 9 v zs.length (aP zs)
 each:∀x∈zs,∃g,ZX lo g w x
 nil:zs.length=0→v= .slice none 0 0
theorem I8.aQ {lo:Nat} {w w':World} {v:Value} {zs:List dm} (h:I8 lo w v zs) (hs:w.heap.size≤w'.heap.size) (hb:∀k,lo≤k→k<w.heap.size→w'.heap[k]? =w.heap[k]?):I8 lo w' v zs:=
 ⟨aY h.row hb,fun x hx=>by obtain ⟨g,hg⟩:=h.each x hx;exact ⟨g,hg.of hs fun k h1 h2 h3=>⟨hb k h1 h2,h3⟩⟩,h.nil⟩
theorem I8.below {lo:Nat} {w w':World} {v:Value} {zs:List dm} (h:I8 lo w v zs) (hb:Below w.heap.size w w'):I8 lo w' v zs:=h.aQ hb.size fun k _ hk=>hb.block k hk
theorem I8.lower {lo lo':Nat} {w:World} {v:Value} {zs:List dm} (h:I8 lo w v zs) (hl:lo'≤lo):I8 lo' w v zs:=
 ⟨aX h.row hl,fun x hx=>by obtain ⟨g,hg⟩:=h.each x hx;exact ⟨g,hg.lower hl⟩,h.nil⟩
theorem I8.zes {lo:Nat} {w:World} {A:Option Addr} {n c:Nat} {zs:List dm} (h:I8 lo w (.slice A n c) zs):nX w w.heap.size A zs:=by
 refine ⟨?_,fun x hx=>by obtain ⟨g,hg⟩:=h.each x hx;exact hg.at⟩;by_cases h0:zs.length=0
 ·rw [List.eq_nil_of_length_eq_zero h0];exact .inl rfl
 ·obtain ⟨b,cap,h1,h2⟩:=gV h.row (by omega);injection h1 with h1 _ _;subst h1;have h3:=gq h.row;refine .inr ⟨b,0,rfl,by omega,fun j u hu=>?_⟩;rw [Nat.zero_add];exact jW h.row j u hu
theorem Qr (ys:List dm) (x:Ze) (s:Zs):jX (aP ys++fM.toList) (ys.length*9) (⟨x,s⟩:dm).cells.toList=aP (ys++ [⟨x,s⟩]):=by
 have h:=oZ (⟨x,s⟩:dm).cells.toList (aP ys) fM.toList rfl;rw [dG] at h;rw [h,yM];unfold aP;rw [List.flatMap_cons,List.flatMap_nil,List.append_nil]
def Yk (M:Nat) (w:World) (rb pb po:Nat) (t:TypeId) (cs:Array Value) (n:Nat) (zs:List Ze) (R:List UInt8) (i:Value) (wr:World):Prop:=
 ∃(k:Nat) (A:Option Addr) (c:Nat) (ys:List dm),k≤n∧i= .int .i64 k∧ys.length=k∧ys.map (·.e)=zs.take k∧gB M wr rb (Eg (zs.drop k)++R)∧bU w rb pb t (cs.setIfInBounds po (.slice A k c)) wr∧
  wr.ownsRow w.heap.size 55 9 (.slice A k c) k (aP ys)∧(∀y∈ys,∃g,A=some ⟨g,0,none⟩∧ZX w.heap.size g wr y)∧(k=0→A=none∧c=0)
def TZeQ (M:Nat) (w:World) (rb pb po:Nat) (t:TypeId) (cs:Array Value) (zs:List Ze) (n:Nat) (R:List UInt8) (e:Ending) (w':World):Prop:=
 e= .returned (.tuple #[])∧∃A c ys,gB M w' rb R∧bU w rb pb t (cs.setIfInBounds po (.slice A n c)) w'∧I8 w.heap.size w' (.slice A n c) ys∧ys.map (·.e)=zs
theorem RU (M:Nat) (w:World) (rb pb po n:Nat) (t:TypeId) (cs:Array Value) (zs:List Ze) (R:List UInt8) (hn:zs.length=n) (hn2:n≤128) (hfl:∀x∈zs,nO x.z∧x.name.size≤32) (hr:gB M w rb ((le n 1++Eg zs)++R)) (hp:w.heap[pb]? =some (.cells cs t (0,0))) (hpo:cs[po]? =some (.slice none 0 0)) (pM:M≤pb) (hne:pb≠rb):
  Calls Tryz.prog 42 #[.iface 109 (pt rb), .pointer (some ⟨pb,po,none⟩),I 1, .func (.func 43) #[] #[]] w (TZeQ M w rb pb po t cs zs n R):=by
 rw [List.append_assoc] at hr;have hpl:pb<w.heap.size:=(aZ.1 hp).1;have hlo:=hr.lo;have hrl:=hr.lt;have hcs:cs.setIfInBounds po (.slice none 0 0)=cs:=by
  apply Array.ext_getElem?;intro i;rw [Array.getElem?_setIfInBounds];split
  ·rename_i e;subst e;split
   ·exact hpo.symm
   ·rename_i e2;rw [Array.getElem?_eq_none (by omega)] at hpo;cases hpo
  ·rfl
 have hc0:w.cell? ⟨pb,po,none⟩=some (.slice none 0 0):=(cell_of_row w pb po _ _ _ hp).trans hpo;have hpos:po<cs.size:=(aZ.1 hpo).1;have HC:=ae (fH M w.drew rb 1 0 n n (Eg zs++R) hr.drew (by omega) (jA _ (by omega) (by omega) _));have HP:Hid (bU w rb pb t (cs.setIfInBounds po (.slice none 0 0)) w):=ae (by rw [hcs];exact bU.refl hp);have HN:=ae hn;have HF:=ae hfl;clear hr hp hpo hcs hn hfl;obtain ⟨i0,hi,hz0,hz1,hz2⟩:=info_parts tK;go_enter Tryz.func42,Tryz.ntmps42;go_wp2_with fail;go_still_tail 9,(by kernel_rfl);go_wp2_with fail;refine HC.out.mono ?_;rintro e w1 ⟨rfl,hr1,hk1⟩;have HR1:=ae hr1;have mY:=ae (HP.out.drew.mP hk1 hpl hne);clear hr1 hk1 HC hc0;go_wp2_with fail
 go_loopw [22] (fun i wr=>Yk M w rb pb po t cs n zs R i wr) (fun i _=>n - (intOf i).toNat)
 case atStart=>exact ⟨0,none,0,[],Nat.zero_le _,rfl,rfl,rfl,HR1.out,mY.out,World.ownsRow_nil _ _ _ _,(fun _ h=>nomatch h),fun _=>⟨rfl,rfl⟩⟩
 case round=>
  obtain ⟨k,A,c,ys,hk,rfl,hyl,hye,hr,hp,hown,hym,hnl⟩:=hrel;have HR:=ae hr;have nT:=ae hp;have HO:=ae hown;have kX:=ae hyl;have BU:=ae hye;have Du:=ae hym;have Nv:=ae hnl;have hcp:wr.cell? ⟨pb,po,none⟩=some (.slice A k c):=(hp.cell po).trans (by simp [hpos]);have hsw:=hp.size;clear hr hp hown hyl hye hym hnl HR1 mY HP;by_cases hlt:k<n
  ·have i0':(0:Int)≤(k:Int):=by omega
   have i1:(k:Int)<(n:Int):=by omega
   have hkz:k<zs.length:=by rw [HN.out];exact hlt
   obtain ⟨x,hx⟩:∃x,zs[k]? =some x:=⟨_,dE hkz⟩;have AP:=HF.out x (fK hx);have HX:=ae hx;have yU:=ae AP;clear hx AP;have zW:Hid (∀j u,fM.toList[j]? =some u→(((wr.alloc (.cells fM 55)).alloc (.cells fM 55)).drew).cell? ((⟨wr.heap.size+1,0,none⟩:Addr).add j)=some u):=ae fun j u hu=>by
    rw [addr_add];have h:=(Row.new (wr.alloc (.cells fM 55)) fM 55).2 j;rw [World.size_alloc] at h;exact h.trans (by simpa using hu)
   have uG:Hid (∀u∈fM.toList,u.oneCell'=true):=ae (by
    intro u hu;have h:fM.all (·.oneCell')=true:=by kernel_rfl
    rw [Array.all_eq_true_iff_forall_mem] at h;exact h u (by simpa using hu))
   have QP:pb<wr.heap.size:=by omega
   have hmx:k+1≤maxLen:=by unfold maxLen;omega
   have hby:(k+1)*144≤140737488355328:=by omega
   have FX:Hid (w.heap.size≤(((wr.alloc (.cells fM 55)).alloc (.cells fM 55)).drew).heap.size):=ae (by simp;omega);have dM:Hid ((((wr.alloc (.cells fM 55)).alloc (.cells fM 55)).drew).heap.size=wr.heap.size+2):=ae (by simp);have PI:Hid ((((wr.alloc (.cells fM 55)).alloc (.cells fM 55)).drew).ownsRow w.heap.size 55 9 (.slice A k c) k (aP ys)):=ae ((HO.out.alloc _).alloc _).drew;have xh:Hid (∀b,b<wr.heap.size→(((wr.alloc (.cells fM 55)).alloc (.cells fM 55)).drew).heap[b]? =wr.heap[b]?):=ae fun b hb=>(Below.heap_alloc (wr.alloc (.cells fM 55)) _ b (by simp;omega)).trans (Below.heap_alloc wr _ b hb);go_wp2_with fail
   go_region_law (refine step_append_lies _ (by rfl) _ _ _ (by rfl) w.heap.size 55 i0 (.agg fM) 9 144 Tryz.underlying30 hi hz0 hz1 hz2 (by rfl) (by omega) (.slice A k c) k (aP ys) (by rfl) PI.out ⟨wr.heap.size+1,0,none⟩ 1 1 fM.toList (by rfl) (by rfl) zW.out uG.out (by omega) hmx hby FX.out (wr.heap.size+2) dM.out ?_;intro g2 c2 w2 hown2 hgrow2 qG hlt2;have hbw:∀b,b<w.heap.size→w2.heap[b]? =wr.heap[b]? :=fun b hb=>(hgrow2.block b (Nat.lt_of_lt_of_eq (show b<wr.heap.size+2 by omega) dM.out.symm) (dV HO.out b hb)).trans (xh.out b (by omega));have HP2:Hid (w2.heap[pb]? =some (.cells (cs.setIfInBounds po (.slice A k c)) t (0,0))):=ae ((hbw pb hpl).trans nT.out.tgt);have hcp2:w2.cell? ⟨pb,po,none⟩=some (.slice A k c):=(cell_of_row w2 pb po _ _ _ HP2.out).trans (by simp [hpos]);have y8:=frozen_of_row w2 pb po _ _ HP2.out;have lN:=ae hbw;have kW:=ae hown2;have HG2:=ae hgrow2;have HA2:=ae qG;clear hbw hown2 hgrow2 qG)
   all_goals
    have hs2:wr.heap.size+2≤w2.heap.size:=Nat.le_trans (Nat.le_of_eq dM.out.symm) HG2.out.size;have hkeep:∀b,b<wr.heap.size→some b≠(Value.slice A k c).ownBlock→w2.heap[b]? =wr.heap[b]? :=fun b hb hne=>(HG2.out.block b (Nat.lt_of_lt_of_eq (show b<wr.heap.size+2 by omega) dM.out.symm) hne).trans (xh.out b hb);have hlo2:=gq kW.out;have hP3:bU w rb pb t (cs.setIfInBounds po (.slice (some ⟨g2,0,none⟩) (k+1) c2)) (w2.setCell ⟨pb,po,none⟩ (.slice (some ⟨g2,0,none⟩) (k+1) c2)):=by
     have h:bU w rb pb t (cs.setIfInBounds po (.slice A k c)) w2:=⟨HG2.out.os.trans nT.out.os,HG2.out.tape.trans nT.out.tape,HG2.out.output.trans nT.out.output,by omega,fun b hb h1 h2=>(lN.out b hb).trans (nT.out.block b hb h1 h2),HP2.out⟩;have h:=h.put po (.slice (some ⟨g2,0,none⟩) (k+1) c2)
     rwa [Array.setIfInBounds_setIfInBounds] at h
    have DR:gB M (w2.setCell ⟨pb,po,none⟩ (.slice (some ⟨g2,0,none⟩) (k+1) c2)) rb (Eg (zs.drop k)++R):=(HR.out.of (lN.out rb hrl) fun b hb=>lN.out b (by omega)).put pM hne _;have hO3:(w2.setCell ⟨pb,po,none⟩ (.slice (some ⟨g2,0,none⟩) (k+1) c2)).ownsRow w.heap.size 55 9 (.slice (some ⟨g2,0,none⟩) (k+1) c2) (k+1) (aP ys++fM.toList):=dA (p:=⟨pb,po,none⟩) kW.out (by intro e;injection e with e;simp only at e;omega);have hM3:∀y∈ys,ZX w.heap.size g2 (w2.setCell ⟨pb,po,none⟩ (.slice (some ⟨g2,0,none⟩) (k+1) c2)) y:=by
     intro y hy;obtain ⟨g,hA,hx⟩:=Du.out y hy;refine hx.of (by simp [World.setCell];omega) fun b b2 b3 b4=>?_;have hne1:some b≠(Value.slice A k c).ownBlock:=by
      rw [hA];intro e;injection e with e;exact b4 e
     refine ⟨(heap_setCell_other w2 _ b _ (by show b≠pb;omega)).trans (hkeep b b3 hne1),?_⟩;rcases HA2.out with h|h
     ·rw [hA] at h;injection h with h;intro e;exact b4 (e.trans h.symm)
     ·omega
    have iV:=ae hP3;have HR3:=ae DR;have nK:=ae hO3;have HM3:=ae hM3;clear hkeep hP3 DR hO3 hM3 HP2 lN kW HG2 HA2 hcp;go_wp2_with fail;obtain ⟨w3,hw3⟩:∃W,w2.setCell ⟨pb,po,none⟩ (.slice (some ⟨g2,0,none⟩) (k+1) c2)=W:=⟨_,rfl⟩;rw [hw3] at iV HR3 nK HM3 ⊢;obtain ⟨cur,q1,q2,q3,q4,q5,q6,q7,_⟩:=jq nK.out;have hcz:Eg (zs.drop k)++R=VE x++(Eg (zs.drop (k+1))++R):=by
     have hd:zs.drop k=x::zs.drop (k+1):=by
      rw [List.drop_eq_getElem_cons hkz];have h:=HX.out;rw [dE hkz] at h;injection h with h;rw [h]
     rw [hd];simp [Eg]
    have hr3:=HR3.out;rw [hcz] at hr3;have hzz:∀j,j<9→cur[k*9+j]? =fM[j]? :=fun j hj=>by
     have h:(cur.toList.take ((k+1)*9))[k*9+j]? =(aP ys++fM.toList)[k*9+j]? :=by rw [q6]
     rw [List.getElem?_take_of_lt (by omega),List.getElem?_append_right (by rw [dG,kX.out];omega),dG,kX.out,show k*9+j - k*9=j by omega] at h;simpa using h
    refine (Io M w3 rb g2 (k*9) 55 cur x _ yU.out.1 yU.out.2 hr3 q1 hzz (by omega) (by omega)).mono ?_;rintro e w4 ⟨rfl,s4,hr4,iT,yx⟩;have hO4:=zJ nK.out q1 iT;rw [←kX.out,Qr ys x s4,kX.out] at hO4;have G9:bU w rb pb t (cs.setIfInBounds po (.slice (some ⟨g2,0,none⟩) (k+1) c2)) w4:=⟨iT.os.trans iV.out.os,iT.tape.trans iV.out.tape,iT.output.trans iV.out.output,Nat.le_trans iV.out.size iT.size,fun b hb h1 h2=>(iT.block b (dR hb iV.out.size) (by omega) h2).trans (iV.out.block b hb h1 h2),(iT.block pb (dR hpl iV.out.size) (by omega) hne).trans iV.out.tgt⟩;have hs3:w3.heap.size=w2.heap.size:=by rw [←hw3];simp [World.setCell]
    have hM4:∀y∈ys++ [(⟨x,s4⟩:dm)],∃g,(some ⟨g2,0,none⟩:Option Addr)=some ⟨g,0,none⟩∧ZX w.heap.size g w4 y:=by
     intro y hy;refine ⟨g2,rfl,?_⟩;rcases List.mem_append.1 hy with hy|hy
     ·exact (HM3.out y hy).of iT.size fun b b2 b3 b4=>⟨iT.block b b3 b4 (by omega),b4⟩
     ·rw [List.mem_singleton.1 hy];exact ⟨.own yx.au (by omega) (by omega), .own yx.rules (by omega) (by omega), .own yx.trans (by omega) (by omega), .own yx.ay (by omega) (by omega)⟩
    have HR4:=ae hr4;have qo:=ae G9;have uF:=ae hO4;have FN:=ae hM4;have HE4:Hid ((ys++ [(⟨x,s4⟩:dm)]).map (·.e)=zs.take (k+1)):=ae (by rw [List.map_append,BU.out,iw zs k x HX.out];rfl);clear hr4 iT yx hO4 G9 hM4 hr3 hcz q1 q2 q3 q4 q5 q6 q7 hw3 hcp2 y8 hzz;go_wp2_with fail;go_roundw
    case rel=>exact ⟨k+1,some ⟨g2,0,none⟩,c2,_,by omega,by go_num,by rw [bJ,kX.out];rfl,HE4.out,HR4.out,qo.out,uF.out,FN.out,fun h=>by omega⟩
    case measure=>simp [intOf];omega
  ·have hkn:k=n:=by omega
   have lG:=ae hkn;have hlt':¬(k:Int)<(n:Int):=by omega
   clear hkn hlt hcp;go_wp2_with fail
   go_end0
   refine ⟨rfl,A,c,ys,?_,?_,⟨?_,fun y hy=>?_,fun h=>?_⟩,?_⟩
   ·have h:=HR.out;rw [lG.out,List.drop_of_length_le (by rw [HN.out];exact Nat.le_refl _)] at h;exact h
   ·have h:=nT.out
    rwa [lG.out] at h
   ·have h:=HO.out;rw [lG.out] at h;rw [kX.out,lG.out];exact h
   ·obtain ⟨g,_,h⟩:=Du.out y hy;exact ⟨g,h⟩
   ·obtain ⟨h1,h2⟩:=Nv.out (kX.out.symm.trans h);have h0:n=0:=by have:=kX.out;have:=lG.out;omega
    rw [h1,h2,h0]
   ·rw [BU.out,lG.out,List.take_of_length_le (by rw [HN.out];exact Nat.le_refl _)]
end Go.Proofs.YtdibbemgpikgjaaGreat
namespace Go.Proofs.YtdibbemgpikgjaaGreat
open Go Go.RowKit
attribute [local go_sem] eQ fA eU fC iZ ja eH eX eP eY
def bQ:Tb:=⟨0,0,0,aO,aO,[]⟩
theorem jO:Tryz.zeroCells32=ai bQ (.slice none 0 0):=by kernel_rfl
theorem qK (t:Tb) (v:Value) (n:Int):(ai t v).setIfInBounds 0 (I n)=ai {t with bz:=n} v:=by simp [ai,kK]
theorem pO (t:Tb) (v:Value) (n:Int):(ai t v).setIfInBounds 1 (I n)=ai {t with version:=n} v:=by simp [ai,kK]
theorem nI (t:Tb) (v:Value) (n:Int):(ai t v).setIfInBounds 2 (I n)=ai {t with aJ:=n} v:=by simp [ai,kK]
theorem uT (t:Tb) (v:Value) (xs:List UInt8) (h:t.prev.length=32) (hx:xs.length=32):putRow (ai t v) 4 (az xs)=ai {t with prev:=xs} v:=by
 unfold putRow splice ai kK;have h1:(az xs).length=32:=by simp [az,hx]
 have h2:(az t.prev).length=32:=by simp [az,h]
 rw [h1];simp [h2]
def TWhR (M:Nat) (w:World) (rb tb:Nat) (t:Tb) (n:Nat) (R:List UInt8) (e:Ending) (w':World):Prop:=
 e= .returned (.tuple #[])∧∃A c ys,gB M w' rb R∧bU w rb tb 32 (ai {t with bK:=aO} (.slice A n c)) w'∧gX w.heap.size w' (.slice A n c) ys∧ys.map (·.e)=t.aS
theorem Vu (M:Nat) (w:World) (rb tb n:Nat) (t:Tb) (R:List UInt8) (h:kG t) (hn:t.aS.length=n) (hr:gB M w rb (ed t++R)) (hp:w.heap[tb]? =some (.cells (ai bQ (.slice none 0 0)) 32 (0,0))) (hM:M≤tb) (hne:tb≠rb):
  Calls Tryz.prog 23 #[.iface 109 (pt rb), .pointer (some ⟨tb,0,none⟩)] w (TWhR M w rb tb t n R):=by
 have hel:tb<w.heap.size:=(aZ.1 hp).1;have hrw:=hr.lt;have hz:∀(u:Tb) (v:Value),u.prev.length=32→u.bK.length=32→(ai u v).size=68:=fun u v h1 h2=>bG u v h1 h2;have hr':gB M w.drew rb (le t.bz 1++(le t.version 1++(le t.aJ 1++(t.prev++((le n 1++fP t.aS)++R))))):=by
  have h:=hr.drew;unfold ed at h;rw [hn] at h;simpa only [List.append_assoc] using h
 have q1:=h.bz;have q2:=h.version;have q3:=h.aJ;have hn2:n≤128:=by have:=h.num;omega
 have jf:=ae (dD M w.drew rb tb 0 1 32 _ t.bz t.bz _ hr' (by omega) (jA _ (by omega) (by omega) _) hp (by rw [hz _ _ rfl rfl];decide) hM hne);have HF:=ae h;have HZ:=ae hz;have HN:=ae hn;clear h hr hr' hp hz hn;unfold TWhR;go_enter Tryz.func23,Tryz.ntmps23;go_wp2_with fail;go_still_tail 7,(by kernel_rfl);go_wp2_with fail;refine jf.out.mono ?_;rintro e w1 ⟨rfl,hr1,hp1⟩;rw [qK] at hp1;have mY:=ae hp1.dB;have HC2:=ae (dD M w1.drew rb tb 1 1 32 _ t.version t.version _ hr1.drew (by omega) (jA _ (by omega) (by omega) _) hp1.tgt (by rw [HZ.out _ _ rfl rfl];decide) hM hne);clear hr1 hp1 jf;go_wp2_with fail;go_still_tail 7,(by kernel_rfl);go_wp2_with fail;refine HC2.out.mono ?_;rintro e w2 ⟨rfl,hr2,hp2⟩;rw [pO] at hp2;have HP2:=ae (mY.out.trans hp2.dB);have oD:=ae (dD M w2.drew rb tb 2 1 32 _ t.aJ t.aJ _ hr2.drew (by omega) (jA _ (by omega) (by omega) _) hp2.tgt (by rw [HZ.out _ _ rfl rfl];decide) hM hne);clear hr2 hp2 HC2;go_wp2_with fail;go_still_tail 7,(by kernel_rfl);go_wp2_with fail;refine oD.out.mono ?_;rintro e w3 ⟨rfl,hr3,hp3⟩;rw [nI] at hp3;have iV:=ae (HP2.out.trans hp3.dB);have oM:=ae (sK M w3.drew rb tb 4 32 _ t.prev _ hr3.drew HF.out.prev hp3.tgt (by rw [HZ.out _ _ rfl rfl];decide) hM hne);clear hr3 hp3 oD;go_wp2_with fail;go_still_tail 7,(by kernel_rfl);go_wp2_with fail;refine oM.out.mono ?_;rintro e w4 ⟨rfl,hr4,iT⟩;rw [uT _ _ _ rfl HF.out.prev] at iT;have qo:=ae (iV.out.trans iT.dB);have wW:=ae (RS M w4 rb tb 3 n 32 _ t.aS R HN.out hn2 (fun x hx=>⟨HF.out.flat x hx,HF.out.short x hx⟩) hr4 iT.tgt (bH _ _) hM hne);clear hr4 iT oM;go_wp2_with fail;refine wW.out.mono ?_;rintro e w5 ⟨rfl,A,c,ys,oL,vW,Xa,he5⟩;rw [kP] at vW;have oN:=ae oL;have Eo:=ae (qo.out.trans vW);have qQ:=ae (Xa.lower qo.out.size);have HE5:=ae he5;clear oL vW Xa he5 wW;go_wp2_with fail
 go_end0
 exact ⟨rfl,A,c,ys,oN.out,Eo.out,qQ.out,HE5.out⟩
end Go.Proofs.YtdibbemgpikgjaaGreat
namespace Go.Proofs.YtdibbemgpikgjaaGreat
open Go Go.RowKit
def Oy (bs:List UInt8):ByteArray:=⟨bs.toArray⟩
theorem yH (xs:List UInt8):(Oy xs).toList=xs:=by rw [Lib.toList_data];rfl
theorem AA (A:Option Addr) (bs:List UInt8) (c:Nat) (w:World) (B:Nat) (h:BytesAt w B A bs):
  (convert 22 9 (.slice A bs.length c)).run Tryz.prog w= .ok (.string (Oy bs)) w:=by
 have e:Oy bs=strOfNums (bs.map fun x=>(x.toNat:Int)):=by
  unfold Oy strOfNums;congr 1;rw [List.map_map];congr 1;rw [show ((fun n:Int=>UInt8.ofNat n.toNat) ∘ fun x:UInt8=>(x.toNat:Int))=id from by funext x;simp];simp
 rcases h with h|⟨b,off,rfl,_,hc⟩
 ·obtain rfl:=List.eq_nil_of_length_eq_zero h;exact run_convert_bytes_zero w _ _ Tryz.underlying22 Tryz.underlying5 A c _ Tryz.underlying9
 ·rw [e];refine run_convert_bytes_arg w _ _ Tryz.underlying22 Tryz.underlying5 b off bs.length c _ (by simp) (fun i hi=>?_) _ Tryz.underlying9;rw [hc i hi];simp [List.getD,hi,Extern.Stop.cell]
theorem rO (w:World) (A A':Option Addr) (xs ys:List UInt8) (c d B B':Nat) (h1:BytesAt w B A xs) (h2:BytesAt w B' A' ys):
  Calls Tryz.prog 21 #[.slice A xs.length c, .slice A' ys.length d] w fun e w'=>e= .returned (.bool (xs==ys))∧w'=w:=by
 have e1:=AA A xs c w B h1;have e2:=AA A' ys d w B' h2;clear h1 h2;go_enter Tryz.func21,Tryz.ntmps21
 go_wp2
 go_ret;exact ⟨by show Ending.returned (.bool ((Oy xs).toList==(Oy ys).toList))=_;rw [yH,yH],rfl⟩
theorem l9 {P:Program} {fn:Func} {p q:Tmp} {t1 t2:TypeId} (h:fn.results= #[.cell p t1, .cell q t2]) (tmps:Array Value) (w:World) (g g2:Nat) (t:TypeId) (cs:Array Value) (fr:Nat×Nat) (d:TypeDesc) (v:Value)
  (hp:tmps.getD p undef= .pointer (some ⟨g,0,none⟩)) (hg:w.heap[g]? =some (.cells cs t fr)) (hu:P.underlying t1=some d) (hd:(match d with| .struct _| .array _ _=>true|_=>false)=true) (hi:(P.info? t1).map (·.size)=some cs.size)
  (hq:tmps.getD q undef= .pointer (some ⟨g2,0,none⟩)) (hv:(loadVar t2 ⟨g2,0,none⟩).run P w= .ok v w):
  (results fn tmps).run P w= .ok (.tuple #[.agg cs,v]) w:=by
 have hp':tmps[p]?.getD undef= .pointer (some ⟨g,0,none⟩):=by simpa using hp
 have hq':tmps[q]?.getD undef= .pointer (some ⟨g2,0,none⟩):=by simpa using hq
 simp [results,h,hp',hq',asAddr,run_loadVar_row w g t t1 cs fr d hg hu hd hi,hv]
theorem yI (p:Addr) (w:World):
  CallsD Tryz.prog 40 #[.pointer (some p)] .returning w fun e u' w'=>e= .returned (.tuple #[])∧u'= .returning∧w'=w:=by
 have hnn:∀w,(binOp .neq 20 .nilIface .nilIface).run Tryz.prog w= .ok (.bool false) w:=fun w=>Lib.run_neq_nil_nil w Tryz.underlying20;refine callsD_of_wpS Tryz.func40 rfl fun c₀ cs hu=>?_;apply wpS_seq;apply wpS_region;simp [wpOpsS,go_sem,recoverD,hu,Tryz.ntmps40,Exit.thenS];apply wpS_seq;apply wpS_region;simp [wpOpsS,go_sem,hnn,Exit.thenS];refine wpS_cond (t:=false) (by simp [Act.eval,Array.replicate]) ?_;simp only [Bool.false_eq_true,if_false];refine wpS_of_wp (wp_skip ?_);cases c₀
 simp_all [bodyPostS,results,Tryz.results40]
section
variable {P:Program} {ops:Array Oper} {Q:Exit→Act→World→Prop} {md:Region.Mode} {S:World→Prop} {i:Nat} {oi:Oper} {v:Value} {fuel:Nat} {listed:Array Bool} {a:Act} {w:World}
theorem VB (d:Option Tmp) (hi:ops[i]? =some oi) (hd:oi.dst=d)
  (hs:Region.noSelect ops=true) (hf:Region.free md ops listed i=true) (hr:(Region.ready md ops listed).contains i=true)
  (hQ:∀c a w,Q (.panic c) (a.put d v) w→Q (.panic c) a w) (hy:YieldsIf P ops S oi v a) (hS:S w)
  (h:wpAnyH P md ops Q S fuel (listed.setIfInBounds i true) (a.put d v) w):wpAnyH P md ops Q S (fuel+1) listed a w:=by
 subst hd;exact wpAnyH_take hi hs hf hr hQ hy hS h
theorem kz (hr:Region.ready md ops listed= [i]) (ho:ops[i]? =some oi) (hw:Region.wanted oi (yielded ops a.tmps)=true) (ty:TypeId) (x y:Operand) (hop:oi.op= .store ty x y) (hd:oi.dst=none)
  (g:Nat) (cells:Array Value) (hx:a.eval x= .pointer (some ⟨g,0,none⟩)) (hy:a.eval y= .agg cells) (t:TypeId) (old:Array Value) (hg:w.heap[g]? =some (.cells old t (0,0))) (hi:(P.info? ty).map (·.size)=some cells.size) (hold:old.size=cells.size) (h1:cells.all (·.oneCell')=true)
  (hS:S (w.setRow g cells)) (h:S (w.setRow g cells)→wpAnyH P md ops Q S fuel (listed.setIfInBounds i true) a (w.setRow g cells)):wpAnyH P md ops Q S (fuel+1) listed a w:=by
 refine wpAnyH_ready (rs:= [i]) hr (by simp) ?_;refine AllReadyH.cons ho (fun K hK=>?_) AllReadyH.nil;rw [if_pos hw];refine wp_store_row ty x y hop g cells hx hy t old hg hi hold h1 ?_;rw [hd];exact hK.out a _ hS h
end
theorem bU.grown {M:Nat} {w0 w w':World} {rb pb:Nat} {t:TypeId} {cs:Array Value} (h:bU w rb pb t cs w') (hb:Below M w0 w) (h1:M≤pb) (h2:M≤rb) (hp:pb<w.heap.size):Below M w0 w':=
 hb.trans ⟨h.os,h.tape,h.output,h.size,fun k hk=>h.block k (by omega) (by omega) (by omega)⟩
def TrdR (w:World) (t:Tb) (n:Nat) (e:Ending) (w':World):Prop:=
 ∃A c ys,e= .returned (.tuple #[.agg (ai {t with bK:=aO} (.slice A n c)), .bool true])∧gX w.heap.size w' (.slice A n c) ys∧ys.map (·.e)=t.aS∧Below w.heap.size w w'
theorem Kw (w:World) (t:Tb) (n N b off c:Nat) (h:kG t) (hn:t.aS.length=n) (hN:(ed t).length=N) (hbl:b<w.heap.size) (hc1:N≤c) (hc2:c≤9223372036854775807)
  (hA:∀j,j<N→w.cell? ⟨b,off+j,none⟩=some (Extern.Stop.cell ((ed t)[j]?.getD 0))):
  Calls Tryz.prog 20 #[.slice (some ⟨b,off,none⟩) N c] w (TrdR w t n):=by
 have hmf:∀(fn:Fn) (first cap:Array Value) (w:World),(Instr.makeFunc fn first cap).run Tryz.prog w= .ok (.func fn first cap) w:=fun _ _ _ _=>rfl;have HF:=ae h;have dM:Hid (∀v,(Tryz.prog.info? 32).map (·.size)=some (ai {t with bK:=aO} v).size):=ae fun v=>cu _ v h.prev rfl;have HN:=ae hn;have zX:=ae hN;obtain ⟨W,hW⟩:∃W,((w.alloc (.cells (ai bQ (.slice none 0 0)) 32)).alloc (.cells #[.bool false] 4)).alloc (.cells #[.slice (some ⟨b,off,none⟩) N c] 110)=W:=⟨_,rfl⟩;have hB:Below w.heap.size w W:=by rw [←hW];exact (((Below.refl _ w).alloc (Nat.le_refl _) _).alloc (by simp) _).alloc (by simp;omega) _
 have hs:W.heap.size=w.heap.size+3:=by rw [←hW];simp
 have ht:W.heap[w.heap.size]? =some (.cells (ai bQ (.slice none 0 0)) 32 (0,0)):=by rw [←hW];exact (Below.heap_alloc _ _ _ (by simp;omega)).trans (heap_alloc2_old w _ _)
 have ho:W.heap[w.heap.size+1]? =some (.cells #[.bool false] 4 (0,0)):=by rw [←hW];exact (Below.heap_alloc _ _ _ (by simp)).trans (heap_alloc2_new w _ _)
 have hr:gB w.heap.size W (w.heap.size+2) (ed t++ []):=by
  rw [List.append_nil];refine ⟨⟨b,off,c,?_,by rw [hN];exact hc1,hc2,hbl,fun j hj=>(hB.cell (p:=⟨b,off+j,none⟩) hbl).trans (hA j (by omega))⟩,by omega⟩;rw [←hW,hN];have:=heap_alloc_last ((w.alloc (.cells (ai bQ (.slice none 0 0)) 32)).alloc (.cells #[.bool false] 4)) (.cells #[.slice (some ⟨b,off,none⟩) N c] 110);simpa using this
 have HB:=ae hB;have HS:=ae hs;have HO:=ae ho;have HC:=ae (Vu w.heap.size W (w.heap.size+2) w.heap.size n t [] h hn hr ht (Nat.le_refl _) (by omega));clear h hn hN hA hB hs ht ho hr
 go_enter_defers Tryz.func20,Tryz.ntmps20
 go_wp2_with fail;rw [jO,hW];refine HC.out.mono ?_;rintro e w2 ⟨rfl,A,cz,ys,hr2,hp2,hz2,he2⟩;have hs0:=HS.out;have ho2:w2.heap[w.heap.size+1]? =some (.cells #[.bool false] 4 (0,0)):=(hp2.block _ (by omega) (by omega) (by omega)).trans HO.out;have HB2:=ae (hp2.grown HB.out (Nat.le_refl _) (by omega) (by omega));have HV:=ae hp2.tgt;have HZ2:=ae (hz2.lower (lo':=w.heap.size+3) (by omega));have HRW:=ae (Row.lh hp2.tgt);have kW:=ae ho2;have HE2:=ae he2;have hlt2:w.heap.size+3≤w2.heap.size:=by have:=hp2.size;omega
 obtain ⟨bb,o2,c2,hq,_⟩:=hr2.at_;have hc2:w2.cell? ⟨w.heap.size+1+1,0,none⟩=some (.slice (some ⟨bb,o2,none⟩) 0 c2):=cell_of_row w2 (w.heap.size+2) 0 _ _ _ hq;clear hr2 hp2 hz2 he2 ho2 hW HC hq HO HB HS;go_wp2_with fail;refine wp_region_noPanic ?_;refine wp_region_held_drew (S:=fun W=>Row W w.heap.size (ai {t with bK:=aO} (.slice A n cz))∧W.cell? ⟨w.heap.size+1+1,0,none⟩=some (.slice (some ⟨bb,o2,none⟩) 0 c2)) (by kernel_rfl) ⟨⟨HRW.out.1,HRW.out.2⟩,hc2⟩ (fun hH=>?_);refine mW 0 _ 12 rfl rfl hH (yieldsIf_load_mid (by rfl) _ _ rfl w.heap.size 0 rfl (ai {t with bK:=aO} (.slice A n cz)).toList _ (fun W hW j v hv=>by rw [Nat.zero_add,hW.1.2 j];simpa using hv) Tryz.underlying32 rfl (by rw [dM.out,Array.length_toList])) ?_;refine ax ?_;refine zl 1 (pt (w.heap.size+1+1)) 13 rfl rfl hH (fun W hW=>by obtain ⟨_,hW2⟩:=hW;go_simp) ?_;refine ax ?_;refine zl 2 (pt (w.heap.size+1+1)) 14 rfl rfl hH (fun W hW=>by obtain ⟨_,hW2⟩:=hW;go_simp) ?_;refine ax ?_;refine zl 3 (pt (w.heap.size+1+1)) 15 rfl rfl hH (fun W hW=>by obtain ⟨_,hW2⟩:=hW;go_simp) ?_;refine ax ?_;refine zl 4 (.slice (some ⟨bb,o2,none⟩) 0 c2) 16 rfl rfl hH (fun W hW=>by obtain ⟨_,hW2⟩:=hW;go_simp) ?_;refine ax ?_;refine zl 5 (I 0) 17 rfl rfl hH (fun W hW=>by obtain ⟨_,hW2⟩:=hW;go_simp) ?_;refine ax ?_;refine zl 6 (.bool true) 18 rfl rfl hH (fun W hW=>by obtain ⟨_,hW2⟩:=hW;go_simp) ?_;refine ax ?_;have hv2:w2.drew.heap[w.heap.size]? =some (.cells (ai {t with bK:=aO} (.slice A n cz)) 32 (0,0)):=HV.out;have HW3:Hid ((w2.drew.setRow w.heap.size (ai {t with bK:=aO} (.slice A n cz))).heap[w.heap.size]? =some (.cells (ai {t with bK:=aO} (.slice A n cz)) 32 (0,0))):=ae (setRow_heap _ _ _ _ _ _ hv2);have kU:Hid (∀k,k≠w.heap.size→(w2.drew.setRow w.heap.size (ai {t with bK:=aO} (.slice A n cz))).heap[k]? =w2.heap[k]?):=ae fun k hk=>setRow_other _ _ k _ hk;have PD:Hid ((w2.drew.setRow w.heap.size (ai {t with bK:=aO} (.slice A n cz))).heap.size=w2.heap.size):=ae (by show (w2.setRow w.heap.size _).heap.size=_;simp [World.setRow]);have HD3:Hid ((w2.drew.setRow w.heap.size (ai {t with bK:=aO} (.slice A n cz))).os=w2.os∧(w2.drew.setRow w.heap.size (ai {t with bK:=aO} (.slice A n cz))).tape=w2.tape∧(w2.drew.setRow w.heap.size (ai {t with bK:=aO} (.slice A n cz))).output=w2.output):=ae ⟨rfl,rfl,rfl⟩;have hc3:(w2.drew.setRow w.heap.size (ai {t with bK:=aO} (.slice A n cz))).cell? ⟨w.heap.size+1+1,0,none⟩=some (.slice (some ⟨bb,o2,none⟩) 0 c2):=(World.cell?_of_block (a:=⟨w.heap.size+1+1,0,none⟩) (kU.out _ (by show w.heap.size+1+1≠w.heap.size;omega))).trans hc2;refine kz (i:=7) (by kernel_rfl) rfl (by rfl) _ _ _ rfl rfl w.heap.size (ai {t with bK:=aO} (.slice A n cz)) rfl rfl 32 (ai {t with bK:=aO} (.slice A n cz)) hv2 (dM.out _) rfl (bf _ _ _ _) ⟨Row.lh HW3.out,hc3⟩ (fun hH3=>?_);clear hH hH3;generalize w2.drew.setRow w.heap.size (ai {t with bK:=aO} (.slice A n cz))=w3 at HW3 kU PD HD3 hc3 ⊢;have ho3:w3.heap[w.heap.size+1]? =some (.cells #[.bool false] 4 (0,0)):=(kU.out _ (by omega)).trans kW.out;have hcc:=cell_of_row _ (w.heap.size+1) 0 _ _ _ ho3;have hfc:=frozen_of_row _ (w.heap.size+1) 0 _ _ ho3;have nK:=ae ho3;have hS4:Row (w3.setCell ⟨w.heap.size+1,0,none⟩ (.bool true)) w.heap.size (ai {t with bK:=aO} (.slice A n cz))∧(w3.setCell ⟨w.heap.size+1,0,none⟩ (.bool true)).cell? ⟨w.heap.size+1+1,0,none⟩=some (.slice (some ⟨bb,o2,none⟩) 0 c2):=
  ⟨Row.lh ((heap_setCell_other w3 _ w.heap.size _ (by show w.heap.size≠w.heap.size+1;omega)).trans HW3.out),(World.cell?_of_block (a:=⟨w.heap.size+1+1,0,none⟩) (heap_setCell_other w3 _ _ _ (by show w.heap.size+1+1≠w.heap.size+1;omega))).trans hc3⟩
 have yf:=ae hS4;clear hv2 ho3 hS4;refine bI 8 (fun K hK=>?_);go_simp;refine hK.out _ _ yf.out (fun hH4=>?_);refine wpAnyH_done (by kernel_rfl) ?_ _;refine NoPanic.normal ?_;clear hK K hH4;go_wp2_with fail;refine leaves_cons (f:=40) (args:= #[.pointer (some ⟨w.heap.size+1,0,none⟩)]) (by simp) (by simp [go_sem]) ?_;refine (yI _ _).mono ?_;rintro e u' OL ⟨rfl,rfl,rfl⟩;have hbl:∀k,k≠w.heap.size→k≠w.heap.size+1→(w3.setCell ⟨w.heap.size+1,0,none⟩ (.bool true)).heap[k]? =w2.heap[k]? :=fun k h1 h2=>
  (heap_setCell_other _ _ k _ h2).trans (kU.out k h1)
 have hsz:(w3.setCell ⟨w.heap.size+1,0,none⟩ (.bool true)).heap.size=w2.heap.size:=by rw [←PD.out];simp [World.setCell]
 have hv4:(w3.setCell ⟨w.heap.size+1,0,none⟩ (.bool true)).heap[w.heap.size]? =some (.cells (ai {t with bK:=aO} (.slice A n cz)) 32 (0,0)):=(heap_setCell_other w3 ⟨w.heap.size+1,0,none⟩ w.heap.size _ (by show w.heap.size≠w.heap.size+1;omega)).trans HW3.out;have hc4:=cell_of_row _ (w.heap.size+1) 0 _ _ _ (heap_setCell_same _ (w.heap.size+1) 0 _ _ (.bool true) nK.out);refine ⟨_,l9 rfl _ _ w.heap.size (w.heap.size+1) _ (ai {t with bK:=aO} (.slice A n cz)) (0,0) _ (.bool true) rfl hv4 Tryz.underlying32 rfl (dM.out _) rfl (gQ _ _ _ hc4),A,cz,ys,rfl,?_,HE2.out,?_⟩
 ·exact (HZ2.out.aQ (Nat.le_of_eq hsz.symm) fun k h1 h2=>hbl k (by omega) (by omega)).lower (by omega)
 ·exact HB2.out.trans ⟨HD3.out.1,HD3.out.2.1,HD3.out.2.2,Nat.le_of_eq hsz.symm,fun k hk=>hbl k (by omega) (by omega)⟩
def Yp (w:World) (t:Tb) (n:Nat) (e:Ending) (w':World):Prop:=
 ∃A c ys,e= .returned (.tuple #[.agg (ai {t with bK:=aO} (.slice A n c)),I 0])∧gX w.heap.size w' (.slice A n c) ys∧ys.map (·.e)=t.aS∧Below w.heap.size w w'
theorem kG.Zp {t:Tb} (h:kG t):kG {t with bK:=aO}:=⟨h.bz,h.version,h.aJ,h.prev,rfl,h.first,h.num,h.flat,h.short⟩
theorem Bj (w:World) (t:Tb) (n N b off c:Nat) (h:kG t) (hn:t.aS.length=n) (hN:(ed t).length=N) (hup:∀ys:List dm,ys.map (·.e)=t.aS→oO ys) (hbl:b<w.heap.size) (hc1:N≤c) (hc2:c≤9223372036854775807)
  (hA:∀j,j<N→w.cell? ⟨b,off+j,none⟩=some (Extern.Stop.cell ((ed t)[j]?.getD 0))):
  Calls Tryz.prog 6 #[.slice (some ⟨b,off,none⟩) N c] w (Yp w t n):=by
 have HF:=ae h.Zp;have dM:Hid (∀v,(Tryz.prog.info? 32).map (·.size)=some (ai {t with bK:=aO} v).size):=ae fun v=>cu _ v h.prev rfl;have vM:Hid (∀v,(ai bQ (.slice none 0 0)).size=(ai {t with bK:=aO} v).size):=ae fun v=>by exact (bG bQ _ rfl rfl).trans (bG {t with bK:=aO} v h.prev rfl).symm
 have HN:=ae hn;have zX:=ae hN;have um:=ae hup;obtain ⟨W,hW⟩:∃W,w.alloc (.cells (ai bQ (.slice none 0 0)) 32)=W:=⟨_,rfl⟩;have hB:Below w.heap.size w W:=by rw [←hW];exact (Below.refl _ w).alloc (Nat.le_refl _) _
 have hs:W.heap.size=w.heap.size+1:=by rw [←hW];simp
 have ht:W.heap[w.heap.size]? =some (.cells (ai bQ (.slice none 0 0)) 32 (0,0)):=by rw [←hW];exact heap_alloc_last w _
 have HA:=ae hA;have HB:=ae hB;have HS:=ae hs;have HT:=ae ht;have HC:=ae (Kw W t n N b off c h hn hN (by omega) hc1 hc2 fun j hj=>(hB.cell (p:=⟨b,off+j,none⟩) hbl).trans (hA j hj));have yR:Hid (ed {t with bK:=aO}=ed t):=ae rfl;clear h hn hN hA hB hs ht hup;go_enter Tryz.func6,Tryz.ntmps6;go_wp2_with fail;rw [jO,hW];refine HC.out.mono ?_;rintro e w2 ⟨A,c2,ys,rfl,hz2,he2,hb2⟩;have hs0:=HS.out;have HZ2:=ae hz2;have HE2:=ae he2;have lN:=ae (ah HB.out hb2);have HT2:Hid (w2.heap[w.heap.size]? =some (.cells (ai bQ (.slice none 0 0)) 32 (0,0))):=ae ((hb2.block _ (by omega)).trans HT.out);have hl2:w.heap.size+1≤w2.heap.size:=by have:=hb2.size;omega
 clear hz2 he2 hb2 hW HC HB HS HT;go_wp2_with (first
  |(with_reducible refine bn 32 ?_;refine dh rfl _ rfl (ai bQ (.slice none 0 0)) jO ?_)
  |(with_reducible refine bT 32 ?_;refine dH rfl _ _ _ rfl (ai {t with bK:=aO} (.slice A n c2)) rfl rfl 32 (ai bQ (.slice none 0 0)) rfl (dM.out _) (vM.out _) (bf _ _ _ _) ?_;intro W3 hb3 hl3 hr3;have HB3:=ae hb3;have HR3:=ae hr3;have HZ3:=ae (HZ2.out.below hb3);clear hb3 hr3)
  |(with_reducible refine dI 32 ?_;refine aV rfl _ _ rfl w2.heap.size rfl (ai {t with bK:=aO} (.slice A n c2)) HR3.out _ Tryz.underlying32 rfl (dM.out _) ?_))
 refine (qV {t with bK:=aO} A n c2 W.heap.size ys W3 HF.out HE2.out.symm (by rw [←HN.out,←HE2.out,List.length_map]) HZ3.out (um.out ys HE2.out)).mono ?_;rintro e w4 ⟨⟨g4,c4,rfl,yx⟩,hb4⟩;rw [yR.out,zX.out] at yx ⊢;have QI:=lN.out.trans (HB3.out.mono (by omega));have JE:=QI.trans (hb4.mono (by omega));have HB4:=ae JE;have HR4:Hid (Row w4 w2.heap.size (ai {t with bK:=aO} (.slice A n c2))):=ae (HR3.out.keep hb4);have Uc:Hid (gX W.heap.size w4 (.slice A n c2) ys):=ae (HZ3.out.below hb4);have HT4:Hid (w4.heap[w.heap.size]? =some (.cells (ai bQ (.slice none 0 0)) 32 (0,0))):=ae ((hb4.block _ (by omega)).trans ((HB3.out.block _ (by omega)).trans HT2.out));have h1:BytesAt w4 w4.heap.size (some ⟨g4,0,none⟩) (ed t):=by
  obtain ⟨A',c',hv,_,_,_,hy⟩:=yj (bs:=ed t) (by rw [zX.out];exact yx);injection hv with e1 e2 e3;subst e1;exact hy
 have h2:BytesAt w4 w.heap.size (some ⟨b,off,none⟩) (ed t):= .inr ⟨b,off,rfl,hbl,fun j hj=>(JE.cell (p:=⟨b,off+j,none⟩) hbl).trans (HA.out j (by have:=zX.out;omega))⟩;have HEQ:Hid (Calls Tryz.prog 21 #[.slice (some ⟨g4,0,none⟩) N c4, .slice (some ⟨b,off,none⟩) N c] w4 fun e w'=>e= .returned (.bool true)∧w'=w4):=ae (by
  have h:=rO w4 (some ⟨g4,0,none⟩) (some ⟨b,off,none⟩) (ed t) (ed t) c4 c _ _ h1 h2;rw [zX.out] at h;simpa using h)
 clear yx hb4 QI JE h1 h2 HB3 HR3 HZ3 HT2 HZ2 lN;go_wp2_with fail;refine HEQ.out.mono ?_;rintro e w5 ⟨rfl,rfl⟩;go_wp2_with (first
  |(with_reducible refine dI 32 ?_;refine aV rfl _ _ rfl w2.heap.size rfl (ai {t with bK:=aO} (.slice A n c2)) HR4.out _ Tryz.underlying32 rfl (dM.out _) ?_)
  |(with_reducible refine bT 32 ?_;refine wpList_store_row rfl _ _ _ rfl w.heap.size (ai {t with bK:=aO} (.slice A n c2)) rfl rfl 32 (ai bQ (.slice none 0 0)) HT4.out (dM.out _) (vM.out _) (bf _ _ _ _) ?_))
 refine bodyPost_ret (v:= .tuple #[.agg (ai {t with bK:=aO} (.slice A n c2)),I 0]) (bF rfl _ _ w.heap.size _ (ai {t with bK:=aO} (.slice A n c2)) (0,0) _ rfl (setRow_heap _ _ _ _ _ _ HT4.out) Tryz.underlying32 rfl (dM.out _) _ rfl) rfl ?_;refine ⟨A,c2,ys,rfl,(Uc.out.aQ ?_ fun k h1 h2=>setRow_other _ _ k _ (by omega)).lower (by omega),HE2.out,below_setRow HB4.out (Nat.le_refl _) _⟩;simp [World.setRow]
end Go.Proofs.YtdibbemgpikgjaaGreat
