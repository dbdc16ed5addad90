/- The texts TrI, Pa, TbJ, Pb, in this order. -/
import Derived.Test.YtdibbemgpikgjaaGreatW00
import Derived.Test.YtdibbemgpikgjaaGreatW01
import Derived.Test.YtdibbemgpikgjaaGreatW02
import Derived.Test.YtdibbemgpikgjaaGreatW03
import Derived.Test.YtdibbemgpikgjaaGreatW04
set_option maxRecDepth 10000
set_option maxHeartbeats 8000000
namespace Go.Proofs.YtdibbemgpikgjaaGreat
open Go Go.RowKit
attribute [local go_sem] dD dH dE dI ed eu dB dF dC dG
theorem Ny (M:Nat) (w:World) (rb pb po:Nat) (t:TypeId) (cs:Array Value) (n:Int) (R:List UInt8) (hr:fQ M w rb (le n 1++R)) (h0:0≤n) (h1:n<256) (hp:w.heap[pb]? =some (.cells cs t (0,0))) (hpo:po<cs.size) (mG:M≤pb) (hne:pb≠rb):
  Calls Tryz.prog 86 #[.iface 109 (pt rb), .pointer (some ⟨pb,po,none⟩)] w (E5 M w rb pb po t cs n R):=by
 have HC:=ae (iY M w rb pb po 1 t cs n n R hr (by omega) (iG n h0 h1 R) hp hpo mG hne);clear hr hp;go_enter Tryz.func86,Tryz.ntmps86;go_wp2_with fail;refine HC.out.mono ?_;rintro e w1 ⟨rfl,h⟩;have H:=ae h;clear h HC;go_wp2_with fail
 go_end0
 exact ⟨rfl,H.out⟩
theorem JH {W W':World} {lo e size g n m cap rb o:Nat} {xs:List Value} {v:Value} {cur:Array Value} (h:W.ownsRow lo e size (.slice (some ⟨g,0,none⟩) n cap) m xs) (hg:W.heap[g]? =some (.cells cur e (0,0))) (hp:bD W rb g e (cur.setIfInBounds o v) W'):
  W'.ownsRow lo e size (.slice (some ⟨g,0,none⟩) n cap) m (xs.set o v):=by
 obtain ⟨cur',h1,h2,h3,h4,h5,h6,h7,rfl⟩:=ji h;rw [hg] at h1;injection h1 with h1;injection h1 with h1;subst h1;exact G8 hp.tgt h2 h3 h4 (by rw [Array.size_setIfInBounds];exact h5) (by rw [Array.toList_setIfInBounds,List.take_set,h6]) (by rw [List.length_set];exact h7)
theorem ints_set (zs:List Int) (z:Int):((zs.map I)++ [I 0]).set zs.length (I z)=(zs++ [z]).map I:=by
 rw [List.set_append_right _ _ (by simp)];simp
def RlRel (M:Nat) (w:World) (rb pb po:Nat) (t:TypeId) (cs:Array Value) (n:Nat) (zs:List Int) (R:List UInt8) (i:Value) (wr:World):Prop:=
 ∃(k:Nat) (A:Option Addr) (c:Nat),k≤n∧i= .int .i64 k∧fQ M wr rb (dJ (zs.drop k)++R)∧bD w rb pb t (cs.setIfInBounds po (.slice A k c)) wr∧wr.ownsRow w.heap.size 3 1 (.slice A k c) k ((zs.take k).map I)
def TLiR (M:Nat) (w:World) (rb pb po:Nat) (t:TypeId) (cs:Array Value) (zs:List Int) (n:Nat) (R:List UInt8) (e:Ending) (w':World):Prop:=
 e= .returned (.tuple #[])∧∃A c,fQ M w' rb R∧bD w rb pb t (cs.setIfInBounds po (.slice A n c)) w'∧w'.ownsRow w.heap.size 3 1 (.slice A n c) n (zs.map I)
theorem QE (M:Nat) (w:World) (rb pb po n:Nat) (t:TypeId) (cs:Array Value) (zs:List Int) (R:List UInt8) (hn:zs.length=n) (hn2:n≤100) (hfit:∀z∈zs,0≤z∧z<256) (hr:fQ M w rb ((le n 1++dJ zs)++R)) (hp:w.heap[pb]? =some (.cells cs t (0,0))) (hpo:cs[po]? =some (.slice none 0 0)) (mG:M≤pb) (hne:pb≠rb):
  Calls Tryz.prog 85 #[.iface 109 (pt rb), .pointer (some ⟨pb,po,none⟩),I 1, .func (.func 86) #[] #[]] w (TLiR M w rb pb po t cs zs n R):=by
 rw [List.append_assoc] at hr;have hpl:pb<w.heap.size:=(bY.1 hp).1;have hlo:=hr.lo;have hrl:=hr.lt;have hcs:cs.setIfInBounds po (.slice none 0 0)=cs:=by
  apply Array.ext_getElem?;intro i;rw [Array.getElem?_setIfInBounds];split
  ·rename_i e;subst e;split
   ·exact hpo.symm
   ·rename_i e2;rw [Array.getElem?_eq_none (by omega)] at hpo;cases hpo
  ·rfl
 have hc0:w.cell? ⟨pb,po,none⟩=some (.slice none 0 0):=(cell_of_row w pb po _ _ _ hp).trans hpo;have hpos:po<cs.size:=(bY.1 hpo).1;have HC:=ae (kH M w.drew rb 1 0 n n (dJ zs++R) hr.drew (by omega) (iG _ (by omega) (by omega) _));have HP:Hid (bD w rb pb t (cs.setIfInBounds po (.slice none 0 0)) w):=ae (by rw [hcs];exact bD.refl hp);have HN:=ae hn;have HF:=ae hfit;clear hr hp hpo hcs hn hfit;obtain ⟨i0,hi,hz0,hz1,hz2⟩:=info_parts qN;go_enter Tryz.func85,Tryz.ntmps85;go_wp2_with fail;go_still_tail 9,(by kernel_rfl);go_wp2_with fail;refine HC.out.mono ?_;rintro e w1 ⟨rfl,hr1,hk1⟩;have HR1:=ae hr1;have lU:=ae (HP.out.drew.jZ hk1 hpl hne);clear hr1 hk1 HC hc0;go_wp2_with fail
 go_loopw [22] (fun i wr=>RlRel M w rb pb po t cs n zs R i wr) (fun i _=>n - (intOf i).toNat)
 case atStart=>exact ⟨0,none,0,Nat.zero_le _,rfl,HR1.out,lU.out,World.ownsRow_nil _ _ _ _⟩
 case round=>
  obtain ⟨k,A,c,hk,rfl,hr,hp,hown⟩:=hrel;have HR:=ae hr;have lV:=ae hp;have HO:=ae hown;have hcp:wr.cell? ⟨pb,po,none⟩=some (.slice A k c):=(hp.cell po).trans (by simp [hpos]);have hsw:=hp.size;clear hr hp hown HR1 lU HP;by_cases hlt:k<n
  ·have Ri:(0:Int)≤(k:Int):=by omega
   have i1:(k:Int)<(n:Int):=by omega
   have hkz:k<zs.length:=by rw [HN.out];exact hlt
   obtain ⟨z,hz⟩:∃z,zs[k]? =some z:=⟨_,dK hkz⟩;have hzr:=HF.out z (gz hz);have HZ:=ae hz;have hbase:w.heap.size≤(wr.alloc (.cells #[I 0] 3)).heap.size:=by simp;omega
   clear hz;go_wp2_with (at_builtin;refine wpList_append_own_at _ rfl _ _ 44 rfl w.heap.size 3 i0 (.int .i64 0) 1 8 Tryz.underlying44 hi hz0 hz1 hz2 rfl (by decide) _ _ _ rfl (HO.out.alloc _) ⟨wr.heap.size,0,none⟩ 1 1 [I 0] rfl rfl ?c1 ?c2 ?c3 ?c4 ?c5 ?_)
   case c1=>exact cell_one_new _ _ _
   case c2=>intro u hu;simp at hu;subst hu;rfl
   case c3=>unfold maxLen;omega
   case c4=>omega
   case c5=>exact hbase
   intro v' w2 hown2 hgrow2 _ qE;rw [←List.map_take] at hown2;obtain ⟨g2,c2,rfl,hg2⟩:=eU hown2 (Nat.succ_pos _);have hbw:∀b,b<w.heap.size→w2.heap[b]? =wr.heap[b]? :=fun b hb=>by rw [hgrow2.block b (by simp;omega) (eG HO.out b hb),Below.heap_alloc wr _ b (by omega)]
   have hs2:wr.heap.size≤w2.heap.size:=by have:=hgrow2.size;rw [World.size_alloc] at this;omega
   have hp2:w2.heap[pb]? =some (.cells (cs.setIfInBounds po (.slice A k c)) t (0,0)):=(hbw pb hpl).trans lV.out.tgt;have hcp2:w2.cell? ⟨pb,po,none⟩=some (.slice A k c):=(cell_of_row w2 pb po _ _ _ hp2).trans (by simp [hpos]);have xw:=frozen_of_row w2 pb po _ _ hp2;have hlo2:=fM hown2;have hP3:bD w rb pb t (cs.setIfInBounds po (.slice (some ⟨g2,0,none⟩) (k+1) c2)) (w2.setCell ⟨pb,po,none⟩ (.slice (some ⟨g2,0,none⟩) (k+1) c2)):=by
    have h:bD w rb pb t (cs.setIfInBounds po (.slice A k c)) w2:=⟨hgrow2.os.trans lV.out.os,hgrow2.tape.trans lV.out.tape,hgrow2.output.trans lV.out.output,Nat.le_trans lV.out.size hs2,fun b hb h1 h2=>(hbw b hb).trans (lV.out.block b hb h1 h2),hp2⟩;have h:=h.put po (.slice (some ⟨g2,0,none⟩) (k+1) c2)
    rwa [Array.setIfInBounds_setIfInBounds] at h
   have CP:fQ M (w2.setCell ⟨pb,po,none⟩ (.slice (some ⟨g2,0,none⟩) (k+1) c2)) rb (dJ (zs.drop k)++R):=(HR.out.of (hbw rb hrl) fun b hb=>hbw b (by omega)).put mG hne _;have hO3:(w2.setCell ⟨pb,po,none⟩ (.slice (some ⟨g2,0,none⟩) (k+1) c2)).ownsRow w.heap.size 3 1 (.slice (some ⟨g2,0,none⟩) (k+1) c2) (k+1) ((zs.take k).map I++ [I 0]):=dn (p:=⟨pb,po,none⟩) hown2 (by intro e;injection e with e;simp only at e;omega);have dV:=ae hP3;have HR3:=ae CP;have mV:=ae hO3;clear hown2 hgrow2 qE hbw hp2 hP3 CP hO3 hg2 hcp;go_wp2_with fail;obtain ⟨w3,hw3⟩:∃W,w2.setCell ⟨pb,po,none⟩ (.slice (some ⟨g2,0,none⟩) (k+1) c2)=W:=⟨_,rfl⟩;rw [hw3] at dV HR3 mV ⊢;obtain ⟨cur,q1,q2,q3,q4,q5,q6,q7,_⟩:=ji mV.out;have hcz:dJ (zs.drop k)++R=le z 1++(dJ (zs.drop (k+1))++R):=by
    have hd:zs.drop k=z::zs.drop (k+1):=by
     rw [List.drop_eq_getElem_cons hkz];have h:=HZ.out;rw [dK hkz] at h;injection h with h;rw [h]
    rw [hd];simp [dJ]
   have hr3:=HR3.out;rw [hcz] at hr3;refine (Ny M w3 rb g2 k 3 cur z _ hr3 hzr.1 hzr.2 q1 (by rw [q5];omega) (by omega) (by omega)).mono ?_;rintro e w4 ⟨rfl,hr4,gW⟩;have hO4:=JH mV.out q1 gW;have hlen:((zs.take k).map I).length=k:=by rw [List.length_map,List.length_take];omega
   have hset:((zs.take k).map I++ [I 0]).set k (I z)=(zs.take (k+1)).map I:=by
    have h:=ints_set (zs.take k) z;rw [show (zs.take k).length=k by rw [List.length_take];omega] at h;rw [h,jJ zs k z HZ.out]
   rw [hset] at hO4;have FB:bD w rb pb t (cs.setIfInBounds po (.slice (some ⟨g2,0,none⟩) (k+1) c2)) w4:=⟨gW.os.trans dV.out.os,gW.tape.trans dV.out.tape,gW.output.trans dV.out.output,Nat.le_trans dV.out.size gW.size,fun b hb h1 h2=>(gW.block b (dS hb dV.out.size) (by omega) h2).trans (dV.out.block b hb h1 h2),(gW.block pb (dS hpl dV.out.size) (by omega) hne).trans dV.out.tgt⟩;have HR4:=ae hr4;have pV:=ae FB;have uZ:=ae hO4;clear hr4 gW hO4 FB hset hlen hr3 hcz q1 q2 q3 q4 q5 q6 q7 hw3 hcp2 xw;go_wp2_with fail;go_roundw
   case rel=>exact ⟨k+1,some ⟨g2,0,none⟩,c2,by omega,by go_num,HR4.out,pV.out,uZ.out⟩
   case measure=>simp [intOf];omega
  ·have hkn:k=n:=by omega
   have kY:=ae hkn;have hlt':¬(k:Int)<(n:Int):=by omega
   clear hkn hlt hcp;go_wp2_with fail
   go_end0
   refine ⟨rfl,A,c,?_,?_,?_⟩
   ·have h:=HR.out;rw [kY.out,List.drop_of_length_le (by rw [HN.out];exact Nat.le_refl _)] at h;exact h
   ·have h:=lV.out
    rwa [kY.out] at h
   ·have h:=HO.out
    rwa [kY.out,List.take_of_length_le (by rw [HN.out];exact Nat.le_refl _)] at h
end Go.Proofs.YtdibbemgpikgjaaGreat
namespace Go.Proofs.YtdibbemgpikgjaaGreat
open Go Go.RowKit
def aB (w:World) (B:Nat) (A:Option Addr) (cs:List Value):Prop:=
 cs.length=0∨∃b off,A=some ⟨b,off,none⟩∧b<B∧∀j u,cs[j]? =some u→w.cell? ⟨b,off+j,none⟩=some u
section
variable {w w':World} {B B':Nat} {A:Option Addr} {cs:List Value}
theorem aB.keep (h:aB w B A cs) (hb:Below B w w'):aB w' B A cs:=by
 rcases h with h|⟨b,off,h1,h2,h3⟩
 ·exact .inl h
 ·exact .inr ⟨b,off,h1,h2,fun j u hu=>(hb.cell (p:=⟨b,off+j,none⟩) h2).trans (h3 j u hu)⟩
theorem aB.more (h:aB w B A cs) (hB:B≤B'):aB w B' A cs:=by
 rcases h with h|⟨b,off,h1,h2,h3⟩
 ·exact .inl h
 ·exact .inr ⟨b,off,h1,by omega,h3⟩
theorem aB.grow (h:aB w w.heap.size A cs) (hb:Below w.heap.size w w'):aB w' w'.heap.size A cs:=(h.keep hb).more hb.size
theorem aB.nil:aB w B A []:= .inl rfl
theorem aB.there (h:aB w B A cs) (h0:0<cs.length):∃b off,A=some ⟨b,off,none⟩∧b<B∧∀j u,cs[j]? =some u→w.cell? ⟨b,off+j,none⟩=some u:=by
 rcases h with h|h
 ·omega
 ·exact h
theorem aB.fA {lo e size n c:Nat} (h:w.ownsRow lo e size (.slice A n c) n cs):aB w w.heap.size A cs:=by
 rcases h.2 with ⟨hv,hn⟩|⟨g,cap,cur,hv,_,hh,_⟩
 ·refine .inl ?_;rw [h.1,hn,Nat.zero_mul]
 ·injection hv with h1 _ _;subst h1;exact .inr ⟨g,0,rfl,(bY.1 hh).1,fun j u hu=>by rw [Nat.zero_add,←addr_add];exact h.cells (g:=g) rfl j u hu⟩
theorem aB.ints {zs:List Int} (h:aB w B A (zs.map I)):fO w B A zs:=by
 rcases h with h|⟨b,off,h1,h2,h3⟩
 ·exact .inl (by simpa using h)
 ·refine .inr ⟨b,off,h1,h2,fun j hj=>?_⟩;rw [h3 j (I zs[j]) (by rw [List.getElem?_map,dK hj];rfl),dK hj];rfl
end
theorem flat_get {α:Type} {s:Nat} (f:α→List Value) (xs:List α) (hs:∀x∈xs,(f x).length=s) (k j:Nat) (x:α) (hx:xs[k]? =some x) (hj:j<s):(xs.flatMap f)[k*s+j]? =(f x)[j]? :=by
 induction xs generalizing k with
 |nil=>cases hx
 |cons y xs ih=>
  rw [List.flatMap_cons];have hy:=hs y (List.mem_cons_self ..);cases k with
  |zero=>
   injection hx with hx;subst hx;rw [Nat.zero_mul,Nat.zero_add,List.getElem?_append_left (by rw [hy];exact hj)]
  |succ k=>
   rw [List.getElem?_append_right (by rw [hy,Nat.succ_mul];omega),hy,show (k+1)*s+j - s=k*s+j by rw [Nat.succ_mul];omega];exact ih (fun x hx=>hs x (List.mem_cons_of_mem _ hx)) k hx
theorem dP {α:Type} {s:Nat} (f:α→List Value) (xs:List α) (hs:∀x∈xs,(f x).length=s):(xs.flatMap f).length=xs.length*s:=by
 induction xs with
 |nil=>simp
 |cons y xs ih=>rw [List.flatMap_cons,bF,ih (fun x hx=>hs x (List.mem_cons_of_mem _ hx)),hs y (List.mem_cons_self ..),List.length_cons,Nat.succ_mul];omega
theorem GG {α:Type} (f:α→List Value) (xs:List α) (h1:∀x∈xs,∀u∈f x,u.oneCell'=true):∀u∈xs.flatMap f,u.oneCell'=true:=by
 intro u hu;obtain ⟨x,hm,hx⟩:=List.mem_flatMap.1 hu;exact h1 x hm u hx
theorem aB.elem {α:Type} {w:World} {s b off:Nat} {f:α→List Value} {xs:List α} (hs:∀x∈xs,(f x).length=s) (h:∀j u,(xs.flatMap f)[j]? =some u→w.cell? ⟨b,off+j,none⟩=some u) (k:Nat) (x:α) (hx:xs[k]? =some x):w.rangeAt b (off+k*s) (f x):=by
 intro j u hu;have hj:j<s:=by rw [←hs x (gz hx)];exact (iP.1 hu).1
 rw [Nat.add_assoc];exact h _ u (by rw [flat_get f xs hs k j x hx hj];exact hu)
theorem lM (t:Tb) (v v':Value):(ai t v).setIfInBounds 3 v'=ai t v':=by simp [ai,kV]
theorem aT (t:Tb) (A:Option Addr) (n c:Nat):(ai t (.slice A n c)).all (·.oneCell')=true:=by
 rw [Array.all_eq_true_iff_forall_mem];intro u hu;unfold ai kV at hu;rw [List.mem_toArray,List.mem_append,List.mem_append] at hu;rcases hu with h|h|h
 ·simp at h;rcases h with rfl|rfl|rfl|rfl<;>rfl
 ·exact xO _ u h
 ·exact xO _ u h
structure Ac (w:World) (t:Tb) (v:Value) (W:World):Prop where
 var:W.heap[w.heap.size]? =some (.cells (ai t v) 32 (0,0))
 res:W.heap[w.heap.size+1]? =some (.cells Tryz.zeroCells32 32 (0,0))
 up:Below w.heap.size w W
theorem Ac.lt {w W:World} {t:Tb} {v:Value} (h:Ac w t v W):w.heap.size+1<W.heap.size:=(bY.1 h.res).1
theorem Ac.grow {w W W':World} {t:Tb} {v:Value} (h:Ac w t v W) (hb:Below W.heap.size W W'):Ac w t v W':=
 ⟨(hb.block _ (by have:=h.lt;omega)).trans h.var,(hb.block _ h.lt).trans h.res,ah h.up hb⟩
theorem Ac.store {w W:World} {t:Tb} {v:Value} (h:Ac w t v W) (v':Value):Ac w t v' (W.setCell ⟨w.heap.size,3,none⟩ v'):=
 ⟨by rw [heap_setCell_same W _ 3 _ _ _ h.var,lM],(heap_setCell_other W _ _ v' (by show w.heap.size+1≠w.heap.size;omega)).trans h.res,h.up.setCell (p:=⟨w.heap.size,3,none⟩) (Nat.le_refl _) _⟩
theorem Ac.puts {w W:World} {t:Tb} {v:Value} (h:Ac w t v W) (g o:Nat) (vs:List Value) (hg:w.heap.size+2≤g):Ac w t v (W.setCells g o vs):=
 ⟨(pq vs W g o _ (by omega)).trans h.var,(pq vs W g o _ (by omega)).trans h.res,JP vs W g o h.up (by omega)⟩
theorem Ac.drew {w W:World} {t:Tb} {v:Value} (h:Ac w t v W):Ac w t v W.drew:=⟨h.var,h.res,h.up.drew⟩
theorem Ac.start (w:World) (t:Tb) (v:Value):Ac w t v ((w.alloc (.cells (ai t v) 32)).alloc (.cells Tryz.zeroCells32 32)):=
 ⟨heap_alloc2_old w _ _,heap_alloc2_new w _ _,ah (ag w _) (ag _ _)⟩
theorem Ac.row {w W:World} {t:Tb} {v:Value} (h:Ac w t v W):Row W w.heap.size (ai t v):=⟨by have:=h.lt;omega,fun i=>cell_of_row W _ i _ _ _ h.var⟩
def ClT (w:World) (t:Tb) (zs:List dA) (e:Ending) (w':World):Prop:=
 ∃A c zs',e= .returned (.agg (ai t (.slice A zs.length c)))∧gX w.heap.size w' (.slice A zs.length c) zs'∧zs'.map (·.e)=zs.map (·.e)∧Below w.heap.size w w'
attribute [local go_sem] jm jo jq bK
theorem Jo (t:Tb) (h32:t.prev.length=32) (hm:t.bJ.length=32) (w:World):Calls Tryz.prog 22 #[.agg (ai t (.slice none 0 0))] w (ClT w t []):=by
 have HS:=ae (Ac.start w t (.slice none 0 0));have dR:=ae (bP t (.slice none 0 0) h32 hm);have nT:Hid (Tryz.zeroCells32.size=(ai t (.slice none 0 0)).size):=ae (by rw [aZ _ _ h32 hm];kernel_rfl);go_enter Tryz.func22,Tryz.ntmps22;go_wp2_with fail;generalize (w.alloc (.cells (ai t (.slice none 0 0)) 32)).alloc (.cells Tryz.zeroCells32 32)=W1 at HS ⊢;have hr0:=HS.out.row.2;have hl0:=HS.out.lt;have hf0:∀i,W1.frozen? ⟨w.heap.size,i,none⟩=false:=fun i=>frozen_of_row _ _ i _ _ HS.out.var;have hs3:W1.setCell ⟨w.heap.size,3,none⟩ (.slice none 0 0)=W1:=jl (v:= .slice none 0 0) (hr0 3);refine (Jm _ _).mono ?_;rintro e w2 ⟨rfl,rfl⟩;go_wp2_with fail
 go_loop [11] (fun i=>i= .int .i64 0) (fun _=>0)
 case atStart=>rfl
 case round=>
  subst hrel;go_wp2_with (first
   |(with_reducible refine dM 32 ?_;refine aV rfl _ _ rfl w.heap.size rfl (ai t (.slice none 0 0)) HS.out.row _ Tryz.underlying32 rfl dR.out ?_)
   |(with_reducible refine bV 32 ?_;refine wpList_store_row rfl _ _ _ rfl (w.heap.size+1) (ai t (.slice none 0 0)) rfl rfl 32 Tryz.zeroCells32 HS.out.res dR.out nT.out (aT _ _ _ _) ?_))
  refine bodyPost_ret (v:= .agg (ai t (.slice none 0 0))) (results_cell_row rfl _ _ (w.heap.size+1) _ (ai t (.slice none 0 0)) (0,0) _ rfl (setRow_heap _ _ _ _ _ _ HS.out.res) Tryz.underlying32 rfl dR.out) rfl ?_;exact ⟨none,0,[],rfl,⟨World.ownsRow_nil _ _ _ _,(fun _ h=>nomatch h),(fun _ h=>nomatch h),fun _=>rfl⟩,rfl,below_setRow HS.out.up (Nat.le_succ _) _⟩
def LX (lo g:Nat) (w:World) (A:Option Addr) (zs:List Int):Prop:=
 ∃b off,A=some ⟨b,off,none⟩∧lo≤b∧b<w.heap.size∧b≠g∧∀j,j<zs.length→w.cell? ⟨b,off+j,none⟩=some (I (zs[j]?.getD 0))
theorem LX.aQ {lo g:Nat} {w w':World} {A:Option Addr} {zs:List Int} (h:LX lo g w A zs) (hs:w.heap.size≤w'.heap.size) (hb:∀k,k<w.heap.size→k≠g→w'.heap[k]? =w.heap[k]?):LX lo g w' A zs:=by
 obtain ⟨b,off,h1,h2,h3,h4,h5⟩:=h;exact ⟨b,off,h1,h2,dS h3 hs,h4,fun j hj=>(World.cell?_of_block (a:=⟨b,off+j,none⟩) (hb b h3 h4)).trans (h5 j hj)⟩
theorem LX.li {lo g:Nat} {w:World} {A:Option Addr} {zs:List Int} (h:LX lo g w A zs):LI lo w A zs:=by
 obtain ⟨b,off,h1,h2,h3,_,h5⟩:=h;exact .inr ⟨b,off,h1,h2,h3,h5⟩
theorem LX.fA {lo B g b n c:Nat} {w:World} {zs:List Int} (h:w.ownsRow B 3 1 (.slice (some ⟨b,0,none⟩) n c) n (zs.map I)) (hl:lo≤B) (hg:g<B):LX lo g w (some ⟨b,0,none⟩) zs:=by
 have h1:=fM h;refine ⟨b,0,rfl,by omega,h1.2,by omega,fun j hj=>?_⟩;rw [Nat.zero_add];refine l9 h j _ ?_;rw [List.getElem?_map,dK hj];rfl
def ClRel (w:World) (t:Tb) (g n c:Nat) (zs:List dA) (i:Value) (wr:World):Prop:=
 ∃(k:Nat) (ys:List dA),k≤n∧i= .int .i64 k∧ys.length=k∧ys.map (·.e)=(zs.take k).map (·.e)∧Ac w t (.slice (some ⟨g,0,none⟩) n c) wr∧
  wr.ownsRow (w.heap.size+2) 55 9 (.slice (some ⟨g,0,none⟩) n c) n (aP (ys++zs.drop k))∧∀y∈ys,LX (w.heap.size+2) g wr y.s.A y.e.z.cal.aj∧zt y.s
theorem Jp (t:Tb) (g0 c0 n:Nat) (zs:List dA) (w:World) (hz:∀x∈zs,ig x.e.z∧zt x.s) (hn:zs.length=n) (hn0:0<n) (hn1:n≤128) (h32:t.prev.length=32) (hm:t.bJ.length=32)
  (hA:∀j u,(aP zs)[j]? =some u→w.cell? ⟨g0,j,none⟩=some u) (hg0:g0<w.heap.size) (hI:∀x∈zs,fO w w.heap.size x.s.A x.e.z.cal.aj):
  Calls Tryz.prog 22 #[.agg (ai t (.slice (some ⟨g0,0,none⟩) n c0))] w (ClT w t zs):=by
 have HS:=ae (Ac.start w t (.slice (some ⟨g0,0,none⟩) n c0));have dR:Hid (∀v,(Tryz.prog.info? 32).map (·.size)=some (ai t v).size):=ae fun v=>bP t v h32 hm;have nT:Hid (∀v,Tryz.zeroCells32.size=(ai t v).size):=ae fun v=>(by rw [aZ _ _ h32 hm];kernel_rfl);have HZ:=ae hz;have HN:=ae hn;have HA:=ae hA;have HI:=ae hI;clear hz hn hA hI;go_enter Tryz.func22,Tryz.ntmps22;go_wp2_with fail;generalize (w.alloc (.cells (ai t (.slice (some ⟨g0,0,none⟩) n c0)) 32)).alloc (.cells Tryz.zeroCells32 32)=W1 at HS ⊢;have hl0:=HS.out.lt;refine (Gx g0 c0 zs n W1 (fun j u hu=>(HS.out.up.cell (p:=⟨g0,j,none⟩) hg0).trans (HA.out j u hu)) (by omega) HN.out hn0 (by omega)).mono ?_;rintro e w2 ⟨g,c,rfl,hown,hb2⟩;have HS2:=ae (HS.out.grow hb2);have hr2:=HS2.out.row.2;have hf2:∀i,w2.frozen? ⟨w.heap.size,i,none⟩=false:=fun i=>frozen_of_row _ _ i _ _ HS2.out.var;have hg1:=fM hown;have nS:=ae (HS2.out.store (.slice (some ⟨g,0,none⟩) n c));have mV:=ae (dn (u:= .slice (some ⟨g,0,none⟩) n c) (p:=⟨w.heap.size,3,none⟩) (aX hown (base':=w.heap.size+2) (by omega)) (by intro h;injection h with h;simp only at h;omega));have hg2:w.heap.size+2≤g:=by omega
 clear hown hb2 HS hl0 hg1;go_wp2_with fail;generalize w2.setCell ⟨w.heap.size,3,none⟩ (.slice (some ⟨g,0,none⟩) n c)=w3 at nS mV ⊢;clear hr2 hf2
 go_loopw [11] (fun i wr=>ClRel w t g n c zs i wr) (fun i _=>n - (intOf i).toNat)
 case atStart=>exact ⟨0,[],Nat.zero_le _,rfl,rfl,rfl,nS.out,mV.out,fun _ h=>nomatch h⟩
 case round=>
  obtain ⟨k,ys,hk,rfl,hyl,hye,hcs,hown,hym⟩:=hrel;have HC:=ae hcs;have HO:=ae hown;have Oe:=ae hye;have IY:=ae hym;have lW:=ae hyl;clear hcs hown hye hym hyl nS mV;by_cases hlt:k<n
  ·have hkz:k<zs.length:=by rw [HN.out];exact hlt
   obtain ⟨x,hx⟩:∃x,zs[k]? =some x:=⟨_,dK hkz⟩;have hd:zs.drop k=x::zs.drop (k+1):=by
    rw [List.drop_eq_getElem_cons hkz];rw [dK hkz] at hx;injection hx with hx;rw [hx]
   have hown2:=HO.out;rw [hd] at hown2;have mJ:=ae hown2;have hxm:=gz hx;obtain ⟨hfl,hnil⟩:=HZ.out x hxm;have cc:∀j u,x.cells[j]? =some u→wr.cell? ⟨g,k*9+j,none⟩=some u:=fun j u hu=>by
    have hj:j<9:=(bY.1 hu).1;refine l9 hown2 _ _ ?_;rw [lN _ k j x (by rw [List.getElem?_append_right (by have:=lW.out;omega),lW.out];simp) hj];exact hu
   have hwr:g<wr.heap.size:=(fM hown2).2;have fz:∀j,wr.frozen? ⟨g,j,none⟩=false:=xK hown2;have a3:wr.cell? ⟨w.heap.size,3,none⟩=some (.slice (some ⟨g,0,none⟩) n c):=(HC.out.row.2 3).trans rfl;have z0:wr.cell? ⟨g,k*9+1,none⟩=some (I x.e.z.cal.aI):=cc 1 _ rfl;have z1:wr.cell? ⟨g,k*9+2,none⟩=some (.slice x.s.A x.e.z.cal.aj.length x.s.a):=cc 2 _ rfl;have z2:wr.cell? ⟨g,k*9+3,none⟩=some (I x.e.z.cal.aY):=cc 3 _ rfl;have z3:wr.cell? ⟨g,k*9+4,none⟩=some (.slice x.s.B x.e.z.cal.rules.length x.s.b):=cc 4 _ rfl;have z4:wr.cell? ⟨g,k*9+5,none⟩=some (I x.e.z.start):=cc 5 _ rfl;have z5:wr.cell? ⟨g,k*9+6,none⟩=some (.slice x.s.C x.e.z.trans.length x.s.c):=cc 6 _ rfl;have z6:wr.cell? ⟨g,k*9+7,none⟩=some (I x.e.z.hor):=cc 7 _ rfl;have z7:wr.cell? ⟨g,k*9+8,none⟩=some (.slice x.s.D x.e.z.az.length x.s.d):=cc 8 _ rfl;have HCZ:Hid (∀W,Below wr.heap.size wr W→Calls Tryz.prog 29 #[.agg #[I x.e.z.cal.aI, .slice x.s.A x.e.z.cal.aj.length x.s.a,I x.e.z.cal.aY, .slice x.s.B x.e.z.cal.rules.length x.s.b,I x.e.z.start, .slice x.s.C x.e.z.trans.length x.s.c,I x.e.z.hor, .slice x.s.D x.e.z.az.length x.s.d]] W (CzP W x.e.z)):=
    ae fun W hb=>Ag x.e.z x.s W hfl hnil (((HI.out x hxm).keep (ah HC.out.up hb)).more (ah HC.out.up hb).size)
   have i0:(0:Int)≤(k:Int):=by omega
   have i1:(k:Int)<(n:Int):=by omega
   have hNg:w.heap.size<wr.heap.size:=by omega
   clear cc hkz hd hown2 hfl hnil hxm;have HX:=ae hx;clear hx;go_wp2_with fail;have hk9:k*9+1+8≤n*9:=by omega
   go_region_law (first|(go_simp;go_at_call 29;refine (HCZ.out _ (Below.refl _ _).drew).mono ?_;rintro e w5 ⟨g5,c5,rfl,hown5,hb5⟩;dsimp only [ax];have hs5:=hb5.size;have hc5:w5.cell? ⟨w.heap.size,3,none⟩=some (.slice (some ⟨g,0,none⟩) n c):=(hb5.cell (p:=⟨w.heap.size,3,none⟩) hNg).trans a3;have ML:∀j,w5.cell? ⟨g,j,none⟩=wr.cell? ⟨g,j,none⟩:=fun j=>hb5.cell (p:=⟨g,j,none⟩) hwr;have hf5:∀j,w5.frozen? ⟨g,j,none⟩=false:=fun j=>(hb5.frozen (p:=⟨g,j,none⟩) hwr).trans (fz j);have HW5:=ae hown5;have oN:=ae hb5;clear hown5 hb5 hs5))
   all_goals
    have hO5:w5.ownsRow (w.heap.size+2) 55 9 (.slice (some ⟨g,0,none⟩) n c) n (aP (ys++x::zs.drop (k+1))):=bf mJ.out fun j _ h2=>oN.out.block j h2;have hO6:=Dh (ax x.e.z ⟨some ⟨g5,0,none⟩,c5,none,0,none,0,none,0⟩).toList (k*9+1) _ _ hO5;rw [←lW.out,yj ys x _ _,lW.out] at hO6;have hC6:=(HC.out.drew.grow oN.out).puts g (k*9+1) (ax x.e.z ⟨some ⟨g5,0,none⟩,c5,none,0,none,0,none,0⟩).toList hg2;have hM6:∀y∈ys++ [(⟨x.e,⟨some ⟨g5,0,none⟩,c5,none,0,none,0,none,0⟩⟩:dA)],LX (w.heap.size+2) g (w5.setCells g (k*9+1) (ax x.e.z ⟨some ⟨g5,0,none⟩,c5,none,0,none,0,none,0⟩).toList) y.s.A y.e.z.cal.aj∧zt y.s:=by
     intro y hy;rcases List.mem_append.1 hy with hy|hy
     ·obtain ⟨h1,h2⟩:=IY.out y hy;exact ⟨h1.aQ (by rw [xP];exact oN.out.size) (fun j hj hjg=>(pq _ _ _ _ _ hjg).trans (oN.out.block j hj)),h2⟩
     ·rw [List.mem_singleton.1 hy];exact ⟨(LX.fA HW5.out (by show w.heap.size+2≤wr.heap.size;have:=HC.out.lt;omega) hwr).aQ (by rw [xP];exact Nat.le_refl _) (fun j _ hjg=>pq _ _ _ _ _ hjg),⟨⟨rfl,rfl⟩,⟨rfl,rfl⟩,⟨rfl,rfl⟩⟩⟩
    have yG:=ae hO6;have rq:=ae hC6;have HM6:=ae hM6;clear hO5 hO6 hC6 hM6 hc5 ML hf5;go_wp2_with fail;go_roundw
    case rel=>
     refine ⟨k+1,ys++ [⟨x.e,⟨some ⟨g5,0,none⟩,c5,none,0,none,0,none,0⟩⟩],by omega,by go_num,by rw [bF,lW.out];rfl,?_,rq.out,by rw [List.append_assoc];exact yG.out,HM6.out⟩;rw [List.map_append,Oe.out,List.take_add_one,HX.out,List.map_append];rfl
    case measure=>simp [intOf];omega
  ·have hkn:k=n:=by omega
   have kY:=ae hkn;have hlt':¬(k:Int)<(n:Int):=by omega
   clear hkn hlt;go_wp2_with (first
    |(with_reducible refine dM 32 ?_;refine aV rfl _ _ rfl w.heap.size rfl (ai t (.slice (some ⟨g,0,none⟩) n c)) HC.out.row _ Tryz.underlying32 rfl (dR.out _) ?_)
    |(with_reducible refine bV 32 ?_;refine wpList_store_row rfl _ _ _ rfl (w.heap.size+1) (ai t (.slice (some ⟨g,0,none⟩) n c)) rfl rfl 32 Tryz.zeroCells32 HC.out.res (dR.out _) (nT.out _) (aT _ _ _ _) ?_))
   refine bodyPost_ret (v:= .agg (ai t (.slice (some ⟨g,0,none⟩) n c))) (results_cell_row rfl _ _ (w.heap.size+1) _ (ai t (.slice (some ⟨g,0,none⟩) n c)) (0,0) _ rfl (setRow_heap _ _ _ _ _ _ HC.out.res) Tryz.underlying32 rfl (dR.out _)) rfl ?_;have hd:ys++zs.drop k=ys:=by rw [List.drop_of_length_le (by rw [HN.out,kY.out];exact Nat.le_refl _),List.append_nil]
   have hrow:=HO.out;rw [hd] at hrow;have hyn:ys.length=n:=lW.out.trans kY.out;refine ⟨some ⟨g,0,none⟩,c,ys,by rw [HN.out],⟨?_,fun y hy=>?_,fun y hy=>(IY.out y hy).2,fun h=>by omega⟩,by rw [Oe.out,kY.out,List.take_of_length_le (by rw [HN.out];exact Nat.le_refl _)],below_setRow HC.out.up (Nat.le_succ _) _⟩
   ·rw [HN.out,hyn];exact aX (bf hrow fun j h1 _=>setRow_other _ _ j _ (by omega)) (by omega)
   ·have h1:LI (w.heap.size+2) (wr.setRow (w.heap.size+1) (ai t (.slice (some ⟨g,0,none⟩) n c))) y.s.A y.e.z.cal.aj:=(IY.out y hy).1.li.aQ (by simp [World.setRow]) fun j h1 _=>setRow_other _ _ j _ (by omega);exact h1.lower (by omega)
end Go.Proofs.YtdibbemgpikgjaaGreat
namespace Go.Proofs.YtdibbemgpikgjaaGreat
open Go Go.RowKit
def Tr.cells (t:Tr):List Value:= [I t.at_,I t.off]
def Yr.cells (y:Yr):List Value:= [I y.month,I y.di,I y.dm,I y.minute,I y.off]
structure jR (w:World) (B:Nat) (s:Zs) (z:Zn):Prop where
 aj:aB w B s.A (z.cal.aj.map I)
 rules:aB w B s.B (z.cal.rules.flatMap Lr.cells)
 trans:aB w B s.C (z.trans.flatMap Tr.cells)
 az:aB w B s.D (z.az.flatMap Yr.cells)
structure oD (w:World) (B:Nat) (A:Option Addr) (zs:List dA):Prop where
 row:aB w B A (aP zs)
 each:∀x∈zs,jR w B x.s x.e.z
structure fH where
 t:Tb
 A:Option Addr
 c:Nat
 zs:List dA
def fH.cells (x:fH):List Value:=kV x.t (.slice x.A x.zs.length x.c)
structure lS (w:World) (B:Nat) (x:fH):Prop where
 names:x.t.aK=x.zs.map (·.e)
 prev:x.t.prev.length=32
 bJ:x.t.bJ.length=32
 aK:oD w B x.A x.zs
structure kU (w:World) (B:Nat) (A:Option Addr) (ts:List fH):Prop where
 row:aB w B A (ts.flatMap fH.cells)
 each:∀x∈ts,lS w B x
section
variable {w w':World} {B B':Nat} {A:Option Addr} {s:Zs} {z:Zn} {zs:List dA} {x:fH} {ts:List fH}
theorem jR.keep (h:jR w B s z) (hb:Below B w w'):jR w' B s z:=⟨h.aj.keep hb,h.rules.keep hb,h.trans.keep hb,h.az.keep hb⟩
theorem jR.more (h:jR w B s z) (hB:B≤B'):jR w B' s z:=⟨h.aj.more hB,h.rules.more hB,h.trans.more hB,h.az.more hB⟩
theorem jR.grow (h:jR w w.heap.size s z) (hb:Below w.heap.size w w'):jR w' w'.heap.size s z:=(h.keep hb).more hb.size
theorem oD.keep (h:oD w B A zs) (hb:Below B w w'):oD w' B A zs:=⟨h.row.keep hb,fun x hx=>(h.each x hx).keep hb⟩
theorem oD.more (h:oD w B A zs) (hB:B≤B'):oD w B' A zs:=⟨h.row.more hB,fun x hx=>(h.each x hx).more hB⟩
theorem oD.grow (h:oD w w.heap.size A zs) (hb:Below w.heap.size w w'):oD w' w'.heap.size A zs:=(h.keep hb).more hb.size
theorem lS.keep (h:lS w B x) (hb:Below B w w'):lS w' B x:=⟨h.names,h.prev,h.bJ,h.aK.keep hb⟩
theorem lS.more (h:lS w B x) (hB:B≤B'):lS w B' x:=⟨h.names,h.prev,h.bJ,h.aK.more hB⟩
theorem lS.grow (h:lS w w.heap.size x) (hb:Below w.heap.size w w'):lS w' w'.heap.size x:=(h.keep hb).more hb.size
theorem lS.size (h:lS w B x):x.cells.length=68:=by
 have:=aZ x.t (.slice x.A x.zs.length x.c) h.prev h.bJ;simpa [ai,fH.cells] using this
theorem kU.keep (h:kU w B A ts) (hb:Below B w w'):kU w' B A ts:=⟨h.row.keep hb,fun x hx=>(h.each x hx).keep hb⟩
theorem kU.more (h:kU w B A ts) (hB:B≤B'):kU w B' A ts:=⟨h.row.more hB,fun x hx=>(h.each x hx).more hB⟩
theorem kU.grow (h:kU w w.heap.size A ts) (hb:Below w.heap.size w w'):kU w' w'.heap.size A ts:=(h.keep hb).more hb.size
theorem kU.nil:kU w B A []:=⟨.nil,fun _ hx=>nomatch hx⟩
end
theorem wP (t:Tr):∀u∈t.cells,u.oneCell'=true:=by
 intro u hu;simp [Tr.cells] at hu;rcases hu with rfl|rfl<;>rfl
theorem wV (y:Yr):∀u∈y.cells,u.oneCell'=true:=by
 intro u hu;simp [Yr.cells] at hu;rcases hu with rfl|rfl|rfl|rfl|rfl<;>rfl
theorem Xt (r:Lr):∀u∈r.cells,u.oneCell'=true:=by
 intro u hu;simp [Lr.cells] at hu;rcases hu with rfl|rfl|rfl<;>rfl
def ClA (w:World) (e size n:Nat) (cs:List Value) (en:Ending) (w':World):Prop:=
 ∃A c,en= .returned (.slice A n c)∧w'.ownsRow w.heap.size e size (.slice A n c) n cs∧Below w.heap.size w w'
theorem fC {w:World} {base e size n:Nat} {v:Value} {xs:List Value} (h:w.ownsRow base e size v n xs):∃A c,v= .slice A n c:=by
 rcases h.2 with ⟨rfl,rfl⟩|⟨g,cap,cur,rfl,_⟩
 ·exact ⟨_,_,rfl⟩
 ·exact ⟨_,_,rfl⟩
theorem mW {w:World} {a:Addr} {cs:List Value} {o:Obj} (h:aB w w.heap.size (some a) cs):∀j u,cs[j]? =some u→(w.alloc o).cell? (a.add j)=some u:=by
 intro j u hu;rcases h with h|⟨b,off,h1,h2,h3⟩
 ·rw [List.eq_nil_of_length_eq_zero h] at hu;cases hu
 ·injection h1 with h1;subst h1;rw [Addr.add_mid,World.cell?_of_block (Below.heap_alloc w _ b h2)];exact h3 j u hu
theorem JA:(Tryz.prog.info? 134).map (fun i=>(i.zero,i.size,i.bytes))=some (some (.agg #[I 0,I 0, .bool false]),3,24):=by kernel_rfl
theorem xB:(Tryz.prog.info? 100).map (fun i=>(i.zero,i.size,i.bytes))=some (some (.agg #[I 0,I 0]),2,16):=by kernel_rfl
theorem GV:(Tryz.prog.info? 130).map (fun i=>(i.zero,i.size,i.bytes))=some (some (.agg #[I 0,I 0,I 0,I 0,I 0]),5,40):=by kernel_rfl
theorem WC (c:Nat) (w:World):Calls Tryz.prog 49 #[.slice none 0 c] w fun e w'=>e= .returned (.slice none 0 0)∧w'=w:=by
 have heq:∀W,(binOp .eql 44 (.slice none 0 c) (.slice none 0 0)).run Tryz.prog W= .ok (.bool true) W:=fun W=>by simp [binOp,run_equal_slice_nil W 44 3 none 0 c Tryz.underlying44]
 go_enter Tryz.func49,Tryz.ntmps49
 go_wp2
 go_ret;exact ⟨rfl,rfl⟩
theorem WB (A:Option Addr) (c n:Nat) (cs:List Value) (w:World) (hA:aB w w.heap.size A cs) (hl:cs.length=n*1) (h1:∀u∈cs,u.oneCell'=true) (hn:n≤10000):
  Calls Tryz.prog 49 #[.slice A n c] w (ClA w 3 1 n cs):=by
 cases A with
 |none=>
  have hc:cs= []:=by
   rcases hA with h|⟨b,off,h,_⟩
   ·exact List.eq_nil_of_length_eq_zero h
   ·cases h
  subst hc;have hn0:n=0:=by simp at hl;omega
  subst hn0;exact (WC c w).mono fun e w' ⟨he,hw⟩=>⟨none,0,he,World.ownsRow_nil _ _ _ _,by rw [hw];exact Below.refl _ _⟩
 |some a=>
  have RG:=ae (mW (o:= .cells #[] 3) hA);have HO:=ae (gV w 3 1);have HL:=ae hl;have H1:=ae h1;have HB:=ae (ag w (.cells #[] 3));obtain ⟨i0,hi,hz0,hz1,hz2⟩:=info_parts qN;have HI:=ae hi;have HZ0:=ae hz0;have HZ1:=ae hz1;have HZ2:=ae hz2;have heq:∀W,(binOp .eql 44 (.slice (some a) n c) (.slice none 0 0)).run Tryz.prog W= .ok (.bool false) W:=fun W=>by simp [binOp,run_equal_slice_nil W 44 3 (some a) n c Tryz.underlying44]
  clear hA hl h1 hi hz0 hz1 hz2;go_enter Tryz.func49,Tryz.ntmps49;go_wp2_with (at_builtin;refine wpList_append_own_at _ rfl _ _ 44 rfl w.heap.size 3 i0 (.int .i64 0) 1 8 Tryz.underlying44 HI.out HZ0.out HZ1.out HZ2.out rfl (by decide) _ 0 [] rfl HO.out a n c cs rfl HL.out RG.out H1.out (by unfold maxLen;omega) (by omega) (by simp) ?_);intro v' w' hown hg _ _;have HB2:=ae (bZ HB.out HO.out (by simp) hg);obtain ⟨A',c',rfl⟩:=fC hown;have HOW:=ae hown;clear hown hg;go_wp2_with fail;go_ret;exact ⟨A',c',by first|rfl|(rw [Nat.zero_add]),by have h:=HOW.out;simpa using h,HB2.out⟩
theorem WG (c:Nat) (w:World):Calls Tryz.prog 50 #[.slice none 0 c] w fun e w'=>e= .returned (.slice none 0 0)∧w'=w:=by
 have heq:∀W,(binOp .eql 45 (.slice none 0 c) (.slice none 0 0)).run Tryz.prog W= .ok (.bool true) W:=fun W=>by simp [binOp,run_equal_slice_nil W 45 134 none 0 c Tryz.underlying45]
 go_enter Tryz.func50,Tryz.ntmps50
 go_wp2
 go_ret;exact ⟨rfl,rfl⟩
theorem WE (A:Option Addr) (c n:Nat) (cs:List Value) (w:World) (hA:aB w w.heap.size A cs) (hl:cs.length=n*3) (h1:∀u∈cs,u.oneCell'=true) (hn:n≤10000):
  Calls Tryz.prog 50 #[.slice A n c] w (ClA w 134 3 n cs):=by
 cases A with
 |none=>
  have hc:cs= []:=by
   rcases hA with h|⟨b,off,h,_⟩
   ·exact List.eq_nil_of_length_eq_zero h
   ·cases h
  subst hc;have hn0:n=0:=by simp at hl;omega
  subst hn0;exact (WG c w).mono fun e w' ⟨he,hw⟩=>⟨none,0,he,World.ownsRow_nil _ _ _ _,by rw [hw];exact Below.refl _ _⟩
 |some a=>
  have RG:=ae (mW (o:= .cells #[] 134) hA);have HO:=ae (gV w 134 3);have HL:=ae hl;have H1:=ae h1;have HB:=ae (ag w (.cells #[] 134));obtain ⟨i0,hi,hz0,hz1,hz2⟩:=info_parts JA;have HI:=ae hi;have HZ0:=ae hz0;have HZ1:=ae hz1;have HZ2:=ae hz2;have heq:∀W,(binOp .eql 45 (.slice (some a) n c) (.slice none 0 0)).run Tryz.prog W= .ok (.bool false) W:=fun W=>by simp [binOp,run_equal_slice_nil W 45 134 (some a) n c Tryz.underlying45]
  clear hA hl h1 hi hz0 hz1 hz2;go_enter Tryz.func50,Tryz.ntmps50;go_wp2_with (at_builtin;refine wpList_append_own_at _ rfl _ _ 45 rfl w.heap.size 134 i0 (.agg #[I 0,I 0, .bool false]) 3 24 Tryz.underlying45 HI.out HZ0.out HZ1.out HZ2.out rfl (by decide) _ 0 [] rfl HO.out a n c cs rfl HL.out RG.out H1.out (by unfold maxLen;omega) (by omega) (by simp) ?_);intro v' w' hown hg _ _;have HB2:=ae (bZ HB.out HO.out (by simp) hg);obtain ⟨A',c',rfl⟩:=fC hown;have HOW:=ae hown;clear hown hg;go_wp2_with fail;go_ret;exact ⟨A',c',by first|rfl|(rw [Nat.zero_add]),by have h:=HOW.out;simpa using h,HB2.out⟩
theorem WI (c:Nat) (w:World):Calls Tryz.prog 51 #[.slice none 0 c] w fun e w'=>e= .returned (.slice none 0 0)∧w'=w:=by
 have heq:∀W,(binOp .eql 48 (.slice none 0 c) (.slice none 0 0)).run Tryz.prog W= .ok (.bool true) W:=fun W=>by simp [binOp,run_equal_slice_nil W 48 100 none 0 c Tryz.underlying48]
 go_enter Tryz.func51,Tryz.ntmps51
 go_wp2
 go_ret;exact ⟨rfl,rfl⟩
theorem WH (A:Option Addr) (c n:Nat) (cs:List Value) (w:World) (hA:aB w w.heap.size A cs) (hl:cs.length=n*2) (h1:∀u∈cs,u.oneCell'=true) (hn:n≤10000):
  Calls Tryz.prog 51 #[.slice A n c] w (ClA w 100 2 n cs):=by
 cases A with
 |none=>
  have hc:cs= []:=by
   rcases hA with h|⟨b,off,h,_⟩
   ·exact List.eq_nil_of_length_eq_zero h
   ·cases h
  subst hc;have hn0:n=0:=by simp at hl;omega
  subst hn0;exact (WI c w).mono fun e w' ⟨he,hw⟩=>⟨none,0,he,World.ownsRow_nil _ _ _ _,by rw [hw];exact Below.refl _ _⟩
 |some a=>
  have RG:=ae (mW (o:= .cells #[] 100) hA);have HO:=ae (gV w 100 2);have HL:=ae hl;have H1:=ae h1;have HB:=ae (ag w (.cells #[] 100));obtain ⟨i0,hi,hz0,hz1,hz2⟩:=info_parts xB;have HI:=ae hi;have HZ0:=ae hz0;have HZ1:=ae hz1;have HZ2:=ae hz2;have heq:∀W,(binOp .eql 48 (.slice (some a) n c) (.slice none 0 0)).run Tryz.prog W= .ok (.bool false) W:=fun W=>by simp [binOp,run_equal_slice_nil W 48 100 (some a) n c Tryz.underlying48]
  clear hA hl h1 hi hz0 hz1 hz2;go_enter Tryz.func51,Tryz.ntmps51;go_wp2_with (at_builtin;refine wpList_append_own_at _ rfl _ _ 48 rfl w.heap.size 100 i0 (.agg #[I 0,I 0]) 2 16 Tryz.underlying48 HI.out HZ0.out HZ1.out HZ2.out rfl (by decide) _ 0 [] rfl HO.out a n c cs rfl HL.out RG.out H1.out (by unfold maxLen;omega) (by omega) (by simp) ?_);intro v' w' hown hg _ _;have HB2:=ae (bZ HB.out HO.out (by simp) hg);obtain ⟨A',c',rfl⟩:=fC hown;have HOW:=ae hown;clear hown hg;go_wp2_with fail;go_ret;exact ⟨A',c',by first|rfl|(rw [Nat.zero_add]),by have h:=HOW.out;simpa using h,HB2.out⟩
theorem WO (c:Nat) (w:World):Calls Tryz.prog 52 #[.slice none 0 c] w fun e w'=>e= .returned (.slice none 0 0)∧w'=w:=by
 have heq:∀W,(binOp .eql 49 (.slice none 0 c) (.slice none 0 0)).run Tryz.prog W= .ok (.bool true) W:=fun W=>by simp [binOp,run_equal_slice_nil W 49 130 none 0 c Tryz.underlying49]
 go_enter Tryz.func52,Tryz.ntmps52
 go_wp2
 go_ret;exact ⟨rfl,rfl⟩
theorem WJ (A:Option Addr) (c n:Nat) (cs:List Value) (w:World) (hA:aB w w.heap.size A cs) (hl:cs.length=n*5) (h1:∀u∈cs,u.oneCell'=true) (hn:n≤10000):
  Calls Tryz.prog 52 #[.slice A n c] w (ClA w 130 5 n cs):=by
 cases A with
 |none=>
  have hc:cs= []:=by
   rcases hA with h|⟨b,off,h,_⟩
   ·exact List.eq_nil_of_length_eq_zero h
   ·cases h
  subst hc;have hn0:n=0:=by simp at hl;omega
  subst hn0;exact (WO c w).mono fun e w' ⟨he,hw⟩=>⟨none,0,he,World.ownsRow_nil _ _ _ _,by rw [hw];exact Below.refl _ _⟩
 |some a=>
  have RG:=ae (mW (o:= .cells #[] 130) hA);have HO:=ae (gV w 130 5);have HL:=ae hl;have H1:=ae h1;have HB:=ae (ag w (.cells #[] 130));obtain ⟨i0,hi,hz0,hz1,hz2⟩:=info_parts GV;have HI:=ae hi;have HZ0:=ae hz0;have HZ1:=ae hz1;have HZ2:=ae hz2;have heq:∀W,(binOp .eql 49 (.slice (some a) n c) (.slice none 0 0)).run Tryz.prog W= .ok (.bool false) W:=fun W=>by simp [binOp,run_equal_slice_nil W 49 130 (some a) n c Tryz.underlying49]
  clear hA hl h1 hi hz0 hz1 hz2;go_enter Tryz.func52,Tryz.ntmps52;go_wp2_with (at_builtin;refine wpList_append_own_at _ rfl _ _ 49 rfl w.heap.size 130 i0 (.agg #[I 0,I 0,I 0,I 0,I 0]) 5 40 Tryz.underlying49 HI.out HZ0.out HZ1.out HZ2.out rfl (by decide) _ 0 [] rfl HO.out a n c cs rfl HL.out RG.out H1.out (by unfold maxLen;omega) (by omega) (by simp) ?_);intro v' w' hown hg _ _;have HB2:=ae (bZ HB.out HO.out (by simp) hg);obtain ⟨A',c',rfl⟩:=fC hown;have HOW:=ae hown;clear hown hg;go_wp2_with fail;go_ret;exact ⟨A',c',by first|rfl|(rw [Nat.zero_add]),by have h:=HOW.out;simpa using h,HB2.out⟩
theorem WR (c:Nat) (w:World):Calls Tryz.prog 41 #[.slice none 0 c] w fun e w'=>e= .returned (.slice none 0 0)∧w'=w:=by
 have heq:∀W,(binOp .eql 30 (.slice none 0 c) (.slice none 0 0)).run Tryz.prog W= .ok (.bool true) W:=fun W=>by simp [binOp,run_equal_slice_nil W 30 55 none 0 c Tryz.underlying30]
 go_enter Tryz.func41,Tryz.ntmps41
 go_wp2
 go_ret;exact ⟨rfl,rfl⟩
theorem Ox (A:Option Addr) (c n:Nat) (cs:List Value) (w:World) (hA:aB w w.heap.size A cs) (hl:cs.length=n*9) (h1:∀u∈cs,u.oneCell'=true) (hn:n≤10000):
  Calls Tryz.prog 41 #[.slice A n c] w (ClA w 55 9 n cs):=by
 cases A with
 |none=>
  have hc:cs= []:=by
   rcases hA with h|⟨b,off,h,_⟩
   ·exact List.eq_nil_of_length_eq_zero h
   ·cases h
  subst hc;have hn0:n=0:=by simp at hl;omega
  subst hn0;exact (WR c w).mono fun e w' ⟨he,hw⟩=>⟨none,0,he,World.ownsRow_nil _ _ _ _,by rw [hw];exact Below.refl _ _⟩
 |some a=>
  have RG:=ae (mW (o:= .cells #[] 55) hA);have HO:=ae (gV w 55 9);have HL:=ae hl;have H1:=ae h1;have HB:=ae (ag w (.cells #[] 55));obtain ⟨i0,hi,hz0,hz1,hz2⟩:=info_parts uQ;have HI:=ae hi;have HZ0:=ae hz0;have HZ1:=ae hz1;have HZ2:=ae hz2;have heq:∀W,(binOp .eql 30 (.slice (some a) n c) (.slice none 0 0)).run Tryz.prog W= .ok (.bool false) W:=fun W=>by simp [binOp,run_equal_slice_nil W 30 55 (some a) n c Tryz.underlying30]
  clear hA hl h1 hi hz0 hz1 hz2;go_enter Tryz.func41,Tryz.ntmps41;go_wp2_with (at_builtin;refine wpList_append_own_at _ rfl _ _ 30 rfl w.heap.size 55 i0 (.agg fZ) 9 144 Tryz.underlying30 HI.out HZ0.out HZ1.out HZ2.out rfl (by decide) _ 0 [] rfl HO.out a n c cs rfl HL.out RG.out H1.out (by unfold maxLen;omega) (by omega) (by simp) ?_);intro v' w' hown hg _ _;have HB2:=ae (bZ HB.out HO.out (by simp) hg);obtain ⟨A',c',rfl⟩:=fC hown;have HOW:=ae hown;clear hown hg;go_wp2_with fail;go_ret;exact ⟨A',c',by first|rfl|(rw [Nat.zero_add]),by have h:=HOW.out;simpa using h,HB2.out⟩
end Go.Proofs.YtdibbemgpikgjaaGreat
