/- The texts TbR, TbJ, Pb, in this order. -/
import Derived.Test.YtdibbemgpikgjaaGreatDoorW00
import Derived.Test.YtdibbemgpikgjaaGreatDoorW01
import Derived.Test.YtdibbemgpikgjaaGreatDoorW02
set_option maxRecDepth 10000
set_option maxHeartbeats 8000000
namespace Go.Proofs.YtdibbemgpikgjaaGreatDoor
open Go Go.RowKit
theorem oH {W:World} {lo e size g n m cap:Nat} {xs:List Value} (h:W.ownsRow lo e size (.slice (some ⟨g,0,none⟩) n cap) m xs):
  ∃cur,W.heap[g]? =some (.cells cur e (0,0))∧lo≤g∧m≤cap∧cap≤maxLen∧cur.size=cap*size∧cur.toList.take (m*size)=xs∧xs.length=m*size∧n=m:=by
 obtain ⟨h0,⟨h1,_⟩|⟨g',cap',cur,h1,h2,h3,h4,h5,h6,h7⟩⟩:=h
 ·cases h1
 ·injection h1 with e1 e2 e3;injection e1 with e1;injection e1 with e1;subst e1 e2 e3;exact ⟨cur,h3,h2,h4,h5,h6,h7,h0,rfl⟩
theorem LU {W:World} {lo e size g n cap:Nat} {xs:List Value} {cur:Array Value} (h1:W.heap[g]? =some (.cells cur e (0,0))) (h2:lo≤g) (h3:n≤cap) (h4:cap≤maxLen) (h5:cur.size=cap*size) (h6:cur.toList.take (n*size)=xs) (h7:xs.length=n*size):W.ownsRow lo e size (.slice (some ⟨g,0,none⟩) n cap) n xs:=
 ⟨h7, .inr ⟨g,cap,cur,rfl,h2,h1,h3,h4,h5,h6⟩⟩
theorem pF {W:World} {lo e size g n m cap:Nat} {xs:List Value} (h:W.ownsRow lo e size (.slice (some ⟨g,0,none⟩) n cap) m xs) (j:Nat) (u:Value) (hu:xs[j]? =some u):W.cell? ⟨g,j,none⟩=some u:=by
 obtain ⟨cur,h1,h2,h3,h4,h5,h6,h7,_⟩:=oH h;rw [cell_of_row W g j _ _ _ h1];rw [←h6] at hu;rw [List.getElem?_take] at hu;split at hu
 ·simpa using hu
 ·cases hu
theorem xx {W:World} {lo e size g n m cap:Nat} {xs:List Value} (h:W.ownsRow lo e size (.slice (some ⟨g,0,none⟩) n cap) m xs) (j:Nat):W.frozen? ⟨g,j,none⟩=false:=by
 obtain ⟨cur,h1,_⟩:=oH h;exact frozen_of_row W g j _ _ h1
theorem kH {W:World} {lo e size g n m cap:Nat} {xs:List Value} (h:W.ownsRow lo e size (.slice (some ⟨g,0,none⟩) n cap) m xs):lo≤g∧g<W.heap.size:=by
 obtain ⟨cur,h1,h2,_⟩:=oH h;exact ⟨h2,(bT.1 h1).1⟩
theorem We {W:World} {lo e size g n m cap:Nat} {xs:List Value} (h:W.ownsRow lo e size (.slice (some ⟨g,0,none⟩) n cap) m xs) (o:Nat) (v:Value):(W.setCell ⟨g,o,none⟩ v).ownsRow lo e size (.slice (some ⟨g,0,none⟩) n cap) m (xs.set o v):=by
 obtain ⟨cur,h1,h2,h3,h4,h5,h6,h7,rfl⟩:=oH h;refine LU (heap_setCell_same W g o cur e v h1) h2 h3 h4 (by rw [Array.size_setIfInBounds];exact h5) ?_ (by rw [List.length_set];exact h7);rw [Array.toList_setIfInBounds,List.take_set,h6]
def Pz (xs:List Value) (o:Nat):List Value→List Value
 | []=>xs
 |v::r=>Pz (xs.set o v) (o+1) r
theorem BV {lo e size g n m cap:Nat}:∀(vs:List Value) (o:Nat) (xs:List Value) (W:World),W.ownsRow lo e size (.slice (some ⟨g,0,none⟩) n cap) m xs→(W.setCells g o vs).ownsRow lo e size (.slice (some ⟨g,0,none⟩) n cap) m (Pz xs o vs)
 | [],_,_,_,h=>h
 |v::r,o,xs,_,h=>BV r (o+1) (xs.set o v) _ (We h o v)
theorem set_mid (ls bs cs:List Value) (j:Nat) (v:Value) (hj:j<bs.length):(ls++(bs++cs)).set (ls.length+j) v=ls++(bs.set j v++cs):=by
 rw [List.set_append_right _ _ (by omega),List.set_append_left _ _ (by omega)];simp
theorem IV (ls cs:List Value):∀(vs bs:List Value) (j:Nat),j+vs.length≤bs.length→Pz (ls++(bs++cs)) (ls.length+j) vs=ls++(Pz bs j vs++cs)
 | [],_,_,_=>rfl
 |v::r,bs,j,h=>by
  rw [List.length_cons] at h;show Pz ((ls++(bs++cs)).set (ls.length+j) v) (ls.length+j+1) r=_;rw [set_mid ls bs cs j v (by omega),Nat.add_assoc];exact IV ls cs r (bs.set j v) (j+1) (by rw [List.length_set];omega)
theorem pJ:∀(vs:List Value) (w:World) (b o k:Nat),k≠b→(w.setCells b o vs).heap[k]? =w.heap[k]?
 | [],_,_,_,_,_=>rfl
 |v::r,w,b,o,k,h=>(pJ r _ b (o+1) k h).trans (heap_setCell_other w _ k v h)
theorem xB:∀(vs:List Value) (w:World) (b o:Nat),(w.setCells b o vs).heap.size=w.heap.size
 | [],_,_,_=>rfl
 |v::r,w,b,o=>(xB r _ b (o+1)).trans (by simp [World.setCell])
theorem I5 {B:Nat} {w0:World}:∀(vs:List Value) (w:World) (b o:Nat),Below B w0 w→B≤b→Below B w0 (w.setCells b o vs)
 | [],_,_,_,h,_=>h
 |v::r,_,b,o,h,hb=>I5 r _ b (o+1) (h.setCell (p:=⟨b,o,none⟩) hb v) hb
theorem Jy (xs ys:List dD):aO (xs++ys)=aO xs++aO ys:=by simp [aO]
theorem zA (ys:List dD) (x:dD) (rest:List dD):aO (ys++x::rest)=aO ys++(x.cells.toList++aO rest):=by simp [aO]
theorem xO (ys:List dD) (x:dD) (rest:List dD) (s:Zs):Pz (aO (ys++x::rest)) (ys.length*9+1) (ay x.e.z s).toList=aO (ys++⟨x.e,s⟩::rest):=by
 rw [zA,zA,←dM,IV _ _ _ _ _ (by show 1+8≤9;omega)];rfl
structure gK (lo:Nat) (w:World) (v:Value) (zs:List dD):Prop where
 row:w.ownsRow lo 90 9 v zs.length (aO zs)
 az:∀x∈zs,LI lo w x.s.A x.e.z.cal.az
 nils:∀x∈zs,yX x.s
 nil:zs.length=0→v= .slice none 0 0
theorem gK.aP {lo:Nat} {w w':World} {v:Value} {zs:List dD} (h:gK lo w v zs) (hs:w.heap.size≤w'.heap.size) (hb:∀k,lo≤k→k<w.heap.size→w'.heap[k]? =w.heap[k]?):gK lo w' v zs:=
 ⟨dF h.row hb,fun x hx=>(h.az x hx).aP hs hb,h.nils,h.nil⟩
theorem gK.below {lo:Nat} {w w':World} {v:Value} {zs:List dD} (h:gK lo w v zs) (hb:Below w.heap.size w w'):gK lo w' v zs:=h.aP hb.size fun k _ hk=>hb.block k hk
theorem gK.lower {lo lo':Nat} {w:World} {v:Value} {zs:List dD} (h:gK lo w v zs) (hl:lo'≤lo):gK lo' w v zs:=
 ⟨bD h.row hl,fun x hx=>(h.az x hx).lower hl,h.nils,h.nil⟩
theorem gK.form {lo:Nat} {w:World} {v:Value} {zs:List dD} (h:gK lo w v zs):(zs= []∧v= .slice none 0 0)∨(0<zs.length∧∃g c,v= .slice (some ⟨g,0,none⟩) zs.length c∧lo≤g∧g<w.heap.size):=by
 by_cases h0:zs.length=0
 ·exact .inl ⟨List.eq_nil_of_length_eq_zero h0,h.nil h0⟩
 ·obtain ⟨g,c,h1,h2⟩:=dE h.row (by omega);refine .inr ⟨by omega,g,c,h1,?_,h2⟩;have hr:=h.row;rw [h1] at hr;exact (kH hr).1
theorem gK.zes {lo:Nat} {w:World} {A:Option Addr} {n c:Nat} {zs:List dD} (h:gK lo w (.slice A n c) zs):Eg w w.heap.size A zs:=by
 rcases h.form with ⟨h1,_⟩|⟨_,g,c',h1,h2,h3⟩
 ·exact .inl (by rw [h1];rfl)
 ·injection h1 with e1 e2 e3;subst e1;have hr:=h.row;refine .inr ⟨g,rfl,h3,fun k x hx=>⟨fun j u hu=>?_,(h.az x (fZ hx)).ints⟩⟩;have hj:j<9:=(gu.1 hu).1;exact pF hr _ u (by rw [lD zs k j x hx hj];simpa using hu)
theorem nH (t:Tb) (v v':Value):(ai t v).setIfInBounds 3 v'=ai t v':=by simp [ai,lg]
theorem bu (t:Tb) (A:Option Addr) (n c:Nat):(ai t (.slice A n c)).all (·.oneCell')=true:=by
 rw [Array.all_eq_true_iff_forall_mem];intro u hu;unfold ai lg at hu;rw [List.mem_toArray,List.mem_append,List.mem_append] at hu;rcases hu with h|h|h
 ·simp at h;rcases h with rfl|rfl|rfl|rfl<;>rfl
 ·exact nC _ u h
 ·exact nC _ u h
structure zC (w:World) (t:Tb) (v:Value) (W:World):Prop where
 var:W.heap[w.heap.size]? =some (.cells (ai t v) 37 (0,0))
 res:W.heap[w.heap.size+1]? =some (.cells Tryz.zeroCells37 37 (0,0))
 up:Below w.heap.size w W
theorem zC.lt {w W:World} {t:Tb} {v:Value} (h:zC w t v W):w.heap.size+1<W.heap.size:=(bT.1 h.res).1
theorem zC.grow {w W W':World} {t:Tb} {v:Value} (h:zC w t v W) (hb:Below W.heap.size W W'):zC w t v W':=
 ⟨(hb.block _ (by have:=h.lt;omega)).trans h.var,(hb.block _ h.lt).trans h.res,ah h.up hb⟩
theorem zC.store {w W:World} {t:Tb} {v:Value} (h:zC w t v W) (v':Value):zC w t v' (W.setCell ⟨w.heap.size,3,none⟩ v'):=
 ⟨by rw [heap_setCell_same W _ 3 _ _ _ h.var,nH],(heap_setCell_other W _ _ v' (by show w.heap.size+1≠w.heap.size;omega)).trans h.res,h.up.setCell (p:=⟨w.heap.size,3,none⟩) (Nat.le_refl _) _⟩
theorem zC.puts {w W:World} {t:Tb} {v:Value} (h:zC w t v W) (g o:Nat) (vs:List Value) (hg:w.heap.size+2≤g):zC w t v (W.setCells g o vs):=
 ⟨(pJ vs W g o _ (by omega)).trans h.var,(pJ vs W g o _ (by omega)).trans h.res,I5 vs W g o h.up (by omega)⟩
theorem zC.drew {w W:World} {t:Tb} {v:Value} (h:zC w t v W):zC w t v W.drew:=⟨h.var,h.res,h.up.drew⟩
theorem zC.start (w:World) (t:Tb) (v:Value):zC w t v ((w.alloc (.cells (ai t v) 37)).alloc (.cells Tryz.zeroCells37 37)):=
 ⟨heap_alloc2_old w _ _,heap_alloc2_new w _ _,ah (ag w _) (ag _ _)⟩
theorem zC.row {w W:World} {t:Tb} {v:Value} (h:zC w t v W):Row W w.heap.size (ai t v):=⟨by have:=h.lt;omega,fun i=>cell_of_row W _ i _ _ _ h.var⟩
def ClT (w:World) (t:Tb) (zs:List dD) (e:Ending) (w':World):Prop:=
 ∃A c zs',e= .returned (.agg (ai t (.slice A zs.length c)))∧gK w.heap.size w' (.slice A zs.length c) zs'∧zs'.map (·.e)=zs.map (·.e)∧Below w.heap.size w w'
attribute [local go_sem] jQ jR kJ bC
theorem Ip (t:Tb) (h32:t.prev.length=32) (hm:t.bz.length=32) (w:World):Calls Tryz.prog 29 #[.agg (ai t (.slice none 0 0))] w (ClT w t []):=by
 have HS:=ae (zC.start w t (.slice none 0 0));have ed:=ae (cu t (.slice none 0 0) h32 hm);have ni:Hid (Tryz.zeroCells37.size=(ai t (.slice none 0 0)).size):=ae (by rw [bF _ _ h32 hm];kernel_rfl);go_enter Tryz.func29,Tryz.ntmps29;go_wp2_with fail;generalize (w.alloc (.cells (ai t (.slice none 0 0)) 37)).alloc (.cells Tryz.zeroCells37 37)=W1 at HS ⊢;have hr0:=HS.out.row.2;have hl0:=HS.out.lt;have hf0:∀i,W1.frozen? ⟨w.heap.size,i,none⟩=false:=fun i=>frozen_of_row _ _ i _ _ HS.out.var;have hs3:W1.setCell ⟨w.heap.size,3,none⟩ (.slice none 0 0)=W1:=jc (v:= .slice none 0 0) (hr0 3);refine (Il _ _).mono ?_;rintro e w2 ⟨rfl,rfl⟩;go_wp2_with fail
 go_loop [11] (fun i=>i= .int .i64 0) (fun _=>0)
 case atStart=>rfl
 case round=>
  subst hrel;go_wp2_with (first
   |(with_reducible refine dY 37 ?_;refine aV rfl _ _ rfl w.heap.size rfl (ai t (.slice none 0 0)) HS.out.row _ Tryz.underlying37 rfl ed.out ?_)
   |(with_reducible refine bW 37 ?_;refine wpList_store_row rfl _ _ _ rfl (w.heap.size+1) (ai t (.slice none 0 0)) rfl rfl 37 Tryz.zeroCells37 HS.out.res ed.out ni.out (bu _ _ _ _) ?_))
  refine bodyPost_ret (v:= .agg (ai t (.slice none 0 0))) (results_cell_row rfl _ _ (w.heap.size+1) _ (ai t (.slice none 0 0)) (0,0) _ rfl (setRow_heap _ _ _ _ _ _ HS.out.res) Tryz.underlying37 rfl ed.out) rfl ?_;exact ⟨none,0,[],rfl,⟨World.ownsRow_nil _ _ _ _,(fun _ h=>nomatch h),(fun _ h=>nomatch h),fun _=>rfl⟩,rfl,below_setRow HS.out.up (Nat.le_succ _) _⟩
def LX (lo g:Nat) (w:World) (A:Option Addr) (zs:List Int):Prop:=
 ∃b off,A=some ⟨b,off,none⟩∧lo≤b∧b<w.heap.size∧b≠g∧∀j,j<zs.length→w.cell? ⟨b,off+j,none⟩=some (I (zs[j]?.getD 0))
theorem LX.aP {lo g:Nat} {w w':World} {A:Option Addr} {zs:List Int} (h:LX lo g w A zs) (hs:w.heap.size≤w'.heap.size) (hb:∀k,k<w.heap.size→k≠g→w'.heap[k]? =w.heap[k]?):LX lo g w' A zs:=by
 obtain ⟨b,off,h1,h2,h3,h4,h5⟩:=h;exact ⟨b,off,h1,h2,dQ h3 hs,h4,fun j hj=>(World.cell?_of_block (a:=⟨b,off+j,none⟩) (hb b h3 h4)).trans (h5 j hj)⟩
theorem LX.li {lo g:Nat} {w:World} {A:Option Addr} {zs:List Int} (h:LX lo g w A zs):LI lo w A zs:=by
 obtain ⟨b,off,h1,h2,h3,_,h5⟩:=h;exact .inr ⟨b,off,h1,h2,h3,h5⟩
theorem LX.dS {lo B g b n c:Nat} {w:World} {zs:List Int} (h:w.ownsRow B 3 1 (.slice (some ⟨b,0,none⟩) n c) n (zs.map I)) (hl:lo≤B) (hg:g<B):LX lo g w (some ⟨b,0,none⟩) zs:=by
 have h1:=kH h;refine ⟨b,0,rfl,by omega,h1.2,by omega,fun j hj=>?_⟩;rw [Nat.zero_add];refine pF h j _ ?_;rw [List.getElem?_map,dw hj];rfl
def ClRel (w:World) (t:Tb) (g n c:Nat) (zs:List dD) (i:Value) (wr:World):Prop:=
 ∃(k:Nat) (ys:List dD),k≤n∧i= .int .i64 k∧ys.length=k∧ys.map (·.e)=(zs.take k).map (·.e)∧zC w t (.slice (some ⟨g,0,none⟩) n c) wr∧
  wr.ownsRow (w.heap.size+2) 90 9 (.slice (some ⟨g,0,none⟩) n c) n (aO (ys++zs.drop k))∧∀y∈ys,LX (w.heap.size+2) g wr y.s.A y.e.z.cal.az∧yX y.s
theorem Iq (t:Tb) (g0 c0 n:Nat) (zs:List dD) (w:World) (hz:∀x∈zs,gU x.e.z∧yX x.s) (hn:zs.length=n) (hn0:0<n) (hn1:n≤128) (h32:t.prev.length=32) (hm:t.bz.length=32)
  (hA:∀j u,(aO zs)[j]? =some u→w.cell? ⟨g0,j,none⟩=some u) (hg0:g0<w.heap.size) (hI:∀x∈zs,fG w w.heap.size x.s.A x.e.z.cal.az):
  Calls Tryz.prog 29 #[.agg (ai t (.slice (some ⟨g0,0,none⟩) n c0))] w (ClT w t zs):=by
 have HS:=ae (zC.start w t (.slice (some ⟨g0,0,none⟩) n c0));have ed:Hid (∀v,(Tryz.prog.info? 37).map (·.size)=some (ai t v).size):=ae fun v=>cu t v h32 hm;have ni:Hid (∀v,Tryz.zeroCells37.size=(ai t v).size):=ae fun v=>(by rw [bF _ _ h32 hm];kernel_rfl);have HZ:=ae hz;have HN:=ae hn;have HA:=ae hA;have HI:=ae hI;clear hz hn hA hI;go_enter Tryz.func29,Tryz.ntmps29;go_wp2_with fail;generalize (w.alloc (.cells (ai t (.slice (some ⟨g0,0,none⟩) n c0)) 37)).alloc (.cells Tryz.zeroCells37 37)=W1 at HS ⊢;have hl0:=HS.out.lt;refine (FB g0 c0 zs n W1 (fun j u hu=>(HS.out.up.cell (p:=⟨g0,j,none⟩) hg0).trans (HA.out j u hu)) (by omega) HN.out hn0 (by omega)).mono ?_;rintro e w2 ⟨g,c,rfl,hown,hb2⟩;have HS2:=ae (HS.out.grow hb2);have hr2:=HS2.out.row.2;have hf2:∀i,w2.frozen? ⟨w.heap.size,i,none⟩=false:=fun i=>frozen_of_row _ _ i _ _ HS2.out.var;have hg1:=kH hown;have jV:=ae (HS2.out.store (.slice (some ⟨g,0,none⟩) n c));have wU:=ae (dW (u:= .slice (some ⟨g,0,none⟩) n c) (p:=⟨w.heap.size,3,none⟩) (bD hown (base':=w.heap.size+2) (by omega)) (by intro h;injection h with h;simp only at h;omega));have hg2:w.heap.size+2≤g:=by omega
 clear hown hb2 HS hl0 hg1;go_wp2_with fail;generalize w2.setCell ⟨w.heap.size,3,none⟩ (.slice (some ⟨g,0,none⟩) n c)=w3 at jV wU ⊢;clear hr2 hf2
 go_loopw [11] (fun i wr=>ClRel w t g n c zs i wr) (fun i _=>n - (intOf i).toNat)
 case atStart=>exact ⟨0,[],Nat.zero_le _,rfl,rfl,rfl,jV.out,wU.out,fun _ h=>nomatch h⟩
 case round=>
  obtain ⟨k,ys,hk,rfl,hyl,hye,hcs,hown,hym⟩:=hrel;have HC:=ae hcs;have HO:=ae hown;have JJ:=ae hye;have NF:=ae hym;have nZ:=ae hyl;clear hcs hown hye hym hyl jV wU;by_cases hlt:k<n
  ·have hkz:k<zs.length:=by rw [HN.out];exact hlt
   obtain ⟨x,hx⟩:∃x,zs[k]? =some x:=⟨_,dw hkz⟩;have hd:zs.drop k=x::zs.drop (k+1):=by
    rw [List.drop_eq_getElem_cons hkz];rw [dw hkz] at hx;injection hx with hx;rw [hx]
   have hown2:=HO.out;rw [hd] at hown2;have rC:=ae hown2;have hxm:=fZ hx;obtain ⟨hfl,hnil⟩:=HZ.out x hxm;have cc:∀j u,x.cells[j]? =some u→wr.cell? ⟨g,k*9+j,none⟩=some u:=fun j u hu=>by
    have hj:j<9:=(bT.1 hu).1;refine pF hown2 _ _ ?_;rw [lD _ k j x (by rw [List.getElem?_append_right (by have:=nZ.out;omega),nZ.out];simp) hj];exact hu
   have hwr:g<wr.heap.size:=(kH hown2).2;have fz:∀j,wr.frozen? ⟨g,j,none⟩=false:=xx hown2;have a3:wr.cell? ⟨w.heap.size,3,none⟩=some (.slice (some ⟨g,0,none⟩) n c):=(HC.out.row.2 3).trans rfl;have z0:wr.cell? ⟨g,k*9+1,none⟩=some (I x.e.z.cal.aY):=cc 1 _ rfl;have z1:wr.cell? ⟨g,k*9+2,none⟩=some (.slice x.s.A x.e.z.cal.az.length x.s.a):=cc 2 _ rfl;have z2:wr.cell? ⟨g,k*9+3,none⟩=some (I x.e.z.cal.dP):=cc 3 _ rfl;have z3:wr.cell? ⟨g,k*9+4,none⟩=some (.slice x.s.B x.e.z.cal.rules.length x.s.b):=cc 4 _ rfl;have z4:wr.cell? ⟨g,k*9+5,none⟩=some (I x.e.z.start):=cc 5 _ rfl;have z5:wr.cell? ⟨g,k*9+6,none⟩=some (.slice x.s.C x.e.z.trans.length x.s.c):=cc 6 _ rfl;have z6:wr.cell? ⟨g,k*9+7,none⟩=some (I x.e.z.hor):=cc 7 _ rfl;have z7:wr.cell? ⟨g,k*9+8,none⟩=some (.slice x.s.D x.e.z.aK.length x.s.d):=cc 8 _ rfl;have HCZ:Hid (∀W,Below wr.heap.size wr W→Calls Tryz.prog 42 #[.agg #[I x.e.z.cal.aY, .slice x.s.A x.e.z.cal.az.length x.s.a,I x.e.z.cal.dP, .slice x.s.B x.e.z.cal.rules.length x.s.b,I x.e.z.start, .slice x.s.C x.e.z.trans.length x.s.c,I x.e.z.hor, .slice x.s.D x.e.z.aK.length x.s.d]] W (CzP W x.e.z)):=
    ae fun W hb=>zG x.e.z x.s W hfl hnil (((HI.out x hxm).keep (ah HC.out.up hb)).more (ah HC.out.up hb).size)
   have i0:(0:Int)≤(k:Int):=by omega
   have i1:(k:Int)<(n:Int):=by omega
   have hNg:w.heap.size<wr.heap.size:=by omega
   clear cc hkz hd hown2 hfl hnil hxm;have HX:=ae hx;clear hx;go_wp2_with fail;have hk9:k*9+1+8≤n*9:=by omega
   go_region_law (first|(go_simp;go_at_call 42;refine (HCZ.out _ (Below.refl _ _).drew).mono ?_;rintro e w5 ⟨g5,c5,rfl,hown5,hb5⟩;dsimp only [ay];have hs5:=hb5.size;have hc5:w5.cell? ⟨w.heap.size,3,none⟩=some (.slice (some ⟨g,0,none⟩) n c):=(hb5.cell (p:=⟨w.heap.size,3,none⟩) hNg).trans a3;have Lu:∀j,w5.cell? ⟨g,j,none⟩=wr.cell? ⟨g,j,none⟩:=fun j=>hb5.cell (p:=⟨g,j,none⟩) hwr;have hf5:∀j,w5.frozen? ⟨g,j,none⟩=false:=fun j=>(hb5.frozen (p:=⟨g,j,none⟩) hwr).trans (fz j);have HW5:=ae hown5;have oO:=ae hb5;clear hown5 hb5 hs5))
   all_goals
    have hO5:w5.ownsRow (w.heap.size+2) 90 9 (.slice (some ⟨g,0,none⟩) n c) n (aO (ys++x::zs.drop (k+1))):=dF rC.out fun j _ h2=>oO.out.block j h2;have Zz:=BV (ay x.e.z ⟨some ⟨g5,0,none⟩,c5,none,0,none,0,none,0⟩).toList (k*9+1) _ _ hO5;rw [←nZ.out,xO ys x _ _,nZ.out] at Zz;have hC6:=(HC.out.drew.grow oO.out).puts g (k*9+1) (ay x.e.z ⟨some ⟨g5,0,none⟩,c5,none,0,none,0,none,0⟩).toList hg2;have hM6:∀y∈ys++ [(⟨x.e,⟨some ⟨g5,0,none⟩,c5,none,0,none,0,none,0⟩⟩:dD)],LX (w.heap.size+2) g (w5.setCells g (k*9+1) (ay x.e.z ⟨some ⟨g5,0,none⟩,c5,none,0,none,0,none,0⟩).toList) y.s.A y.e.z.cal.az∧yX y.s:=by
     intro y hy;rcases List.mem_append.1 hy with hy|hy
     ·obtain ⟨h1,h2⟩:=NF.out y hy;exact ⟨h1.aP (by rw [xB];exact oO.out.size) (fun j hj hjg=>(pJ _ _ _ _ _ hjg).trans (oO.out.block j hj)),h2⟩
     ·rw [List.mem_singleton.1 hy];exact ⟨(LX.dS HW5.out (by show w.heap.size+2≤wr.heap.size;have:=HC.out.lt;omega) hwr).aP (by rw [xB];exact Nat.le_refl _) (fun j _ hjg=>pJ _ _ _ _ _ hjg),⟨⟨rfl,rfl⟩,⟨rfl,rfl⟩,⟨rfl,rfl⟩⟩⟩
    have qA:=ae Zz;have sQ:=ae hC6;have Yy:=ae hM6;clear hO5 Zz hC6 hM6 hc5 Lu hf5;go_wp2_with fail;go_roundw
    case rel=>
     refine ⟨k+1,ys++ [⟨x.e,⟨some ⟨g5,0,none⟩,c5,none,0,none,0,none,0⟩⟩],by omega,by go_num,by rw [aZ,nZ.out];rfl,?_,sQ.out,by rw [List.append_assoc];exact qA.out,Yy.out⟩;rw [List.map_append,JJ.out,List.take_add_one,HX.out,List.map_append];rfl
    case measure=>simp [intOf];omega
  ·have hkn:k=n:=by omega
   have tJ:=ae hkn;have hlt':¬(k:Int)<(n:Int):=by omega
   clear hkn hlt;go_wp2_with (first
    |(with_reducible refine dY 37 ?_;refine aV rfl _ _ rfl w.heap.size rfl (ai t (.slice (some ⟨g,0,none⟩) n c)) HC.out.row _ Tryz.underlying37 rfl (ed.out _) ?_)
    |(with_reducible refine bW 37 ?_;refine wpList_store_row rfl _ _ _ rfl (w.heap.size+1) (ai t (.slice (some ⟨g,0,none⟩) n c)) rfl rfl 37 Tryz.zeroCells37 HC.out.res (ed.out _) (ni.out _) (bu _ _ _ _) ?_))
   refine bodyPost_ret (v:= .agg (ai t (.slice (some ⟨g,0,none⟩) n c))) (results_cell_row rfl _ _ (w.heap.size+1) _ (ai t (.slice (some ⟨g,0,none⟩) n c)) (0,0) _ rfl (setRow_heap _ _ _ _ _ _ HC.out.res) Tryz.underlying37 rfl (ed.out _)) rfl ?_;have hd:ys++zs.drop k=ys:=by rw [List.drop_of_length_le (by rw [HN.out,tJ.out];exact Nat.le_refl _),List.append_nil]
   have hrow:=HO.out;rw [hd] at hrow;have hyn:ys.length=n:=nZ.out.trans tJ.out;refine ⟨some ⟨g,0,none⟩,c,ys,by rw [HN.out],⟨?_,fun y hy=>?_,fun y hy=>(NF.out y hy).2,fun h=>by omega⟩,by rw [JJ.out,tJ.out,List.take_of_length_le (by rw [HN.out];exact Nat.le_refl _)],below_setRow HC.out.up (Nat.le_succ _) _⟩
   ·rw [HN.out,hyn];exact bD (dF hrow fun j h1 _=>setRow_other _ _ j _ (by omega)) (by omega)
   ·have h1:LI (w.heap.size+2) (wr.setRow (w.heap.size+1) (ai t (.slice (some ⟨g,0,none⟩) n c))) y.s.A y.e.z.cal.az:=(NF.out y hy).1.li.aP (by simp [World.setRow]) fun j h1 _=>setRow_other _ _ j _ (by omega);exact h1.lower (by omega)
end Go.Proofs.YtdibbemgpikgjaaGreatDoor
namespace Go.Proofs.YtdibbemgpikgjaaGreatDoor
open Go Go.RowKit
def Tr.cells (t:Tr):List Value:= [I t.at_,I t.off]
def Yr.cells (y:Yr):List Value:= [I y.month,I y.cZ,I y.df,I y.minute,I y.off]
structure jy (w:World) (B:Nat) (s:Zs) (z:Zn):Prop where
 az:aA w B s.A (z.cal.az.map I)
 rules:aA w B s.B (z.cal.rules.flatMap Lr.cells)
 trans:aA w B s.C (z.trans.flatMap Tr.cells)
 aK:aA w B s.D (z.aK.flatMap Yr.cells)
structure oz (w:World) (B:Nat) (A:Option Addr) (zs:List dD):Prop where
 row:aA w B A (aO zs)
 each:∀x∈zs,jy w B x.s x.e.z
structure dI where
 t:Tb
 A:Option Addr
 c:Nat
 zs:List dD
def dI.cells (x:dI):List Value:=lg x.t (.slice x.A x.zs.length x.c)
structure kM (w:World) (B:Nat) (x:dI):Prop where
 names:x.t.aS=x.zs.map (·.e)
 prev:x.t.prev.length=32
 bz:x.t.bz.length=32
 aS:oz w B x.A x.zs
structure jd (w:World) (B:Nat) (A:Option Addr) (ts:List dI):Prop where
 row:aA w B A (ts.flatMap dI.cells)
 each:∀x∈ts,kM w B x
section
variable {w w':World} {B B':Nat} {A:Option Addr} {s:Zs} {z:Zn} {zs:List dD} {x:dI} {ts:List dI}
theorem jy.keep (h:jy w B s z) (hb:Below B w w'):jy w' B s z:=⟨h.az.keep hb,h.rules.keep hb,h.trans.keep hb,h.aK.keep hb⟩
theorem jy.more (h:jy w B s z) (hB:B≤B'):jy w B' s z:=⟨h.az.more hB,h.rules.more hB,h.trans.more hB,h.aK.more hB⟩
theorem jy.grow (h:jy w w.heap.size s z) (hb:Below w.heap.size w w'):jy w' w'.heap.size s z:=(h.keep hb).more hb.size
theorem oz.keep (h:oz w B A zs) (hb:Below B w w'):oz w' B A zs:=⟨h.row.keep hb,fun x hx=>(h.each x hx).keep hb⟩
theorem oz.more (h:oz w B A zs) (hB:B≤B'):oz w B' A zs:=⟨h.row.more hB,fun x hx=>(h.each x hx).more hB⟩
theorem oz.grow (h:oz w w.heap.size A zs) (hb:Below w.heap.size w w'):oz w' w'.heap.size A zs:=(h.keep hb).more hb.size
theorem kM.keep (h:kM w B x) (hb:Below B w w'):kM w' B x:=⟨h.names,h.prev,h.bz,h.aS.keep hb⟩
theorem kM.more (h:kM w B x) (hB:B≤B'):kM w B' x:=⟨h.names,h.prev,h.bz,h.aS.more hB⟩
theorem kM.grow (h:kM w w.heap.size x) (hb:Below w.heap.size w w'):kM w' w'.heap.size x:=(h.keep hb).more hb.size
theorem kM.size (h:kM w B x):x.cells.length=68:=by
 have:=bF x.t (.slice x.A x.zs.length x.c) h.prev h.bz;simpa [ai,dI.cells] using this
theorem jd.keep (h:jd w B A ts) (hb:Below B w w'):jd w' B A ts:=⟨h.row.keep hb,fun x hx=>(h.each x hx).keep hb⟩
theorem jd.more (h:jd w B A ts) (hB:B≤B'):jd w B' A ts:=⟨h.row.more hB,fun x hx=>(h.each x hx).more hB⟩
theorem jd.grow (h:jd w w.heap.size A ts) (hb:Below w.heap.size w w'):jd w' w'.heap.size A ts:=(h.keep hb).more hb.size
theorem jd.nil:jd w B A []:=⟨.nil,fun _ hx=>nomatch hx⟩
end
theorem uC (t:Tr):∀u∈t.cells,u.oneCell'=true:=by
 intro u hu;simp [Tr.cells] at hu;rcases hu with rfl|rfl<;>rfl
theorem mP (y:Yr):∀u∈y.cells,u.oneCell'=true:=by
 intro u hu;simp [Yr.cells] at hu;rcases hu with rfl|rfl|rfl|rfl|rfl<;>rfl
theorem VZ (r:Lr):∀u∈r.cells,u.oneCell'=true:=by
 intro u hu;simp [Lr.cells] at hu;rcases hu with rfl|rfl|rfl<;>rfl
def ClA (w:World) (e size n:Nat) (cs:List Value) (en:Ending) (w':World):Prop:=
 ∃A c,en= .returned (.slice A n c)∧w'.ownsRow w.heap.size e size (.slice A n c) n cs∧Below w.heap.size w w'
theorem eG {w:World} {base e size n:Nat} {v:Value} {xs:List Value} (h:w.ownsRow base e size v n xs):∃A c,v= .slice A n c:=by
 rcases h.2 with ⟨rfl,rfl⟩|⟨g,cap,cur,rfl,_⟩
 ·exact ⟨_,_,rfl⟩
 ·exact ⟨_,_,rfl⟩
theorem mf {w:World} {a:Addr} {cs:List Value} {o:Obj} (h:aA w w.heap.size (some a) cs):∀j u,cs[j]? =some u→(w.alloc o).cell? (a.add j)=some u:=by
 intro j u hu;rcases h with h|⟨b,off,h1,h2,h3⟩
 ·rw [List.eq_nil_of_length_eq_zero h] at hu;cases hu
 ·injection h1 with h1;subst h1;rw [Addr.add_mid,World.cell?_of_block (Below.heap_alloc w _ b h2)];exact h3 j u hu
theorem SL:(Tryz.prog.info? 125).map (fun i=>(i.zero,i.size,i.bytes))=some (some (.agg #[I 0,I 0, .bool false]),3,24):=by kernel_rfl
theorem xm:(Tryz.prog.info? 127).map (fun i=>(i.zero,i.size,i.bytes))=some (some (.agg #[I 0,I 0]),2,16):=by kernel_rfl
theorem FX:(Tryz.prog.info? 129).map (fun i=>(i.zero,i.size,i.bytes))=some (some (.agg #[I 0,I 0,I 0,I 0,I 0]),5,40):=by kernel_rfl
theorem Vo (c:Nat) (w:World):Calls Tryz.prog 59 #[.slice none 0 c] w fun e w'=>e= .returned (.slice none 0 0)∧w'=w:=by
 have heq:∀W,(binOp .eql 60 (.slice none 0 c) (.slice none 0 0)).run Tryz.prog W= .ok (.bool true) W:=fun W=>by simp [binOp,run_equal_slice_nil W 60 3 none 0 c Tryz.underlying60]
 go_enter Tryz.func59,Tryz.ntmps59
 go_wp2
 go_ret;exact ⟨rfl,rfl⟩
theorem Vm (A:Option Addr) (c n:Nat) (cs:List Value) (w:World) (hA:aA w w.heap.size A cs) (hl:cs.length=n*1) (h1:∀u∈cs,u.oneCell'=true) (hn:n≤10000):
  Calls Tryz.prog 59 #[.slice A n c] w (ClA w 3 1 n cs):=by
 cases A with
 |none=>
  have hc:cs= []:=by
   rcases hA with h|⟨b,off,h,_⟩
   ·exact List.eq_nil_of_length_eq_zero h
   ·cases h
  subst hc;have hn0:n=0:=by simp at hl;omega
  subst hn0;exact (Vo c w).mono fun e w' ⟨he,hw⟩=>⟨none,0,he,World.ownsRow_nil _ _ _ _,by rw [hw];exact Below.refl _ _⟩
 |some a=>
  have QG:=ae (mf (o:= .cells #[] 3) hA);have HO:=ae (gI w 3 1);have HL:=ae hl;have H1:=ae h1;have HB:=ae (ag w (.cells #[] 3));obtain ⟨i0,hi,hz0,hz1,hz2⟩:=info_parts uu;have HI:=ae hi;have HZ0:=ae hz0;have HZ1:=ae hz1;have HZ2:=ae hz2;have heq:∀W,(binOp .eql 60 (.slice (some a) n c) (.slice none 0 0)).run Tryz.prog W= .ok (.bool false) W:=fun W=>by simp [binOp,run_equal_slice_nil W 60 3 (some a) n c Tryz.underlying60]
  clear hA hl h1 hi hz0 hz1 hz2;go_enter Tryz.func59,Tryz.ntmps59;go_wp2_with (at_builtin;refine wpList_append_own_at _ rfl _ _ 60 rfl w.heap.size 3 i0 (.int .i64 0) 1 8 Tryz.underlying60 HI.out HZ0.out HZ1.out HZ2.out rfl (by decide) _ 0 [] rfl HO.out a n c cs rfl HL.out QG.out H1.out (by unfold maxLen;omega) (by omega) (by simp) ?_);intro v' w' hown hg _ _;have HB2:=ae (dm HB.out HO.out (by simp) hg);obtain ⟨A',c',rfl⟩:=eG hown;have HOW:=ae hown;clear hown hg;go_wp2_with fail;go_ret;exact ⟨A',c',by first|rfl|(rw [Nat.zero_add]),by have h:=HOW.out;simpa using h,HB2.out⟩
theorem Vq (c:Nat) (w:World):Calls Tryz.prog 60 #[.slice none 0 c] w fun e w'=>e= .returned (.slice none 0 0)∧w'=w:=by
 have heq:∀W,(binOp .eql 61 (.slice none 0 c) (.slice none 0 0)).run Tryz.prog W= .ok (.bool true) W:=fun W=>by simp [binOp,run_equal_slice_nil W 61 125 none 0 c Tryz.underlying61]
 go_enter Tryz.func60,Tryz.ntmps60
 go_wp2
 go_ret;exact ⟨rfl,rfl⟩
theorem Vp (A:Option Addr) (c n:Nat) (cs:List Value) (w:World) (hA:aA w w.heap.size A cs) (hl:cs.length=n*3) (h1:∀u∈cs,u.oneCell'=true) (hn:n≤10000):
  Calls Tryz.prog 60 #[.slice A n c] w (ClA w 125 3 n cs):=by
 cases A with
 |none=>
  have hc:cs= []:=by
   rcases hA with h|⟨b,off,h,_⟩
   ·exact List.eq_nil_of_length_eq_zero h
   ·cases h
  subst hc;have hn0:n=0:=by simp at hl;omega
  subst hn0;exact (Vq c w).mono fun e w' ⟨he,hw⟩=>⟨none,0,he,World.ownsRow_nil _ _ _ _,by rw [hw];exact Below.refl _ _⟩
 |some a=>
  have QG:=ae (mf (o:= .cells #[] 125) hA);have HO:=ae (gI w 125 3);have HL:=ae hl;have H1:=ae h1;have HB:=ae (ag w (.cells #[] 125));obtain ⟨i0,hi,hz0,hz1,hz2⟩:=info_parts SL;have HI:=ae hi;have HZ0:=ae hz0;have HZ1:=ae hz1;have HZ2:=ae hz2;have heq:∀W,(binOp .eql 61 (.slice (some a) n c) (.slice none 0 0)).run Tryz.prog W= .ok (.bool false) W:=fun W=>by simp [binOp,run_equal_slice_nil W 61 125 (some a) n c Tryz.underlying61]
  clear hA hl h1 hi hz0 hz1 hz2;go_enter Tryz.func60,Tryz.ntmps60;go_wp2_with (at_builtin;refine wpList_append_own_at _ rfl _ _ 61 rfl w.heap.size 125 i0 (.agg #[I 0,I 0, .bool false]) 3 24 Tryz.underlying61 HI.out HZ0.out HZ1.out HZ2.out rfl (by decide) _ 0 [] rfl HO.out a n c cs rfl HL.out QG.out H1.out (by unfold maxLen;omega) (by omega) (by simp) ?_);intro v' w' hown hg _ _;have HB2:=ae (dm HB.out HO.out (by simp) hg);obtain ⟨A',c',rfl⟩:=eG hown;have HOW:=ae hown;clear hown hg;go_wp2_with fail;go_ret;exact ⟨A',c',by first|rfl|(rw [Nat.zero_add]),by have h:=HOW.out;simpa using h,HB2.out⟩
theorem Vs (c:Nat) (w:World):Calls Tryz.prog 61 #[.slice none 0 c] w fun e w'=>e= .returned (.slice none 0 0)∧w'=w:=by
 have heq:∀W,(binOp .eql 64 (.slice none 0 c) (.slice none 0 0)).run Tryz.prog W= .ok (.bool true) W:=fun W=>by simp [binOp,run_equal_slice_nil W 64 127 none 0 c Tryz.underlying64]
 go_enter Tryz.func61,Tryz.ntmps61
 go_wp2
 go_ret;exact ⟨rfl,rfl⟩
theorem Vr (A:Option Addr) (c n:Nat) (cs:List Value) (w:World) (hA:aA w w.heap.size A cs) (hl:cs.length=n*2) (h1:∀u∈cs,u.oneCell'=true) (hn:n≤10000):
  Calls Tryz.prog 61 #[.slice A n c] w (ClA w 127 2 n cs):=by
 cases A with
 |none=>
  have hc:cs= []:=by
   rcases hA with h|⟨b,off,h,_⟩
   ·exact List.eq_nil_of_length_eq_zero h
   ·cases h
  subst hc;have hn0:n=0:=by simp at hl;omega
  subst hn0;exact (Vs c w).mono fun e w' ⟨he,hw⟩=>⟨none,0,he,World.ownsRow_nil _ _ _ _,by rw [hw];exact Below.refl _ _⟩
 |some a=>
  have QG:=ae (mf (o:= .cells #[] 127) hA);have HO:=ae (gI w 127 2);have HL:=ae hl;have H1:=ae h1;have HB:=ae (ag w (.cells #[] 127));obtain ⟨i0,hi,hz0,hz1,hz2⟩:=info_parts xm;have HI:=ae hi;have HZ0:=ae hz0;have HZ1:=ae hz1;have HZ2:=ae hz2;have heq:∀W,(binOp .eql 64 (.slice (some a) n c) (.slice none 0 0)).run Tryz.prog W= .ok (.bool false) W:=fun W=>by simp [binOp,run_equal_slice_nil W 64 127 (some a) n c Tryz.underlying64]
  clear hA hl h1 hi hz0 hz1 hz2;go_enter Tryz.func61,Tryz.ntmps61;go_wp2_with (at_builtin;refine wpList_append_own_at _ rfl _ _ 64 rfl w.heap.size 127 i0 (.agg #[I 0,I 0]) 2 16 Tryz.underlying64 HI.out HZ0.out HZ1.out HZ2.out rfl (by decide) _ 0 [] rfl HO.out a n c cs rfl HL.out QG.out H1.out (by unfold maxLen;omega) (by omega) (by simp) ?_);intro v' w' hown hg _ _;have HB2:=ae (dm HB.out HO.out (by simp) hg);obtain ⟨A',c',rfl⟩:=eG hown;have HOW:=ae hown;clear hown hg;go_wp2_with fail;go_ret;exact ⟨A',c',by first|rfl|(rw [Nat.zero_add]),by have h:=HOW.out;simpa using h,HB2.out⟩
theorem Vu (c:Nat) (w:World):Calls Tryz.prog 62 #[.slice none 0 c] w fun e w'=>e= .returned (.slice none 0 0)∧w'=w:=by
 have heq:∀W,(binOp .eql 65 (.slice none 0 c) (.slice none 0 0)).run Tryz.prog W= .ok (.bool true) W:=fun W=>by simp [binOp,run_equal_slice_nil W 65 129 none 0 c Tryz.underlying65]
 go_enter Tryz.func62,Tryz.ntmps62
 go_wp2
 go_ret;exact ⟨rfl,rfl⟩
theorem Vt (A:Option Addr) (c n:Nat) (cs:List Value) (w:World) (hA:aA w w.heap.size A cs) (hl:cs.length=n*5) (h1:∀u∈cs,u.oneCell'=true) (hn:n≤10000):
  Calls Tryz.prog 62 #[.slice A n c] w (ClA w 129 5 n cs):=by
 cases A with
 |none=>
  have hc:cs= []:=by
   rcases hA with h|⟨b,off,h,_⟩
   ·exact List.eq_nil_of_length_eq_zero h
   ·cases h
  subst hc;have hn0:n=0:=by simp at hl;omega
  subst hn0;exact (Vu c w).mono fun e w' ⟨he,hw⟩=>⟨none,0,he,World.ownsRow_nil _ _ _ _,by rw [hw];exact Below.refl _ _⟩
 |some a=>
  have QG:=ae (mf (o:= .cells #[] 129) hA);have HO:=ae (gI w 129 5);have HL:=ae hl;have H1:=ae h1;have HB:=ae (ag w (.cells #[] 129));obtain ⟨i0,hi,hz0,hz1,hz2⟩:=info_parts FX;have HI:=ae hi;have HZ0:=ae hz0;have HZ1:=ae hz1;have HZ2:=ae hz2;have heq:∀W,(binOp .eql 65 (.slice (some a) n c) (.slice none 0 0)).run Tryz.prog W= .ok (.bool false) W:=fun W=>by simp [binOp,run_equal_slice_nil W 65 129 (some a) n c Tryz.underlying65]
  clear hA hl h1 hi hz0 hz1 hz2;go_enter Tryz.func62,Tryz.ntmps62;go_wp2_with (at_builtin;refine wpList_append_own_at _ rfl _ _ 65 rfl w.heap.size 129 i0 (.agg #[I 0,I 0,I 0,I 0,I 0]) 5 40 Tryz.underlying65 HI.out HZ0.out HZ1.out HZ2.out rfl (by decide) _ 0 [] rfl HO.out a n c cs rfl HL.out QG.out H1.out (by unfold maxLen;omega) (by omega) (by simp) ?_);intro v' w' hown hg _ _;have HB2:=ae (dm HB.out HO.out (by simp) hg);obtain ⟨A',c',rfl⟩:=eG hown;have HOW:=ae hown;clear hown hg;go_wp2_with fail;go_ret;exact ⟨A',c',by first|rfl|(rw [Nat.zero_add]),by have h:=HOW.out;simpa using h,HB2.out⟩
theorem Vw (c:Nat) (w:World):Calls Tryz.prog 47 #[.slice none 0 c] w fun e w'=>e= .returned (.slice none 0 0)∧w'=w:=by
 have heq:∀W,(binOp .eql 35 (.slice none 0 c) (.slice none 0 0)).run Tryz.prog W= .ok (.bool true) W:=fun W=>by simp [binOp,run_equal_slice_nil W 35 90 none 0 c Tryz.underlying35]
 go_enter Tryz.func47,Tryz.ntmps47
 go_wp2
 go_ret;exact ⟨rfl,rfl⟩
theorem NT (A:Option Addr) (c n:Nat) (cs:List Value) (w:World) (hA:aA w w.heap.size A cs) (hl:cs.length=n*9) (h1:∀u∈cs,u.oneCell'=true) (hn:n≤10000):
  Calls Tryz.prog 47 #[.slice A n c] w (ClA w 90 9 n cs):=by
 cases A with
 |none=>
  have hc:cs= []:=by
   rcases hA with h|⟨b,off,h,_⟩
   ·exact List.eq_nil_of_length_eq_zero h
   ·cases h
  subst hc;have hn0:n=0:=by simp at hl;omega
  subst hn0;exact (Vw c w).mono fun e w' ⟨he,hw⟩=>⟨none,0,he,World.ownsRow_nil _ _ _ _,by rw [hw];exact Below.refl _ _⟩
 |some a=>
  have QG:=ae (mf (o:= .cells #[] 90) hA);have HO:=ae (gI w 90 9);have HL:=ae hl;have H1:=ae h1;have HB:=ae (ag w (.cells #[] 90));obtain ⟨i0,hi,hz0,hz1,hz2⟩:=info_parts xn;have HI:=ae hi;have HZ0:=ae hz0;have HZ1:=ae hz1;have HZ2:=ae hz2;have heq:∀W,(binOp .eql 35 (.slice (some a) n c) (.slice none 0 0)).run Tryz.prog W= .ok (.bool false) W:=fun W=>by simp [binOp,run_equal_slice_nil W 35 90 (some a) n c Tryz.underlying35]
  clear hA hl h1 hi hz0 hz1 hz2;go_enter Tryz.func47,Tryz.ntmps47;go_wp2_with (at_builtin;refine wpList_append_own_at _ rfl _ _ 35 rfl w.heap.size 90 i0 (.agg jo) 9 144 Tryz.underlying35 HI.out HZ0.out HZ1.out HZ2.out rfl (by decide) _ 0 [] rfl HO.out a n c cs rfl HL.out QG.out H1.out (by unfold maxLen;omega) (by omega) (by simp) ?_);intro v' w' hown hg _ _;have HB2:=ae (dm HB.out HO.out (by simp) hg);obtain ⟨A',c',rfl⟩:=eG hown;have HOW:=ae hown;clear hown hg;go_wp2_with fail;go_ret;exact ⟨A',c',by first|rfl|(rw [Nat.zero_add]),by have h:=HOW.out;simpa using h,HB2.out⟩
end Go.Proofs.YtdibbemgpikgjaaGreatDoor
