/- The texts Pd, Pg, Ph, in this order. -/
import Derived.Test.YtdibbemgpikgjaaGreatZ00
import Derived.Test.YtdibbemgpikgjaaGreatZ11
set_option maxRecDepth 10000
set_option maxHeartbeats 8000000
namespace Go.Proofs.YtdibbemgpikgjaaGreat
open Go Go.RowKit
def CO (lo:Nat) (w:World) (A:Option Addr) (cs:List Value):Prop:=
 cs.length=0∨∃b off,A=some ⟨b,off,none⟩∧lo≤b∧b<w.heap.size∧∀j u,cs[j]? =some u→w.cell? ⟨b,off+j,none⟩=some u
structure NJ (lo:Nat) (w:World) (s:Zs) (z:Zn):Prop where
 au:CO lo w s.A (z.cal.au.map I)
 rules:CO lo w s.B (z.cal.rules.flatMap Lr.cells)
 trans:CO lo w s.C (z.trans.flatMap Tr.cells)
 ay:CO lo w s.D (z.ay.flatMap Yr.cells)
def CU (lo:Nat) (w:World) (A:Option Addr) (n:Nat):Prop:=
 n=0∨∃b off,A=some ⟨b,off,none⟩∧lo≤b∧b<w.heap.size∧∀j,w.frozen? ⟨b,off+j,none⟩=false
structure Ai (lo:Nat) (w:World) (A:Option Addr) (zs:List dm):Prop where
 row:CO lo w A (aP zs)
 free:CU lo w A zs.length
 each:∀x∈zs,NJ lo w x.s x.e.z
structure Uk (lo:Nat) (w:World) (x:eF):Prop where
 names:x.t.aS=x.zs.map (·.e)
 prev:x.t.prev.length=32
 bK:x.t.bK.length=32
 aS:Ai lo w x.A x.zs
section
variable {lo lo' g:Nat} {w w':World} {A:Option Addr} {cs:List Value} {s:Zs} {z:Zn} {zs:List dm} {x:eF}
theorem CX.own (h:CX lo g w A cs):CO lo w A cs:=h.imp id fun ⟨b,off,h1,h2,h3,_,h5⟩=>⟨b,off,h1,h2,h3,h5⟩
theorem CO.aQ (h:CO lo w A cs) (hs:w.heap.size≤w'.heap.size) (hb:∀k,lo≤k→k<w.heap.size→w'.heap[k]? =w.heap[k]?):CO lo w' A cs:=
 h.imp id fun ⟨b,off,h1,h2,h3,h5⟩=>⟨b,off,h1,h2,dR h3 hs,fun j u hu=>(World.cell?_of_block (a:=⟨b,off+j,none⟩) (hb b h2 h3)).trans (h5 j u hu)⟩
theorem CO.lower (h:CO lo w A cs) (hl:lo'≤lo):CO lo' w A cs:=h.imp id fun ⟨b,off,h1,h2,h3,h5⟩=>⟨b,off,h1,by omega,h3,h5⟩
theorem CU.aQ {n:Nat} (h:CU lo w A n) (hs:w.heap.size≤w'.heap.size) (hb:∀k,lo≤k→k<w.heap.size→w'.heap[k]? =w.heap[k]?):CU lo w' A n:=
 h.imp id fun ⟨b,off,h1,h2,h3,h5⟩=>⟨b,off,h1,h2,dR h3 hs,fun j=>(World.frozen?_of_block (a:=⟨b,off+j,none⟩) (hb b h2 h3)).trans (h5 j)⟩
theorem CU.lower {n:Nat} (h:CU lo w A n) (hl:lo'≤lo):CU lo' w A n:=h.imp id fun ⟨b,off,h1,h2,h3,h5⟩=>⟨b,off,h1,by omega,h3,h5⟩
theorem CO.at (h:CO lo w A cs):aB w w.heap.size A cs:=h.imp id fun ⟨b,off,h1,_,h3,h5⟩=>⟨b,off,h1,h3,h5⟩
theorem LH.own (h:LH lo g w s z):NJ lo w s z:=⟨h.au.own,h.rules.own,h.trans.own,h.ay.own⟩
theorem NJ.aQ (h:NJ lo w s z) (hs:w.heap.size≤w'.heap.size) (hb:∀k,lo≤k→k<w.heap.size→w'.heap[k]? =w.heap[k]?):NJ lo w' s z:=⟨h.au.aQ hs hb,h.rules.aQ hs hb,h.trans.aQ hs hb,h.ay.aQ hs hb⟩
theorem NJ.lower (h:NJ lo w s z) (hl:lo'≤lo):NJ lo' w s z:=⟨h.au.lower hl,h.rules.lower hl,h.trans.lower hl,h.ay.lower hl⟩
theorem NJ.at (h:NJ lo w s z):gW w w.heap.size s z:=⟨h.au.at,h.rules.at,h.trans.at,h.ay.at⟩
theorem Ai.aQ (h:Ai lo w A zs) (hs:w.heap.size≤w'.heap.size) (hb:∀k,lo≤k→k<w.heap.size→w'.heap[k]? =w.heap[k]?):Ai lo w' A zs:=⟨h.row.aQ hs hb,h.free.aQ hs hb,fun x hx=>(h.each x hx).aQ hs hb⟩
theorem Ai.lower (h:Ai lo w A zs) (hl:lo'≤lo):Ai lo' w A zs:=⟨h.row.lower hl,h.free.lower hl,fun x hx=>(h.each x hx).lower hl⟩
theorem Uk.aQ (h:Uk lo w x) (hs:w.heap.size≤w'.heap.size) (hb:∀k,lo≤k→k<w.heap.size→w'.heap[k]? =w.heap[k]?):Uk lo w' x:=⟨h.names,h.prev,h.bK,h.aS.aQ hs hb⟩
theorem Uk.lower (h:Uk lo w x) (hl:lo'≤lo):Uk lo' w x:=⟨h.names,h.prev,h.bK,h.aS.lower hl⟩
theorem CO.dZ {e size n c:Nat} (h:w.ownsRow lo e size (.slice A n c) n cs):CO lo w A cs:=by
 rcases h.2 with ⟨hv,hn⟩|⟨b,cap,cur,hv,hb,hh,_⟩
 ·refine .inl ?_;rw [h.1,hn,Nat.zero_mul]
 ·injection hv with h1 _ _;subst h1;exact .inr ⟨b,0,rfl,hb,(aZ.1 hh).1,fun j u hu=>by rw [Nat.zero_add,←addr_add];exact h.cells (g:=b) rfl j u hu⟩
theorem CU.dZ {e size n c:Nat} (h:w.ownsRow lo e size (.slice A n c) n cs):CU lo w A n:=by
 rcases h.2 with ⟨_,hn⟩|⟨b,cap,cur,hv,hb,hh,_⟩
 ·exact .inl hn
 ·injection hv with h1 _ _;subst h1;exact .inr ⟨b,0,rfl,hb,(aZ.1 hh).1,fun j=>frozen_of_row w b _ _ _ hh⟩
end
def ClV (w:World) (x:eF) (e:Ending) (w':World):Prop:=
 ∃y:eF,y.t=x.t∧y.zs.map (·.e)=x.zs.map (·.e)∧e= .returned (.agg (ai y.t (.slice y.A y.zs.length y.c)))∧Uk w.heap.size w' y∧Below w.heap.size w w'
def CvRel (w:World) (t:Tb) (g n c:Nat) (zs:List dm) (i:Value) (wr:World):Prop:=
 ∃(k:Nat) (ys:List dm),k≤n∧i= .int .i64 k∧ys.length=k∧ys.map (·.e)=(zs.take k).map (·.e)∧yQ w t (.slice (some ⟨g,0,none⟩) n c) wr∧
  wr.ownsRow (w.heap.size+2) 55 9 (.slice (some ⟨g,0,none⟩) n c) n (aP (ys++zs.drop k))∧∀y∈ys,LH (w.heap.size+2) g wr y.s y.e.z
attribute [local go_sem] jY jZ ku bH
theorem GX (t:Tb) (A0:Option Addr) (c0:Nat) (hz:t.aS= []) (h32:t.prev.length=32) (hm:t.bK.length=32) (w:World):Calls Tryz.prog 22 #[.agg (ai t (.slice A0 0 c0))] w (ClV w ⟨t,A0,c0,[]⟩):=by
 have HS:=ae (yQ.start w t (.slice A0 0 c0));have dM:Hid (∀v,(Tryz.prog.info? 32).map (·.size)=some (ai t v).size):=ae fun v=>cu t v h32 hm;have ng:Hid (∀v,Tryz.zeroCells32.size=(ai t v).size):=ae fun v=>(by rw [bG _ _ h32 hm];kernel_rfl);have H3:Hid (t.aS= []∧t.prev.length=32∧t.bK.length=32):=ae ⟨hz,h32,hm⟩;clear hz h32 hm;go_enter Tryz.func22,Tryz.ntmps22;go_wp2_with fail;generalize (w.alloc (.cells (ai t (.slice A0 0 c0)) 32)).alloc (.cells Tryz.zeroCells32 32)=W1 at HS ⊢;have hl0:=HS.out.lt;refine (show Calls Tryz.prog _ _ W1 _ from LK A0 c0 0 [] W1 .nil rfl (fun _ h=>nomatch h) (by omega)).mono ?_;rintro e w2 ⟨A,c,rfl,hown,hb2⟩;have HS2:=ae (HS.out.grow hb2);have hr2:=HS2.out.row.2;have hf2:∀i,w2.frozen? ⟨w.heap.size,i,none⟩=false:=fun i=>frozen_of_row _ _ i _ _ HS2.out.var;have mZ:=ae (HS2.out.store (.slice A 0 c));clear hown hb2 HS hl0;go_wp2_with fail;generalize w2.setCell ⟨w.heap.size,3,none⟩ (.slice A 0 c)=w3 at mZ ⊢;clear hr2 hf2
 go_loopw [11] (fun i wr=>i= .int .i64 0∧yQ w t (.slice A 0 c) wr) (fun _ _=>0)
 case atStart=>exact ⟨rfl,mZ.out⟩
 case round=>
  obtain ⟨rfl,hs⟩:=hrel;have HC:=ae hs;clear hs mZ;go_wp2_with (first
   |(with_reducible refine dI 32 ?_;refine aV rfl _ _ rfl w.heap.size rfl (ai t (.slice A 0 c)) HC.out.row _ Tryz.underlying32 rfl (dM.out _) ?_)
   |(with_reducible refine bT 32 ?_;refine wpList_store_row rfl _ _ _ rfl (w.heap.size+1) (ai t (.slice A 0 c)) rfl rfl 32 Tryz.zeroCells32 HC.out.res (dM.out _) (ng.out _) (bf _ _ _ _) ?_))
  refine bodyPost_ret (v:= .agg (ai t (.slice A 0 c))) (results_cell_row rfl _ _ (w.heap.size+1) _ (ai t (.slice A 0 c)) (0,0) _ rfl (setRow_heap _ _ _ _ _ _ HC.out.res) Tryz.underlying32 rfl (dM.out _)) rfl ?_;exact ⟨⟨t,A,c,[]⟩,rfl,rfl,rfl,⟨H3.out.1,H3.out.2.1,H3.out.2.2, .inl rfl, .inl rfl,fun _ hx=>nomatch hx⟩,below_setRow HC.out.up (Nat.le_succ _) _⟩
theorem GR (t:Tb) (A0:Option Addr) (c0 n:Nat) (zs:List dm) (w:World) (hz:∀x∈zs,oQ x.e.z) (hn:zs.length=n) (hn0:0<n) (hn1:n≤1000) (h32:t.prev.length=32) (hm:t.bK.length=32) (hzz:t.aS=zs.map (·.e))
  (hA:nX w w.heap.size A0 zs):
  Calls Tryz.prog 22 #[.agg (ai t (.slice A0 n c0))] w (ClV w ⟨t,A0,c0,zs⟩):=by
 have HS:=ae (yQ.start w t (.slice A0 n c0));have dM:Hid (∀v,(Tryz.prog.info? 32).map (·.size)=some (ai t v).size):=ae fun v=>cu t v h32 hm;have ng:Hid (∀v,Tryz.zeroCells32.size=(ai t v).size):=ae fun v=>(by rw [bG _ _ h32 hm];kernel_rfl);have HZ:=ae hz;have HN:=ae hn;have HA:=ae hA;have H3:Hid (t.aS=zs.map (·.e)∧t.prev.length=32∧t.bK.length=32):=ae ⟨hzz,h32,hm⟩;clear hz hn hA hzz h32 hm;go_enter Tryz.func22,Tryz.ntmps22;go_wp2_with fail;generalize (w.alloc (.cells (ai t (.slice A0 n c0)) 32)).alloc (.cells Tryz.zeroCells32 32)=W1 at HS ⊢;have hl0:=HS.out.lt;refine (show Calls Tryz.prog _ _ W1 _ from LK A0 c0 n (aP zs) W1 ((HA.out.row.keep HS.out.up).more HS.out.up.size) (by rw [dG,HN.out]) (vk zs) (by omega)).mono ?_;rintro e w2 ⟨A',c,rfl,hown,hb2⟩;obtain ⟨g,c',hv,_⟩:=gV hown hn0;injection hv with hv1 _ hv3;subst hv1 hv3;have HS2:=ae (HS.out.grow hb2);have hr2:=HS2.out.row.2;have hf2:∀i,w2.frozen? ⟨w.heap.size,i,none⟩=false:=fun i=>frozen_of_row _ _ i _ _ HS2.out.var;have hg1:=gq hown;have mZ:=ae (HS2.out.store (.slice (some ⟨g,0,none⟩) n c));have nK:=ae (dA (u:= .slice (some ⟨g,0,none⟩) n c) (p:=⟨w.heap.size,3,none⟩) (aX hown (base':=w.heap.size+2) (by omega)) (by intro h;injection h with h;simp only at h;omega));have hg2:w.heap.size+2≤g:=by omega
 clear hown hb2 HS hl0 hg1;go_wp2_with fail;generalize w2.setCell ⟨w.heap.size,3,none⟩ (.slice (some ⟨g,0,none⟩) n c)=w3 at mZ nK ⊢;clear hr2 hf2
 go_loopw [11] (fun i wr=>CvRel w t g n c zs i wr) (fun i _=>n - (intOf i).toNat)
 case atStart=>exact ⟨0,[],Nat.zero_le _,rfl,rfl,rfl,mZ.out,nK.out,fun _ h=>nomatch h⟩
 case round=>
  obtain ⟨k,ys,hk,rfl,hyl,hye,hcs,hown,hym⟩:=hrel;have HC:=ae hcs;have HO:=ae hown;have BU:=ae hye;have Du:=ae hym;have kX:=ae hyl;clear hcs hown hye hym hyl mZ nK;by_cases hlt:k<n
  ·have hkz:k<zs.length:=by rw [HN.out];exact hlt
   obtain ⟨x,hx⟩:∃x,zs[k]? =some x:=⟨_,dE hkz⟩;have hd:zs.drop k=x::zs.drop (k+1):=by
    rw [List.drop_eq_getElem_cons hkz];rw [dE hkz] at hx;injection hx with hx;rw [hx]
   have hown2:=HO.out;rw [hd] at hown2;have kW:=ae hown2;have hxm:=fK hx;have hfl:=HZ.out x hxm;have cc:∀j u,x.cells[j]? =some u→wr.cell? ⟨g,k*9+j,none⟩=some u:=fun j u hu=>by
    have hj:j<9:=(aZ.1 hu).1;refine jW hown2 _ _ ?_;rw [kR _ k j x (by rw [List.getElem?_append_right (by have:=kX.out;omega),kX.out];simp) hj];exact hu
   have hwr:g<wr.heap.size:=(gq hown2).2;have fz:∀j,wr.frozen? ⟨g,j,none⟩=false:=wF hown2;have a3:wr.cell? ⟨w.heap.size,3,none⟩=some (.slice (some ⟨g,0,none⟩) n c):=(HC.out.row.2 3).trans rfl;have z0:wr.cell? ⟨g,k*9+1,none⟩=some (I x.e.z.cal.aN):=cc 1 _ rfl;have z1:wr.cell? ⟨g,k*9+2,none⟩=some (.slice x.s.A x.e.z.cal.au.length x.s.a):=cc 2 _ rfl;have z2:wr.cell? ⟨g,k*9+3,none⟩=some (I x.e.z.cal.bu):=cc 3 _ rfl;have z3:wr.cell? ⟨g,k*9+4,none⟩=some (.slice x.s.B x.e.z.cal.rules.length x.s.b):=cc 4 _ rfl;have z4:wr.cell? ⟨g,k*9+5,none⟩=some (I x.e.z.start):=cc 5 _ rfl;have z5:wr.cell? ⟨g,k*9+6,none⟩=some (.slice x.s.C x.e.z.trans.length x.s.c):=cc 6 _ rfl;have z6:wr.cell? ⟨g,k*9+7,none⟩=some (I x.e.z.hor):=cc 7 _ rfl;have z7:wr.cell? ⟨g,k*9+8,none⟩=some (.slice x.s.D x.e.z.ay.length x.s.d):=cc 8 _ rfl;have HCZ:Hid (∀W,Below wr.heap.size wr W→Calls Tryz.prog 29 #[.agg #[I x.e.z.cal.aN, .slice x.s.A x.e.z.cal.au.length x.s.a,I x.e.z.cal.bu, .slice x.s.B x.e.z.cal.rules.length x.s.b,I x.e.z.start, .slice x.s.C x.e.z.trans.length x.s.c,I x.e.z.hor, .slice x.s.D x.e.z.ay.length x.s.d]] W (CzQ W x.e.z)):=
    ae fun W hb=>rQ x.e.z x.s W hfl ((HA.out.each x hxm).grow (ah HC.out.up hb))
   have i0:(0:Int)≤(k:Int):=by omega
   have i1:(k:Int)<(n:Int):=by omega
   have hNg:w.heap.size<wr.heap.size:=by omega
   clear cc hkz hd hown2 hfl hxm;have HX:=ae hx;clear hx;go_wp2_with fail;have hk9:k*9+1+8≤n*9:=by omega
   go_region_law (first|(go_simp;go_at_call 29;refine (HCZ.out _ (Below.refl _ _).drew).mono ?_;rintro e w5 ⟨s5,rfl,hown5,hb5⟩;dsimp only [aj];have hs5:=hb5.size;have hc5:w5.cell? ⟨w.heap.size,3,none⟩=some (.slice (some ⟨g,0,none⟩) n c):=(hb5.cell (p:=⟨w.heap.size,3,none⟩) hNg).trans a3;have JQ:∀j,w5.cell? ⟨g,j,none⟩=wr.cell? ⟨g,j,none⟩:=fun j=>hb5.cell (p:=⟨g,j,none⟩) hwr;have hf5:∀j,w5.frozen? ⟨g,j,none⟩=false:=fun j=>(hb5.frozen (p:=⟨g,j,none⟩) hwr).trans (fz j);have HW5:=ae hown5;have kT:=ae hb5;clear hown5 hb5 hs5))
   all_goals
    have hO5:w5.ownsRow (w.heap.size+2) 55 9 (.slice (some ⟨g,0,none⟩) n c) n (aP (ys++x::zs.drop (k+1))):=aY kW.out fun j _ h2=>kT.out.block j h2;have YM:=Bd (aj x.e.z s5).toList (k*9+1) _ _ hO5;rw [←kX.out,wV ys x _ _,kX.out] at YM;have hC6:=(HC.out.drew.grow kT.out).puts g (k*9+1) (aj x.e.z s5).toList hg2;have hM6:∀y∈ys++ [(⟨x.e,s5⟩:dm)],LH (w.heap.size+2) g (w5.setCells g (k*9+1) (aj x.e.z s5).toList) y.s y.e.z:=by
     intro y hy;rcases List.mem_append.1 hy with hy|hy
     ·exact (Du.out y hy).aQ (by rw [wJ];exact kT.out.size) fun j _ hj hjg=>(oq _ _ _ _ _ hjg).trans (kT.out.block j hj)
     ·rw [List.mem_singleton.1 hy];exact ((HW5.out.off (g':=g) hwr).lower (by show w.heap.size+2≤wr.heap.size;have:=HC.out.lt;omega)).aQ (by rw [wJ];exact Nat.le_refl _) fun j _ _ hjg=>oq _ _ _ _ _ hjg
    have xk:=ae YM;have qm:=ae hC6;have HM6:=ae hM6;clear hO5 YM hC6 hM6 hc5 JQ hf5;go_wp2_with fail;go_roundw
    case rel=>
     refine ⟨k+1,ys++ [⟨x.e,s5⟩],by omega,by go_num,by rw [bJ,kX.out];rfl,?_,qm.out,by rw [List.append_assoc];exact xk.out,HM6.out⟩;rw [List.map_append,BU.out,List.take_add_one,HX.out,List.map_append];rfl
    case measure=>simp [intOf];omega
  ·have hkn:k=n:=by omega
   have lG:=ae hkn;have hlt':¬(k:Int)<(n:Int):=by omega
   clear hkn hlt;go_wp2_with (first
    |(with_reducible refine dI 32 ?_;refine aV rfl _ _ rfl w.heap.size rfl (ai t (.slice (some ⟨g,0,none⟩) n c)) HC.out.row _ Tryz.underlying32 rfl (dM.out _) ?_)
    |(with_reducible refine bT 32 ?_;refine wpList_store_row rfl _ _ _ rfl (w.heap.size+1) (ai t (.slice (some ⟨g,0,none⟩) n c)) rfl rfl 32 Tryz.zeroCells32 HC.out.res (dM.out _) (ng.out _) (bf _ _ _ _) ?_))
   refine bodyPost_ret (v:= .agg (ai t (.slice (some ⟨g,0,none⟩) n c))) (results_cell_row rfl _ _ (w.heap.size+1) _ (ai t (.slice (some ⟨g,0,none⟩) n c)) (0,0) _ rfl (setRow_heap _ _ _ _ _ _ HC.out.res) Tryz.underlying32 rfl (dM.out _)) rfl ?_;have hd:ys++zs.drop k=ys:=by rw [List.drop_of_length_le (by rw [HN.out,lG.out];exact Nat.le_refl _),List.append_nil]
   have hrow:=HO.out;rw [hd] at hrow;have hyn:ys.length=n:=kX.out.trans lG.out;have hye:ys.map (·.e)=zs.map (·.e):=by rw [BU.out,lG.out,List.take_of_length_le (by rw [HN.out];exact Nat.le_refl _)]
   have hrow2:(wr.setRow (w.heap.size+1) (ai t (.slice (some ⟨g,0,none⟩) n c))).ownsRow (w.heap.size+2) 55 9 (.slice (some ⟨g,0,none⟩) n c) n (aP ys):=aY hrow fun j h1 _=>setRow_other _ _ j _ (by omega);refine ⟨⟨t,some ⟨g,0,none⟩,c,ys⟩,rfl,hye,by rw [hyn],⟨H3.out.1.trans hye.symm,H3.out.2.1,H3.out.2.2,(CO.dZ hrow2).lower (by omega),hyn.symm▸(CU.dZ hrow2).lower (by omega),fun y hy=>?_⟩,below_setRow HC.out.up (Nat.le_succ _) _⟩;exact ((Du.out y hy).aQ (by simp [World.setRow]) fun j h1 _ _=>setRow_other _ _ j _ (by omega)).own.lower (by omega)
theorem Aw (x:eF) (n:Nat) (w:World) (hn:x.zs.length=n) (hn1:n≤1000) (hl:∀y∈x.zs,oQ y.e.z) (h:kF w w.heap.size x):
  Calls Tryz.prog 22 #[.agg (ai x.t (.slice x.A n x.c))] w (ClV w x):=by
 obtain ⟨t,A,c,zs⟩:=x;by_cases h0:n=0
 ·subst h0;have hz:zs= []:=List.eq_nil_of_length_eq_zero hn;subst hz;exact GX t A c h.names h.prev h.bK w
 ·exact GR t A c n zs w hl hn (by omega) hn1 h.prev h.bK h.names h.aS
end Go.Proofs.YtdibbemgpikgjaaGreat
namespace Go.Proofs.YtdibbemgpikgjaaGreat
open Go Go.RowKit
theorem iI {P:Program} {ops:Array Oper} {Q:Exit→Act→World→Prop} {rest:List Oper} {a:Act} {w:World} {d:Option Tmp} {t:TypeId} {pos:String} {af:Array Edge} {g:Option (Nat×Bool)} (ty:TypeId) {x:Array (Nat×Operand)} (h:wpList P ops Q (⟨d, .build ty x,t,pos,af,g⟩::rest) a w):wpList P ops Q (⟨d, .build ty x,t,pos,af,g⟩::rest) a w:=h
theorem JD (ts:List eF) (pre:List (El ts)):(dN ts pre).1= -1∨∃i:Nat,i<ts.length∧(dN ts pre).1=(i:Int):=by
 unfold dN;have:∀(l:List (El ts)) (st:Int×List Bool),(st.1= -1∨∃i:Nat,i<ts.length∧st.1=(i:Int))→((l.foldl (fun st x=>iD st x.1) st).1= -1∨∃i:Nat,i<ts.length∧(l.foldl (fun st x=>iD st x.1) st).1=(i:Int)):=by
  intro l
  induction l with
  |nil=>intro st h;exact h
  |cons x l ih=>
   intro st h;rw [List.foldl_cons];refine ih _ ?_;unfold iD;split
   ·exact h
   ·dsimp only;split
    ·exact .inr ⟨x.1.1,(iU.1 x.2).1,rfl⟩
    ·exact h
 exact this pre _ (.inl rfl)
theorem AB {ts:List eF} {p:Int} {b:Bool} (h:uM ts=(p,b)):p<0∨∃i x,p=((i:Nat):Int)∧(b=true→ts[i]? =some x):=by
 unfold uM at h;split at h
 ·injection h with h1 h2;rcases JD ts (Ju ts ts.length) with h3|⟨i,hi,h3⟩
  ·exact .inl (by omega)
  ·exact .inr ⟨i,ts[i],by omega,fun _=>dE hi⟩
 ·injection h with h1 h2;subst h1 h2;exact .inr ⟨0,⟨⟨0,0,0,[],[],[]⟩,none,0,[]⟩,rfl,fun h=>nomatch h⟩
def xZ (ts:List eF):Prop:=∀x∈ts,x.zs.length≤1000∧∀y∈x.zs,oQ y.e.z
def NewP (w:World) (ts:List eF) (e:Ending) (w':World):Prop:=
 Below w.heap.size w w'∧∃p b,uM ts=(p,b)∧((b=false∧e= .returned (.tuple #[.agg Tryz.zeroCells32,I 1]))∨(b=true∧p<0∧e= .returned (.tuple #[.agg Tryz.zeroCells32,I 4]))∨
  (b=true∧∃i x y,p=((i:Nat):Int)∧ts[i]? =some x∧y.t=x.t∧y.zs.map (·.e)=x.zs.map (·.e)∧e= .returned (.tuple #[.agg (ai y.t (.slice y.A y.zs.length y.c)),I 0])∧Uk w.heap.size w' y))
theorem zN:(Tryz.prog.info? 32).map (·.size)=some Tryz.zeroCells32.size:=by kernel_rfl
theorem SK:Tryz.zeroCells32.all (·.oneCell')=true:=by kernel_rfl
theorem SI:(Tryz.prog.info? 32).map (fun i=>(i.zero,i.size))=some (some (.agg Tryz.zeroCells32),Tryz.zeroCells32.size):=by kernel_rfl
theorem JX (A:Option Addr) (c n:Nat) (ts:List eF) (w:World) (hn:ts.length=n) (hn1:n≤1000) (hl:xZ ts) (h:jR w w.heap.size A ts):
  Calls Tryz.prog 37 #[.slice A n c] w (NewP w ts):=by
 have HR0:=ae (heap_alloc_last w (.cells Tryz.zeroCells32 32));have HB0:=ae (ag w (.cells Tryz.zeroCells32 32));have HC:=ae (yu A c n ts (w.alloc (.cells Tryz.zeroCells32 32)) hn hn1 (h.grow (ag w _)));have HN:=ae hn;have HL:=ae hl;have Po:=ae h;clear hn hl h;go_enter Tryz.func37,Tryz.ntmps37;go_wp2_with (first
  |(with_reducible refine bn 32 ?_;refine dh rfl _ rfl Tryz.zeroCells32 SI ?_))
 refine HC.out.mono ?_;rintro e w1 ⟨p,b,rfl,hp,hb1⟩;have HR1:=ae ((hb1.block _ (by simp)).trans HR0.out);have HB1:=ae (ah HB0.out hb1);have HP:=ae hp;have hrg:=AB hp;clear hb1 hp HC HR0 HB0;cases b with
 |false=>
  clear hrg;go_wp2_with (first
   |((with_reducible refine iI 32 ?_);refine bY rfl _ rfl Tryz.zeroCells32 (by kernel_rfl) ?_)
   |((with_reducible refine bT 32 ?_);refine wpList_store_row rfl _ _ _ rfl w.heap.size Tryz.zeroCells32 rfl rfl 32 Tryz.zeroCells32 HR1.out zN rfl SK ?_))
  refine bodyPost_ret (v:= .tuple #[.agg Tryz.zeroCells32,I 1]) (bF rfl _ _ w.heap.size _ Tryz.zeroCells32 (0,0) _ rfl (setRow_heap _ _ _ _ _ _ HR1.out) Tryz.underlying32 rfl zN _ rfl) rfl ?_;exact ⟨below_setRow HB1.out (Nat.le_refl _) _,p,false,HP.out, .inl ⟨rfl,rfl⟩⟩
 |true=>
  rcases hrg with hneg|⟨i,x,rfl,hx⟩
  ·go_wp2_with (first
    |((with_reducible refine iI 32 ?_);refine bY rfl _ rfl Tryz.zeroCells32 (by kernel_rfl) ?_)
    |((with_reducible refine bT 32 ?_);refine wpList_store_row rfl _ _ _ rfl w.heap.size Tryz.zeroCells32 rfl rfl 32 Tryz.zeroCells32 HR1.out zN rfl SK ?_))
   refine bodyPost_ret (v:= .tuple #[.agg Tryz.zeroCells32,I 4]) (bF rfl _ _ w.heap.size _ Tryz.zeroCells32 (0,0) _ rfl (setRow_heap _ _ _ _ _ _ HR1.out) Tryz.underlying32 rfl zN _ rfl) rfl ?_;exact ⟨below_setRow HB1.out (Nat.le_refl _) _,p,true,HP.out, .inr (.inl ⟨rfl,hneg,rfl⟩)⟩
  ·have hx:=hx rfl;have hil:i<n:=by have h1:=(iU.1 hx).1;have:=HN.out;omega
   have hxm:=fK hx;have HAT:Hid (kF w1 w1.heap.size x):=ae ((Po.out.each x hxm).grow HB1.out);have h68:=(Po.out.each x hxm).size;obtain ⟨b,off,rfl,hbw,htab⟩:∃b off,A=some ⟨b,off,none⟩∧b<w.heap.size∧rJ w b off ts:=by
    rcases zK Po.out with h0|h0
    ·have:=HN.out;omega
    ·exact h0
   have Le:Hid (w1.rangeAt b (off+i*68) x.cells):=ae (aU (htab i x hx).1 HB1.out hbw);have dM:Hid ((Tryz.prog.info? 32).map (·.size)=some x.cells.length):=ae (by rw [h68];kernel_rfl);have HX:=ae hx;have OZ:=ae (HL.out x hxm);have i0:(0:Int)≤(i:Int):=by omega
   have i1:(i:Int)<(n:Int):=by omega
   clear hx hxm h68 htab;go_wp2_with (with_reducible refine dI 32 ?_;refine wpList_load_mid rfl _ _ rfl b (off+i*68) rfl x.cells _ Le.out Tryz.underlying32 rfl dM.out ?_);refine (show Calls Tryz.prog _ #[.agg x.cells.toArray] w1 _ from Aw x x.zs.length w1 rfl OZ.out.1 OZ.out.2 HAT.out).mono ?_;rintro e w2 ⟨y,hy1,hy2,rfl,hy3,hb2⟩;have HY:=ae (show y.t=x.t∧y.zs.map (·.e)=x.zs.map (·.e)∧Uk w1.heap.size w2 y from ⟨hy1,hy2,hy3⟩);have HR2:=ae ((hb2.block _ (aZ.1 HR1.out).1).trans HR1.out);have HB2:=ae (ah HB1.out hb2);have hlt1:=(aZ.1 HR1.out).1;have HSY:=ae (cu y.t (.slice y.A y.zs.length y.c) hy3.prev hy3.bK);have HZY:Hid (Tryz.zeroCells32.size=(ai y.t (.slice y.A y.zs.length y.c)).size):=ae (by rw [bG _ _ hy3.prev hy3.bK];kernel_rfl);clear hy1 hy2 hy3 hb2;go_wp2_with ((with_reducible refine bT 32 ?_);refine wpList_store_row rfl _ _ _ rfl w.heap.size (ai y.t (.slice y.A y.zs.length y.c)) rfl rfl 32 Tryz.zeroCells32 HR2.out HSY.out HZY.out (bf _ _ _ _) ?_);refine bodyPost_ret (v:= .tuple #[.agg (ai y.t (.slice y.A y.zs.length y.c)),I 0]) (bF rfl _ _ w.heap.size _ (ai y.t (.slice y.A y.zs.length y.c)) (0,0) _ rfl (setRow_heap _ _ _ _ _ _ HR2.out) Tryz.underlying32 rfl HSY.out _ rfl) rfl ?_;refine ⟨below_setRow HB2.out (Nat.le_refl _) _,(i:Int),true,HP.out, .inr (.inr ⟨rfl,i,x,y,rfl,HX.out,HY.out.1,HY.out.2.1,rfl,?_⟩)⟩;exact (HY.out.2.2.aQ (by simp [World.setRow]) fun k h1 _=>setRow_other _ _ k _ (by omega)).lower (by omega)
theorem Nh (x:dm):(Tryz.prog.info? 55).map (·.size)=some x.cells.size:=by kernel_rfl
theorem VG (x:dm):x.cells[0]? =some (.string x.e.name):=rfl
theorem lF:(Tryz.prog.info? 51).map (·.size)=some iQ.size:=by kernel_rfl
theorem vC:iQ.all (·.oneCell')=true:=by kernel_rfl
attribute [local go_sem] VG bH
theorem KY (x:dm) (nb:Nat) (name:ByteArray) (w:World) (hb:nb<w.heap.size) (hc:w.cell? ⟨nb,0,none⟩=some (.string name)):
  Calls Tryz.prog 28 #[.agg x.cells,pt nb] w (Gives (.bool (x.e.name.toList==name.toList)) w):=by
 have HB:=ae (ag w (.cells x.cells 55));have hc2:=(HB.out.cell (p:=⟨nb,0,none⟩) hb).trans hc;have hr:=(Row.new w x.cells 55).2 0;go_enter Tryz.func28,Tryz.ntmps28;go_wp2_with fail;go_ret;exact ⟨rfl,HB.out⟩
def y9 (a b:ByteArray):Bool:=a.toList==b.toList
def IxP (w:World) (zs:List dm) (name:ByteArray) (e:Ending) (w':World):Prop:=
 ∃v,e= .returned (I v)∧Below w.heap.size w w'∧((v= -1∧∀(j:Nat) (y:dm),zs[j]? =some y→y9 y.e.name name=false)∨∃(i:Nat) (x:dm),v=(i:Int)∧zs[i]? =some x∧y9 x.e.name name=true∧∀(j:Nat) (y:dm),j<i→zs[j]? =some y→y9 y.e.name name=false)
def IxRel (w:World) (zs:List dm) (name:ByteArray) (n:Nat) (i:Value) (wr:World):Prop:=∃k:Nat,k≤n∧i= .int .i64 k∧(∀(j:Nat) (y:dm),j<k→zs[j]? =some y→y9 y.e.name name=false)∧Below w.heap.size w wr
theorem JS (A:Option Addr) (c n:Nat) (zs:List dm) (nb:Nat) (name:ByteArray) (w:World) (hn:zs.length=n) (hn1:n≤100000) (h:aB w w.heap.size A (aP zs)) (hb:nb<w.heap.size) (hc:w.cell? ⟨nb,0,none⟩=some (.string name)):
  Calls Tryz.prog 27 #[.slice A n c, .func (.func 28) #[] #[pt nb]] w (IxP w zs name):=by
 have HN:=ae hn;have HC:=ae h;clear hn h;go_enter Tryz.func27,Tryz.ntmps27;go_wp2_with fail
 go_loopw [8] (fun i wr=>IxRel w zs name n i wr) (fun i _=>n - (intOf i).toNat)
 case atStart=>exact ⟨0,Nat.zero_le _,rfl,fun j y hj=>absurd hj (Nat.not_lt_zero _),Below.refl _ _⟩
 case round=>
  obtain ⟨k,hk,rfl,hall,hbl⟩:=hrel;have kS:=ae hall;have HB:=ae hbl;clear hall hbl;by_cases hlt:k<n
  ·have hkl:k<zs.length:=by rw [HN.out];exact hlt
   obtain ⟨x,hx⟩:∃x,zs[k]? =some x:=⟨_,dE hkl⟩;obtain ⟨b,off,rfl,hbw,hcl⟩:=HC.out.there (by rw [dG];omega);have HX:=ae hx;have Le:Hid (wr.rangeAt b (off+k*9) x.cells.toList):=ae fun j u hu=>by
    have hj:j<9:=(iU.1 hu).1;rw [Nat.add_assoc];refine (HB.out.cell (p:=⟨b,off+(k*9+j),none⟩) hbw).trans (hcl _ u ?_);rw [kR zs k j x hx hj];simpa using hu
   have hlt2:nb<wr.heap.size:=dR hb HB.out.size;have hc2:wr.cell? ⟨nb,0,none⟩=some (.string name):=(HB.out.cell (p:=⟨nb,0,none⟩) hb).trans hc;have HZ:=ae (KY x nb name wr hlt2 hc2);have i0:(0:Int)≤(k:Int):=by omega
   have i1:(k:Int)<(n:Int):=by omega
   clear hkl hx hcl hlt2 hc2;cases hq:y9 x.e.name name
   ·have HQ:=ae hq;clear hq;go_wp2_with ((with_reducible refine dI 55 ?_);refine wpList_load_mid rfl _ _ rfl b (off+k*9) rfl x.cells.toList _ Le.out Tryz.underlying55 rfl (Nh x) ?_);refine HZ.out.mono ?_;rintro e w2 ⟨rfl,hb2⟩;rw [show (x.e.name.toList==name.toList)=false from HQ.out];have HB2:=ae (ah HB.out hb2);clear hb2;go_wp2_with fail;go_roundw
    case rel=>
     refine ⟨k+1,by omega,by go_num,fun j y hj hy=>?_,HB2.out⟩;by_cases e:j=k
     ·subst e;have h1:=HX.out;rw [hy] at h1;injection h1 with h1;rw [h1];exact HQ.out
     ·exact kS.out j y (by omega) hy
    case measure=>simp [intOf];omega
   ·have HQ:=ae hq;clear hq;go_wp2_with ((with_reducible refine dI 55 ?_);refine wpList_load_mid rfl _ _ rfl b (off+k*9) rfl x.cells.toList _ Le.out Tryz.underlying55 rfl (Nh x) ?_);refine HZ.out.mono ?_;rintro e w2 ⟨rfl,hb2⟩;rw [show (x.e.name.toList==name.toList)=true from HQ.out];have HB2:=ae (ah HB.out hb2);clear hb2;go_wp2_with fail;go_ret;exact ⟨_,rfl,HB2.out, .inr ⟨k,x,rfl,HX.out,HQ.out,kS.out⟩⟩
  ·have hke:k=n:=by omega
   have TP:=ae hke;have hnl:¬(k:Int)<(n:Int):=by omega
   clear hke hlt;go_wp2_with fail;go_ret;exact ⟨_,rfl,HB.out, .inl ⟨rfl,fun j y hy=>kS.out j y (by have h1:=(iU.1 hy).1;have:=HN.out;have:=TP.out;omega) hy⟩⟩
def pJ (zs:List Ze) (name:ByteArray):Option Zn:=(zs.find? fun e=>y9 e.name name).map (·.z)
theorem BL {zs:List dm} {i:Nat} {x:dm} {name:ByteArray} (hx:zs[i]? =some x) (h:y9 x.e.name name=true) (hall:∀(j:Nat) (y:dm),j<i→zs[j]? =some y→y9 y.e.name name=false):pJ (zs.map (·.e)) name=some x.e.z:=by
 induction zs generalizing i with
 |nil=>cases hx
 |cons y zs ih=>
  unfold pJ;rw [List.map_cons,List.find?_cons];cases i with
  |zero=>
   injection hx with hx;subst hx;rw [h];rfl
  |succ i=>
   rw [hall 0 y (Nat.succ_pos _) rfl];exact ih (i:=i) hx fun j z hj hz=>hall (j+1) z (by omega) hz
theorem KU {zs:List dm} {name:ByteArray} (hall:∀(j:Nat) (y:dm),zs[j]? =some y→y9 y.e.name name=false):pJ (zs.map (·.e)) name=none:=by
 induction zs with
 |nil=>rfl
 |cons y zs ih=>
  unfold pJ;rw [List.map_cons,List.find?_cons,hall 0 y rfl];exact ih fun j z hz=>hall (j+1) z hz
def Qa (w:World) (zs:List Ze) (name:ByteArray) (e:Ending) (w':World):Prop:=
 Below w.heap.size w w'∧((pJ zs name=none∧e= .returned (.tuple #[.agg iQ,I 4]))∨∃z s,pJ zs name=some z∧e= .returned (.tuple #[.agg (aj z s),I 0])∧NJ w.heap.size w' s z∧∃e∈zs,e.z=z)
structure WR (w:World) (cs:Array Value) (name:ByteArray) (W:World):Prop where
 tab:W.heap[w.heap.size]? =some (.cells cs 32 (0,0))
 nm:W.heap[w.heap.size+1]? =some (.cells #[.string name] 9 (0,0))
 res:W.heap[w.heap.size+2]? =some (.cells iQ 51 (0,0))
 up:Below w.heap.size w W
theorem WR.start (w:World) (cs:Array Value) (name:ByteArray):WR w cs name (((w.alloc (.cells cs 32)).alloc (.cells #[.string name] 9)).alloc (.cells iQ 51)):=by
 refine ⟨(Below.heap_alloc _ _ _ (by simp;omega)).trans (heap_alloc2_old w _ _),?_,?_,ah (ah (ag w _) (ag _ _)) (ag _ _)⟩
 ·exact (Below.heap_alloc _ _ _ (by simp)).trans (heap_alloc2_new w _ _)
 ·have h:=heap_alloc_last ((w.alloc (.cells cs 32)).alloc (.cells #[.string name] 9)) (.cells iQ 51);rw [World.size_alloc,World.size_alloc] at h;exact h
theorem WR.lt {w W:World} {cs:Array Value} {name:ByteArray} (h:WR w cs name W):w.heap.size+2<W.heap.size:=(aZ.1 h.res).1
theorem WR.grow {w W W':World} {cs:Array Value} {name:ByteArray} (h:WR w cs name W) (hb:Below W.heap.size W W'):WR w cs name W':=by
 have hl:=h.lt;exact ⟨(hb.block _ (by omega)).trans h.tab,(hb.block _ (by omega)).trans h.nm,(hb.block _ hl).trans h.res,ah h.up hb⟩
theorem BQ (x:eF) (n:Nat) (name:ByteArray) (w:World) (hn:x.zs.length=n) (hn1:n≤1000) (hl:∀y∈x.zs,oQ y.e.z) (h:kF w w.heap.size x):
  Calls Tryz.prog 12 #[.agg (ai x.t (.slice x.A n x.c)), .string name] w (Qa w x.t.aS name):=by
 have HV:=ae (WR.start w (ai x.t (.slice x.A n x.c)) name);have HN:=ae hn;have HL:=ae hl;have HT:=ae h;clear hn hl h;go_enter Tryz.func12,Tryz.ntmps12;go_wp2_with (with_reducible refine bn 51 ?_;refine dh rfl _ rfl iQ (by kernel_rfl) ?_);generalize ((w.alloc (.cells (ai x.t (.slice x.A n x.c)) 32)).alloc (.cells #[.string name] 9)).alloc (.cells iQ 51)=W1 at HV ⊢;have hlt:=HV.out.lt;refine (show Calls Tryz.prog _ _ W1 _ from JS x.A x.c n x.zs (w.heap.size+1) name W1 HN.out (by omega) ((HT.out.aS.row.keep HV.out.up).more HV.out.up.size) (by omega) (cell_of_row W1 _ 0 _ _ _ HV.out.nm)).mono ?_;rintro e w2 ⟨v,rfl,hb2,hv⟩;have ni:=ae (HV.out.grow hb2);clear hb2 hlt;rcases hv with ⟨rfl,hno⟩|⟨i,y,rfl,hy,hyes,hall⟩
 ·have PG:=ae (KU hno);clear hno;go_wp2_with (first
   |((with_reducible refine iI 51 ?_);refine bY rfl _ rfl iQ (by kernel_rfl) ?_)
   |((with_reducible refine bT 51 ?_);refine wpList_store_row rfl _ _ _ rfl (w.heap.size+2) iQ rfl rfl 51 iQ ni.out.res lF rfl vC ?_))
  refine bodyPost_ret (v:= .tuple #[.agg iQ,I 4]) (bF rfl _ _ (w.heap.size+2) _ iQ (0,0) _ rfl (setRow_heap _ _ _ _ _ _ ni.out.res) Tryz.underlying51 rfl lF _ rfl) rfl ?_;exact ⟨below_setRow ni.out.up (by omega) _, .inl ⟨by rw [HT.out.names];exact PG.out,rfl⟩⟩
 ·have HF:=ae (BL hy hyes hall);have hym:=fK hy;have HLY:=ae (HL.out y hym);have Du:=ae hym;have Ue:Hid (gW w2 w2.heap.size y.s y.e.z):=ae ((HT.out.aS.each y hym).grow ni.out.up);have hin:i<n:=by have h1:=(iU.1 hy).1;have:=HN.out;omega
  obtain ⟨A0,hA0⟩:∃a,x.A=a:=⟨_,rfl⟩;obtain ⟨b,off,hab,hbw,hcl⟩:=HT.out.aS.row.there (by rw [dG];have:=HN.out;omega);have Le:Hid (w2.rangeAt b (off+i*9+1) (aj y.e.z y.s).toList):=ae fun j u hu=>by
   have hj:j<8:=(iU.1 hu).1;rw [show off+i*9+1+j=off+(i*9+(j+1)) by omega];refine (ni.out.up.cell (p:=⟨b,off+(i*9+(j+1)),none⟩) hbw).trans (hcl _ u ?_);rw [kR x.zs i (j+1) y hy (by omega)];have e:y.cells[j+1]? =(aj y.e.z y.s).toList[j]? :=by
    match j,hj with
    |0,_=>rfl
    |1,_=>rfl
    |2,_=>rfl
    |3,_=>rfl
    |4,_=>rfl
    |5,_=>rfl
    |6,_=>rfl
    |7,_=>rfl
   rw [e];exact hu
  have c3:w2.cell? ⟨w.heap.size,3,none⟩=some (.slice (some ⟨b,off,none⟩) n x.c):=by rw [cell_of_row w2 _ 3 _ _ _ ni.out.tab,bH,hab]
  have i0:(0:Int)≤(i:Int):=by omega
  have i1:(i:Int)<(n:Int):=by omega
  clear hy hyes hall hym hcl hab hA0;go_wp2_with ((with_reducible refine dI 51 ?_);refine wpList_load_mid rfl _ _ rfl b (off+i*9+1) rfl (aj y.e.z y.s).toList _ Le.out Tryz.underlying51 rfl (kC _ _) ?_);refine (show Calls Tryz.prog _ #[.agg (aj y.e.z y.s)] w2 _ from rQ y.e.z y.s w2 HLY.out Ue.out).mono ?_;rintro e w3 ⟨s3,rfl,hx3,hb3⟩;have vH:=ae (ni.out.grow hb3);have BR:=ae hx3;have hl2:=ni.out.lt;clear hx3 hb3;go_wp2_with ((with_reducible refine bT 51 ?_);refine wpList_store_row rfl _ _ _ rfl (w.heap.size+2) (aj y.e.z s3) rfl rfl 51 iQ vH.out.res (kC _ _) rfl (vw _ _) ?_);refine bodyPost_ret (v:= .tuple #[.agg (aj y.e.z s3),I 0]) (bF rfl _ _ (w.heap.size+2) _ (aj y.e.z s3) (0,0) _ rfl (setRow_heap _ _ _ _ _ _ vH.out.res) Tryz.underlying51 rfl (kC _ _) _ rfl) rfl ?_;refine ⟨below_setRow vH.out.up (by omega) _, .inr ⟨y.e.z,s3,by rw [HT.out.names];exact HF.out,rfl,?_,y.e,by rw [HT.out.names];exact List.mem_map_of_mem Du.out,rfl⟩⟩;exact (BR.out.own.aQ (by simp [World.setRow]) fun k h1 _=>setRow_other _ _ k _ (by omega)).lower (by omega)
end Go.Proofs.YtdibbemgpikgjaaGreat
