/- The texts Pd, Dq, Qe, Qd, Qf, Qi, Qj, Qg, Pk, in this order. -/
import Derived.Test.YtdibbemgpikgjaaGreatW00
import Derived.Test.YtdibbemgpikgjaaGreatW01
import Derived.Test.YtdibbemgpikgjaaGreatW05
import Derived.Test.YtdibbemgpikgjaaGreatW08
set_option maxRecDepth 10000
set_option maxHeartbeats 8000000
namespace Go.Proofs.YtdibbemgpikgjaaGreat
open Go Go.RowKit
def CO (lo:Nat) (w:World) (A:Option Addr) (cs:List Value):Prop:=
 cs.length=0∨∃b off,A=some ⟨b,off,none⟩∧lo≤b∧b<w.heap.size∧∀j u,cs[j]? =some u→w.cell? ⟨b,off+j,none⟩=some u
structure Q9 (lo:Nat) (w:World) (s:Zs) (z:Zn):Prop where
 aj:CO lo w s.A (z.cal.aj.map I)
 rules:CO lo w s.B (z.cal.rules.flatMap Lr.cells)
 trans:CO lo w s.C (z.trans.flatMap Tr.cells)
 az:CO lo w s.D (z.az.flatMap Yr.cells)
def CU (lo:Nat) (w:World) (A:Option Addr) (n:Nat):Prop:=
 n=0∨∃b off,A=some ⟨b,off,none⟩∧lo≤b∧b<w.heap.size∧∀j,w.frozen? ⟨b,off+j,none⟩=false
structure BP (lo:Nat) (w:World) (A:Option Addr) (zs:List dA):Prop where
 row:CO lo w A (aP zs)
 free:CU lo w A zs.length
 each:∀x∈zs,Q9 lo w x.s x.e.z
structure Wu (lo:Nat) (w:World) (x:fH):Prop where
 names:x.t.aK=x.zs.map (·.e)
 prev:x.t.prev.length=32
 bJ:x.t.bJ.length=32
 aK:BP lo w x.A x.zs
section
variable {lo lo' g:Nat} {w w':World} {A:Option Addr} {cs:List Value} {s:Zs} {z:Zn} {zs:List dA} {x:fH}
theorem CX.own (h:CX lo g w A cs):CO lo w A cs:=h.imp id fun ⟨b,off,h1,h2,h3,_,h5⟩=>⟨b,off,h1,h2,h3,h5⟩
theorem CO.aQ (h:CO lo w A cs) (hs:w.heap.size≤w'.heap.size) (hb:∀k,lo≤k→k<w.heap.size→w'.heap[k]? =w.heap[k]?):CO lo w' A cs:=
 h.imp id fun ⟨b,off,h1,h2,h3,h5⟩=>⟨b,off,h1,h2,dS h3 hs,fun j u hu=>(World.cell?_of_block (a:=⟨b,off+j,none⟩) (hb b h2 h3)).trans (h5 j u hu)⟩
theorem CO.lower (h:CO lo w A cs) (hl:lo'≤lo):CO lo' w A cs:=h.imp id fun ⟨b,off,h1,h2,h3,h5⟩=>⟨b,off,h1,by omega,h3,h5⟩
theorem CU.aQ {n:Nat} (h:CU lo w A n) (hs:w.heap.size≤w'.heap.size) (hb:∀k,lo≤k→k<w.heap.size→w'.heap[k]? =w.heap[k]?):CU lo w' A n:=
 h.imp id fun ⟨b,off,h1,h2,h3,h5⟩=>⟨b,off,h1,h2,dS h3 hs,fun j=>(World.frozen?_of_block (a:=⟨b,off+j,none⟩) (hb b h2 h3)).trans (h5 j)⟩
theorem CU.lower {n:Nat} (h:CU lo w A n) (hl:lo'≤lo):CU lo' w A n:=h.imp id fun ⟨b,off,h1,h2,h3,h5⟩=>⟨b,off,h1,by omega,h3,h5⟩
theorem CO.at (h:CO lo w A cs):aB w w.heap.size A cs:=h.imp id fun ⟨b,off,h1,_,h3,h5⟩=>⟨b,off,h1,h3,h5⟩
theorem Oq.own (h:Oq lo g w s z):Q9 lo w s z:=⟨h.aj.own,h.rules.own,h.trans.own,h.az.own⟩
theorem Q9.aQ (h:Q9 lo w s z) (hs:w.heap.size≤w'.heap.size) (hb:∀k,lo≤k→k<w.heap.size→w'.heap[k]? =w.heap[k]?):Q9 lo w' s z:=⟨h.aj.aQ hs hb,h.rules.aQ hs hb,h.trans.aQ hs hb,h.az.aQ hs hb⟩
theorem Q9.lower (h:Q9 lo w s z) (hl:lo'≤lo):Q9 lo' w s z:=⟨h.aj.lower hl,h.rules.lower hl,h.trans.lower hl,h.az.lower hl⟩
theorem Q9.at (h:Q9 lo w s z):jR w w.heap.size s z:=⟨h.aj.at,h.rules.at,h.trans.at,h.az.at⟩
theorem BP.aQ (h:BP lo w A zs) (hs:w.heap.size≤w'.heap.size) (hb:∀k,lo≤k→k<w.heap.size→w'.heap[k]? =w.heap[k]?):BP lo w' A zs:=⟨h.row.aQ hs hb,h.free.aQ hs hb,fun x hx=>(h.each x hx).aQ hs hb⟩
theorem BP.lower (h:BP lo w A zs) (hl:lo'≤lo):BP lo' w A zs:=⟨h.row.lower hl,h.free.lower hl,fun x hx=>(h.each x hx).lower hl⟩
theorem Wu.aQ (h:Wu lo w x) (hs:w.heap.size≤w'.heap.size) (hb:∀k,lo≤k→k<w.heap.size→w'.heap[k]? =w.heap[k]?):Wu lo w' x:=⟨h.names,h.prev,h.bJ,h.aK.aQ hs hb⟩
theorem Wu.lower (h:Wu lo w x) (hl:lo'≤lo):Wu lo' w x:=⟨h.names,h.prev,h.bJ,h.aK.lower hl⟩
theorem CO.fA {e size n c:Nat} (h:w.ownsRow lo e size (.slice A n c) n cs):CO lo w A cs:=by
 rcases h.2 with ⟨hv,hn⟩|⟨b,cap,cur,hv,hb,hh,_⟩
 ·refine .inl ?_;rw [h.1,hn,Nat.zero_mul]
 ·injection hv with h1 _ _;subst h1;exact .inr ⟨b,0,rfl,hb,(bY.1 hh).1,fun j u hu=>by rw [Nat.zero_add,←addr_add];exact h.cells (g:=b) rfl j u hu⟩
theorem CU.fA {e size n c:Nat} (h:w.ownsRow lo e size (.slice A n c) n cs):CU lo w A n:=by
 rcases h.2 with ⟨_,hn⟩|⟨b,cap,cur,hv,hb,hh,_⟩
 ·exact .inl hn
 ·injection hv with h1 _ _;subst h1;exact .inr ⟨b,0,rfl,hb,(bY.1 hh).1,fun j=>frozen_of_row w b _ _ _ hh⟩
end
def ClV (w:World) (x:fH) (e:Ending) (w':World):Prop:=
 ∃y:fH,y.t=x.t∧y.zs.map (·.e)=x.zs.map (·.e)∧e= .returned (.agg (ai y.t (.slice y.A y.zs.length y.c)))∧Wu w.heap.size w' y∧Below w.heap.size w w'
def CvRel (w:World) (t:Tb) (g n c:Nat) (zs:List dA) (i:Value) (wr:World):Prop:=
 ∃(k:Nat) (ys:List dA),k≤n∧i= .int .i64 k∧ys.length=k∧ys.map (·.e)=(zs.take k).map (·.e)∧Ac w t (.slice (some ⟨g,0,none⟩) n c) wr∧
  wr.ownsRow (w.heap.size+2) 55 9 (.slice (some ⟨g,0,none⟩) n c) n (aP (ys++zs.drop k))∧∀y∈ys,Oq (w.heap.size+2) g wr y.s y.e.z
attribute [local go_sem] jm jo jq bK
theorem Jq (t:Tb) (A0:Option Addr) (c0:Nat) (hz:t.aK= []) (h32:t.prev.length=32) (hm:t.bJ.length=32) (w:World):Calls Tryz.prog 22 #[.agg (ai t (.slice A0 0 c0))] w (ClV w ⟨t,A0,c0,[]⟩):=by
 have HS:=ae (Ac.start w t (.slice A0 0 c0));have dR:Hid (∀v,(Tryz.prog.info? 32).map (·.size)=some (ai t v).size):=ae fun v=>bP t v h32 hm;have nT:Hid (∀v,Tryz.zeroCells32.size=(ai t v).size):=ae fun v=>(by rw [aZ _ _ h32 hm];kernel_rfl);have H3:Hid (t.aK= []∧t.prev.length=32∧t.bJ.length=32):=ae ⟨hz,h32,hm⟩;clear hz h32 hm;go_enter Tryz.func22,Tryz.ntmps22;go_wp2_with fail;generalize (w.alloc (.cells (ai t (.slice A0 0 c0)) 32)).alloc (.cells Tryz.zeroCells32 32)=W1 at HS ⊢;have hl0:=HS.out.lt;refine (show Calls Tryz.prog _ _ W1 _ from Ox A0 c0 0 [] W1 .nil rfl (fun _ h=>nomatch h) (by omega)).mono ?_;rintro e w2 ⟨A,c,rfl,hown,hb2⟩;have HS2:=ae (HS.out.grow hb2);have hr2:=HS2.out.row.2;have hf2:∀i,w2.frozen? ⟨w.heap.size,i,none⟩=false:=fun i=>frozen_of_row _ _ i _ _ HS2.out.var;have nS:=ae (HS2.out.store (.slice A 0 c));clear hown hb2 HS hl0;go_wp2_with fail;generalize w2.setCell ⟨w.heap.size,3,none⟩ (.slice A 0 c)=w3 at nS ⊢;clear hr2 hf2
 go_loopw [11] (fun i wr=>i= .int .i64 0∧Ac w t (.slice A 0 c) wr) (fun _ _=>0)
 case atStart=>exact ⟨rfl,nS.out⟩
 case round=>
  obtain ⟨rfl,hs⟩:=hrel;have HC:=ae hs;clear hs nS;go_wp2_with (first
   |(with_reducible refine dM 32 ?_;refine aV rfl _ _ rfl w.heap.size rfl (ai t (.slice A 0 c)) HC.out.row _ Tryz.underlying32 rfl (dR.out _) ?_)
   |(with_reducible refine bV 32 ?_;refine wpList_store_row rfl _ _ _ rfl (w.heap.size+1) (ai t (.slice A 0 c)) rfl rfl 32 Tryz.zeroCells32 HC.out.res (dR.out _) (nT.out _) (aT _ _ _ _) ?_))
  refine bodyPost_ret (v:= .agg (ai t (.slice A 0 c))) (results_cell_row rfl _ _ (w.heap.size+1) _ (ai t (.slice A 0 c)) (0,0) _ rfl (setRow_heap _ _ _ _ _ _ HC.out.res) Tryz.underlying32 rfl (dR.out _)) rfl ?_;exact ⟨⟨t,A,c,[]⟩,rfl,rfl,rfl,⟨H3.out.1,H3.out.2.1,H3.out.2.2, .inl rfl, .inl rfl,fun _ hx=>nomatch hx⟩,below_setRow HC.out.up (Nat.le_succ _) _⟩
theorem Jn (t:Tb) (A0:Option Addr) (c0 n:Nat) (zs:List dA) (w:World) (hz:∀x∈zs,oU x.e.z) (hn:zs.length=n) (hn0:0<n) (hn1:n≤1000) (h32:t.prev.length=32) (hm:t.bJ.length=32) (hzz:t.aK=zs.map (·.e))
  (hA:oD w w.heap.size A0 zs):
  Calls Tryz.prog 22 #[.agg (ai t (.slice A0 n c0))] w (ClV w ⟨t,A0,c0,zs⟩):=by
 have HS:=ae (Ac.start w t (.slice A0 n c0));have dR:Hid (∀v,(Tryz.prog.info? 32).map (·.size)=some (ai t v).size):=ae fun v=>bP t v h32 hm;have nT:Hid (∀v,Tryz.zeroCells32.size=(ai t v).size):=ae fun v=>(by rw [aZ _ _ h32 hm];kernel_rfl);have HZ:=ae hz;have HN:=ae hn;have HA:=ae hA;have H3:Hid (t.aK=zs.map (·.e)∧t.prev.length=32∧t.bJ.length=32):=ae ⟨hzz,h32,hm⟩;clear hz hn hA hzz h32 hm;go_enter Tryz.func22,Tryz.ntmps22;go_wp2_with fail;generalize (w.alloc (.cells (ai t (.slice A0 n c0)) 32)).alloc (.cells Tryz.zeroCells32 32)=W1 at HS ⊢;have hl0:=HS.out.lt;refine (show Calls Tryz.prog _ _ W1 _ from Ox A0 c0 n (aP zs) W1 ((HA.out.row.keep HS.out.up).more HS.out.up.size) (by rw [dN,HN.out]) (wW zs) (by omega)).mono ?_;rintro e w2 ⟨A',c,rfl,hown,hb2⟩;obtain ⟨g,c',hv,_⟩:=eU hown hn0;injection hv with hv1 _ hv3;subst hv1 hv3;have HS2:=ae (HS.out.grow hb2);have hr2:=HS2.out.row.2;have hf2:∀i,w2.frozen? ⟨w.heap.size,i,none⟩=false:=fun i=>frozen_of_row _ _ i _ _ HS2.out.var;have hg1:=fM hown;have nS:=ae (HS2.out.store (.slice (some ⟨g,0,none⟩) n c));have mV:=ae (dn (u:= .slice (some ⟨g,0,none⟩) n c) (p:=⟨w.heap.size,3,none⟩) (aX hown (base':=w.heap.size+2) (by omega)) (by intro h;injection h with h;simp only at h;omega));have hg2:w.heap.size+2≤g:=by omega
 clear hown hb2 HS hl0 hg1;go_wp2_with fail;generalize w2.setCell ⟨w.heap.size,3,none⟩ (.slice (some ⟨g,0,none⟩) n c)=w3 at nS mV ⊢;clear hr2 hf2
 go_loopw [11] (fun i wr=>CvRel w t g n c zs i wr) (fun i _=>n - (intOf i).toNat)
 case atStart=>exact ⟨0,[],Nat.zero_le _,rfl,rfl,rfl,nS.out,mV.out,fun _ h=>nomatch h⟩
 case round=>
  obtain ⟨k,ys,hk,rfl,hyl,hye,hcs,hown,hym⟩:=hrel;have HC:=ae hcs;have HO:=ae hown;have Oe:=ae hye;have IY:=ae hym;have lW:=ae hyl;clear hcs hown hye hym hyl nS mV;by_cases hlt:k<n
  ·have hkz:k<zs.length:=by rw [HN.out];exact hlt
   obtain ⟨x,hx⟩:∃x,zs[k]? =some x:=⟨_,dK hkz⟩;have hd:zs.drop k=x::zs.drop (k+1):=by
    rw [List.drop_eq_getElem_cons hkz];rw [dK hkz] at hx;injection hx with hx;rw [hx]
   have hown2:=HO.out;rw [hd] at hown2;have mJ:=ae hown2;have hxm:=gz hx;have hfl:=HZ.out x hxm;have cc:∀j u,x.cells[j]? =some u→wr.cell? ⟨g,k*9+j,none⟩=some u:=fun j u hu=>by
    have hj:j<9:=(bY.1 hu).1;refine l9 hown2 _ _ ?_;rw [lN _ k j x (by rw [List.getElem?_append_right (by have:=lW.out;omega),lW.out];simp) hj];exact hu
   have hwr:g<wr.heap.size:=(fM hown2).2;have fz:∀j,wr.frozen? ⟨g,j,none⟩=false:=xK hown2;have a3:wr.cell? ⟨w.heap.size,3,none⟩=some (.slice (some ⟨g,0,none⟩) n c):=(HC.out.row.2 3).trans rfl;have z0:wr.cell? ⟨g,k*9+1,none⟩=some (I x.e.z.cal.aI):=cc 1 _ rfl;have z1:wr.cell? ⟨g,k*9+2,none⟩=some (.slice x.s.A x.e.z.cal.aj.length x.s.a):=cc 2 _ rfl;have z2:wr.cell? ⟨g,k*9+3,none⟩=some (I x.e.z.cal.aY):=cc 3 _ rfl;have z3:wr.cell? ⟨g,k*9+4,none⟩=some (.slice x.s.B x.e.z.cal.rules.length x.s.b):=cc 4 _ rfl;have z4:wr.cell? ⟨g,k*9+5,none⟩=some (I x.e.z.start):=cc 5 _ rfl;have z5:wr.cell? ⟨g,k*9+6,none⟩=some (.slice x.s.C x.e.z.trans.length x.s.c):=cc 6 _ rfl;have z6:wr.cell? ⟨g,k*9+7,none⟩=some (I x.e.z.hor):=cc 7 _ rfl;have z7:wr.cell? ⟨g,k*9+8,none⟩=some (.slice x.s.D x.e.z.az.length x.s.d):=cc 8 _ rfl;have HCZ:Hid (∀W,Below wr.heap.size wr W→Calls Tryz.prog 29 #[.agg #[I x.e.z.cal.aI, .slice x.s.A x.e.z.cal.aj.length x.s.a,I x.e.z.cal.aY, .slice x.s.B x.e.z.cal.rules.length x.s.b,I x.e.z.start, .slice x.s.C x.e.z.trans.length x.s.c,I x.e.z.hor, .slice x.s.D x.e.z.az.length x.s.d]] W (CzQ W x.e.z)):=
    ae fun W hb=>uj x.e.z x.s W hfl ((HA.out.each x hxm).grow (ah HC.out.up hb))
   have i0:(0:Int)≤(k:Int):=by omega
   have i1:(k:Int)<(n:Int):=by omega
   have hNg:w.heap.size<wr.heap.size:=by omega
   clear cc hkz hd hown2 hfl hxm;have HX:=ae hx;clear hx;go_wp2_with fail;have hk9:k*9+1+8≤n*9:=by omega
   go_region_law (first|(go_simp;go_at_call 29;refine (HCZ.out _ (Below.refl _ _).drew).mono ?_;rintro e w5 ⟨s5,rfl,hown5,hb5⟩;dsimp only [ax];have hs5:=hb5.size;have hc5:w5.cell? ⟨w.heap.size,3,none⟩=some (.slice (some ⟨g,0,none⟩) n c):=(hb5.cell (p:=⟨w.heap.size,3,none⟩) hNg).trans a3;have ML:∀j,w5.cell? ⟨g,j,none⟩=wr.cell? ⟨g,j,none⟩:=fun j=>hb5.cell (p:=⟨g,j,none⟩) hwr;have hf5:∀j,w5.frozen? ⟨g,j,none⟩=false:=fun j=>(hb5.frozen (p:=⟨g,j,none⟩) hwr).trans (fz j);have HW5:=ae hown5;have oN:=ae hb5;clear hown5 hb5 hs5))
   all_goals
    have hO5:w5.ownsRow (w.heap.size+2) 55 9 (.slice (some ⟨g,0,none⟩) n c) n (aP (ys++x::zs.drop (k+1))):=bf mJ.out fun j _ h2=>oN.out.block j h2;have hO6:=Dh (ax x.e.z s5).toList (k*9+1) _ _ hO5;rw [←lW.out,yj ys x _ _,lW.out] at hO6;have hC6:=(HC.out.drew.grow oN.out).puts g (k*9+1) (ax x.e.z s5).toList hg2;have hM6:∀y∈ys++ [(⟨x.e,s5⟩:dA)],Oq (w.heap.size+2) g (w5.setCells g (k*9+1) (ax x.e.z s5).toList) y.s y.e.z:=by
     intro y hy;rcases List.mem_append.1 hy with hy|hy
     ·exact (IY.out y hy).aQ (by rw [xP];exact oN.out.size) fun j _ hj hjg=>(pq _ _ _ _ _ hjg).trans (oN.out.block j hj)
     ·rw [List.mem_singleton.1 hy];exact ((HW5.out.off (g':=g) hwr).lower (by show w.heap.size+2≤wr.heap.size;have:=HC.out.lt;omega)).aQ (by rw [xP];exact Nat.le_refl _) fun j _ _ hjg=>pq _ _ _ _ _ hjg
    have yG:=ae hO6;have rq:=ae hC6;have HM6:=ae hM6;clear hO5 hO6 hC6 hM6 hc5 ML hf5;go_wp2_with fail;go_roundw
    case rel=>
     refine ⟨k+1,ys++ [⟨x.e,s5⟩],by omega,by go_num,by rw [bF,lW.out];rfl,?_,rq.out,by rw [List.append_assoc];exact yG.out,HM6.out⟩;rw [List.map_append,Oe.out,List.take_add_one,HX.out,List.map_append];rfl
    case measure=>simp [intOf];omega
  ·have hkn:k=n:=by omega
   have kY:=ae hkn;have hlt':¬(k:Int)<(n:Int):=by omega
   clear hkn hlt;go_wp2_with (first
    |(with_reducible refine dM 32 ?_;refine aV rfl _ _ rfl w.heap.size rfl (ai t (.slice (some ⟨g,0,none⟩) n c)) HC.out.row _ Tryz.underlying32 rfl (dR.out _) ?_)
    |(with_reducible refine bV 32 ?_;refine wpList_store_row rfl _ _ _ rfl (w.heap.size+1) (ai t (.slice (some ⟨g,0,none⟩) n c)) rfl rfl 32 Tryz.zeroCells32 HC.out.res (dR.out _) (nT.out _) (aT _ _ _ _) ?_))
   refine bodyPost_ret (v:= .agg (ai t (.slice (some ⟨g,0,none⟩) n c))) (results_cell_row rfl _ _ (w.heap.size+1) _ (ai t (.slice (some ⟨g,0,none⟩) n c)) (0,0) _ rfl (setRow_heap _ _ _ _ _ _ HC.out.res) Tryz.underlying32 rfl (dR.out _)) rfl ?_;have hd:ys++zs.drop k=ys:=by rw [List.drop_of_length_le (by rw [HN.out,kY.out];exact Nat.le_refl _),List.append_nil]
   have hrow:=HO.out;rw [hd] at hrow;have hyn:ys.length=n:=lW.out.trans kY.out;have hye:ys.map (·.e)=zs.map (·.e):=by rw [Oe.out,kY.out,List.take_of_length_le (by rw [HN.out];exact Nat.le_refl _)]
   have hrow2:(wr.setRow (w.heap.size+1) (ai t (.slice (some ⟨g,0,none⟩) n c))).ownsRow (w.heap.size+2) 55 9 (.slice (some ⟨g,0,none⟩) n c) n (aP ys):=bf hrow fun j h1 _=>setRow_other _ _ j _ (by omega);refine ⟨⟨t,some ⟨g,0,none⟩,c,ys⟩,rfl,hye,by rw [hyn],⟨H3.out.1.trans hye.symm,H3.out.2.1,H3.out.2.2,(CO.fA hrow2).lower (by omega),hyn.symm▸(CU.fA hrow2).lower (by omega),fun y hy=>?_⟩,below_setRow HC.out.up (Nat.le_succ _) _⟩;exact ((IY.out y hy).aQ (by simp [World.setRow]) fun j h1 _ _=>setRow_other _ _ j _ (by omega)).own.lower (by omega)
theorem Cm (x:fH) (n:Nat) (w:World) (hn:x.zs.length=n) (hn1:n≤1000) (hl:∀y∈x.zs,oU y.e.z) (h:lS w w.heap.size x):
  Calls Tryz.prog 22 #[.agg (ai x.t (.slice x.A n x.c))] w (ClV w x):=by
 obtain ⟨t,A,c,zs⟩:=x;by_cases h0:n=0
 ·subst h0;have hz:zs= []:=List.eq_nil_of_length_eq_zero hn;subst hz;exact Jq t A c h.names h.prev h.bJ w
 ·exact Jn t A c n zs w hl hn (by omega) hn1 h.prev h.bJ h.names h.aK
end Go.Proofs.YtdibbemgpikgjaaGreat
namespace Go.Proofs.YtdibbemgpikgjaaGreat
open Go Go.RowKit
def aF (zs:List Int):Array Value:=(zs.map fun z=>Value.int .u32 z).toArray
theorem dh (zs:List Int):(aF zs).size=zs.length:=by simp [aF]
theorem gU (zs:List Int) (i:Nat) (h:i<zs.length):(aF zs)[i]? =some (.int .u32 (zs[i]?.getD 0)):=by
 simp [aF,h]
theorem Cf (zs:List Int) (i:Nat) (z:Int):(aF zs).setIfInBounds i (.int .u32 z)=aF (zs.set i z):=by
 simp [aF,List.map_set]
theorem jg (zs:List Int):(aF zs).all (·.oneCell')=true:=by
 rw [Array.all_eq_true_iff_forall_mem];intro v hv;simp [aF] at hv;obtain ⟨z,_,rfl⟩:=hv;rfl
section
variable {P:Program} {ops:Array Oper} {Q:Exit→Act→World→Prop} {a:Act} {w:World} {rest:List Oper} {o:Oper}
theorem aN (hg:o.guard=none) (t:TypeId) (ho:o.op= .alloc t) (cells:Array Value) (hz:(P.info? t).map (fun i=>(i.zero,i.size))=some (some (.agg cells),cells.size))
  (h:wpList P ops Q rest (a.put o.dst (.pointer (some ⟨w.heap.size,0,none⟩))) (w.alloc (.cells cells t))):wpList P ops Q (o::rest) a w:=by
 refine wpList_plain hg fun K hK=>?_;unfold Oper.wp execOp;simp only [ho,Sem.run_bind,nD w t (.agg cells) _ hz,Result.andThen_ok];exact hK _ _ h
end
def pX (w:World) (b:Nat) (cs:Array Value):Prop:=b<w.heap.size∧∀i,w.cell? ⟨b,i,none⟩=cs[i]?
section
variable {P:Program} {ops:Array Oper} {Q:Exit→Act→World→Prop} {a:Act} {w:World} {rest:List Oper} {o:Oper}
theorem bG (hw:Region.wanted o (yielded ops a.tmps)=true) (ty:TypeId) (x:Operand) (ho:o.op= .load ty x) (g:Nat) (hx:a.eval x= .pointer (some ⟨g,0,none⟩)) (cs:Array Value) (hr:pX w g cs)
  (d:TypeDesc) (hu:P.underlying ty=some d) (hd:d.isRow=true) (hi:(P.info? ty).map (·.size)=some cs.size)
  (h:wpList P ops Q rest (a.put o.dst (.agg cs)) w):wpList P ops Q (o::rest) a w:=by
 unfold wpList;rw [if_pos hw];have hc:w.rangeAt g 0 cs.toList:=fun j v hv=>by rw [Nat.zero_add,hr.2 j];simpa using hv
 refine .inl (wp_load_mid ty x ho g 0 hx cs.toList d hc hu hd (by rw [hi];simp) ?_);simpa using h
end
theorem aC {B g:Nat} {w0 w:World} (hb:Below B w0 w) (hBg:B≤g) (cs:Array Value):Below B w0 (w.setRow g cs):=
 hb.trans ⟨rfl,rfl,rfl,by simp [World.setRow],fun k hk=>setRow_other w g k cs (by omega)⟩
structure AV (b:Nat) (t:TypeId) (cs:Array Value) (W:World):Prop where
 var:W.heap[b]? =some (.cells cs t (0,0))
section
variable {b g:Nat} {t:TypeId} {cs:Array Value} {W W':World}
theorem AV.lt (h:AV b t cs W):b<W.heap.size:=(bY.1 h.var).1
theorem AV.cell (h:AV b t cs W):∀i,W.cell? ⟨b,i,none⟩=cs[i]? :=fun i=>cell_of_row W _ i _ _ _ h.var
theorem AV.gG (h:AV b t cs W):∀i,W.frozen? ⟨b,i,none⟩=false:=fun i=>frozen_of_row W _ i _ _ h.var
theorem AV.below (h:AV b t cs W) (hb:Below W.heap.size W W'):AV b t cs W':=⟨(hb.block _ h.lt).trans h.var⟩
theorem AV.put (h:AV b t cs W) (o:Nat) (v:Value):AV b t (cs.setIfInBounds o v) (W.setCell ⟨b,o,none⟩ v):=⟨heap_setCell_same W _ o _ _ _ h.var⟩
theorem AV.far (h:AV b t cs W) (hn:b≠g) (o:Nat) (v:Value):AV b t cs (W.setCell ⟨g,o,none⟩ v):=⟨(heap_setCell_other W _ b v hn).trans h.var⟩
theorem AV.drew (h:AV b t cs W):AV b t cs W.drew:=⟨h.var⟩
theorem AV.new (W:World) (cs:Array Value) (t:TypeId):AV W.heap.size t cs (W.alloc (.cells cs t)):=⟨heap_alloc_last W _⟩
end
theorem zX:(Tryz.prog.info? 209).map (fun i=>(i.zero,i.size))=some (some (.agg (aF (List.replicate 64 0))),(aF (List.replicate 64 0)).size):=by kernel_rfl
section
variable {P:Program} {ops:Array Oper} {o:Oper} {a:Act} {w:World} {K:Act→World→Prop} {Q:Exit→Act→World→Prop} {E:Prop}
theorem jD (hgd:o.guard=none) (t:TypeId) (ho:o.op= .alloc t) (cells:Array Value) (hz:(P.info? t).map (fun i=>(i.zero,i.size))=some (some (.agg cells),cells.size))
  (h:K (a.put o.dst (.pointer (some ⟨w.heap.size,0,none⟩))) (w.alloc (.cells cells t))):if Region.wanted o (yielded ops a.tmps)=true then Oper.wp P o a w K Q else E:=by
 have hw:Region.wanted o (yielded ops a.tmps)=true:=by simp [Region.wanted,hgd]
 rw [if_pos hw];unfold Oper.wp execOp;simp only [ho,Sem.run_bind,nD w t (.agg cells) _ hz,Result.andThen_ok];exact h
theorem jE (hgd:o.guard=none) (ty:TypeId) (x y:Operand) (ho:o.op= .store ty x y) (g:Nat) (cells:Array Value) (hx:a.eval x= .pointer (some ⟨g,0,none⟩)) (hy:a.eval y= .agg cells)
  (t:TypeId) (old:Array Value) (hg:w.heap[g]? =some (.cells old t (0,0))) (hi:(P.info? ty).map (·.size)=some cells.size) (hold:old.size=cells.size) (h1:cells.all (·.oneCell')=true)
  (h:K (a.put o.dst undef) (w.setRow g cells)):if Region.wanted o (yielded ops a.tmps)=true then Oper.wp P o a w K Q else E:=by
 have hw:Region.wanted o (yielded ops a.tmps)=true:=by simp [Region.wanted,hgd]
 rw [if_pos hw];exact wp_store_row ty x y ho g cells hx hy t old hg hi hold h1 h
end
section
variable {P:Program} {ops:Array Oper} {rest:List Oper} {o:Oper} {a:Act} {w:World} {Q:Exit→Act→World→Prop}
theorem cZ {ob:Obj} (hgd:o.guard=none) (ty:TypeId) (x y:Operand) (ho:o.op= .store ty x y) (cells:Array Value) (hx:a.eval x= .pointer (some ⟨w.heap.size,0,none⟩)) (hy:a.eval y= .agg cells) (t:TypeId) (old:Array Value) (hob:ob= .cells old t (0,0)) (hi:(P.info? ty).map (·.size)=some cells.size) (hold:old.size=cells.size) (h1:cells.all (·.oneCell')=true)
  (h:∀W,Below w.heap.size w W→w.heap.size<W.heap.size→Row W w.heap.size cells→wpList P ops Q rest (a.put o.dst undef) W):wpList P ops Q (o::rest) a (w.alloc ob):=by
 subst hob;refine wpList_store_row hgd ty x y ho w.heap.size cells hx hy t old (heap_alloc_last w _) hi hold h1 (h _ (below_setRow (ag w _) (Nat.le_refl _) _) (by simp [World.setRow]) (Row.kF (setRow_heap _ _ _ _ _ _ (heap_alloc_last w _))))
end
theorem dL (w:World) (t:TypeId) (cs:Array Value) (l:List Value) (h:cs.toList=l):∀j u,l[j]? =some u→(w.alloc (.cells cs t)).cell? ((⟨w.heap.size,0,none⟩:Addr).add j)=some u:=by
 intro j u hu;rw [addr_add,cell_of_row _ _ j _ _ _ (heap_alloc_last w _),←Array.getElem?_toList,h];exact hu
theorem own_below {w w':World} {base e size n:Nat} {v:Value} {xs:List Value} (h:w.ownsRow base e size v n xs) (hb:Below w.heap.size w w'):w'.ownsRow base e size v n xs:=
 World.ownsRow.kept (row:=none) h ⟨hb.os,hb.tape,hb.output,hb.size,fun k hk _=>hb.block k hk⟩ (by cases v.ownBlock<;>simp)
theorem Vf {P:Program} {ops:Array Oper} {Q:Exit→Act→World→Prop} {md:Region.Mode} {S:World→Prop} {i:Nat} {oi:Oper} {v:Value} {d:Tmp} {fuel:Nat} {listed:Array Bool} {a:Act} {w:World} (hi:ops[i]? =some oi) (hd:oi.dst=some d)
  (hs:Region.noSelect ops=true) (hf:Region.free md ops listed i=true) (hr:(Region.ready md ops listed).contains i=true)
  (hQ:∀c a w,Q (.panic c) (a.put oi.dst v) w→Q (.panic c) a w) (hy:YieldsIf P ops S oi v a) (hS:S w)
  (h:wpAnyH P md ops Q S fuel (listed.setIfInBounds i true) (a.put (some d) v) w):wpAnyH P md ops Q S (fuel+1) listed a w:=
 wpAnyH_take hi hs hf hr hQ hy hS (by rw [hd];exact h)
theorem df {P:Program} {ops:Array Oper} {S:World→Prop} {op:Oper} {a:Act} (hw:Region.wanted op (yielded ops a.tmps)=true) (t:TypeId) (parts:Array (Nat×Operand)) (ho:op.op= .build t parts) (cells:Array Value)
  (hb:P.built t (parts.map fun (i,x)=>(i,a.eval x)).toList=some cells):YieldsIf P ops S op (.agg cells) a:=
 .inl ⟨hw,fun w _=>by
  unfold execOp;simp only [ho,Sem.run_bind,run_build w t _ cells hb,Result.andThen_ok];rfl⟩
theorem oV (W:World) (o:Obj):(W.alloc o).heap.size=W.heap.size+1:=by simp
def LV (lo:Nat) (v:Value) (W:World) (A:Option Addr) (cs:List Value):Prop:=
 cs.length=0∨∃b off,A=some ⟨b,off,none⟩∧lo≤b∧b<W.heap.size∧some b≠v.ownBlock∧∀j u,cs[j]? =some u→W.cell? ⟨b,off+j,none⟩=some u
theorem LV.keep {lo:Nat} {v v':Value} {W W':World} {A:Option Addr} {cs:List Value} (h:LV lo v W A cs) (hs:W.heap.size≤W'.heap.size) (hb:∀b,lo≤b→b<W.heap.size→some b≠v.ownBlock→W'.heap[b]? =W.heap[b]? ∧some b≠v'.ownBlock):LV lo v' W' A cs:=by
 rcases h with h|⟨b,off,h1,h2,h3,h4,h5⟩
 ·exact .inl h
 ·exact .inr ⟨b,off,h1,h2,by omega,(hb b h2 h3 h4).2,fun j u hu=>(World.cell?_of_block (a:=⟨b,off+j,none⟩) (hb b h2 h3 h4).1).trans (h5 j u hu)⟩
theorem LV.at {lo:Nat} {v:Value} {W:World} {A:Option Addr} {cs:List Value} (h:LV lo v W A cs):aB W W.heap.size A cs:=by
 rcases h with h|⟨b,off,h1,h2,h3,h4,h5⟩
 ·exact .inl h
 ·exact .inr ⟨b,off,h1,h3,h5⟩
def gQ (lo:Nat) (v:Value) (W:World) (s:Zs) (z:Zn):Prop:=LV lo v W s.A (z.cal.aj.map I)∧LV lo v W s.B (z.cal.rules.flatMap Lr.cells)∧LV lo v W s.C (z.trans.flatMap Tr.cells)∧LV lo v W s.D (z.az.flatMap Yr.cells)
theorem gQ.keep {lo:Nat} {v v':Value} {W W':World} {s:Zs} {z:Zn} (h:gQ lo v W s z) (hs:W.heap.size≤W'.heap.size) (hb:∀b,lo≤b→b<W.heap.size→some b≠v.ownBlock→W'.heap[b]? =W.heap[b]? ∧some b≠v'.ownBlock):gQ lo v' W' s z:=
 ⟨h.1.keep hs hb,h.2.1.keep hs hb,h.2.2.1.keep hs hb,h.2.2.2.keep hs hb⟩
theorem gQ.at {lo:Nat} {v:Value} {W:World} {s:Zs} {z:Zn} (h:gQ lo v W s z):jR W W.heap.size s z:=⟨h.1.at,h.2.1.at,h.2.2.1.at,h.2.2.2.at⟩
def jd (lo:Nat) (v:Value) (W:World) (y:fH):Prop:=LV lo v W y.A (aP y.zs)∧∀z∈y.zs,gQ lo v W z.s z.e.z
theorem jd.keep {lo:Nat} {v v':Value} {W W':World} {y:fH} (h:jd lo v W y) (hs:W.heap.size≤W'.heap.size) (hb:∀b,lo≤b→b<W.heap.size→some b≠v.ownBlock→W'.heap[b]? =W.heap[b]? ∧some b≠v'.ownBlock):jd lo v' W' y:=
 ⟨h.1.keep hs hb,fun z hz=>(h.2 z hz).keep hs hb⟩
theorem X5 (y:fH):∀u∈y.cells,u.oneCell'=true:=by
 have h:=aT y.t y.A y.zs.length y.c;rw [Array.all_eq_true_iff_forall_mem] at h;intro u hu;exact h u (by simpa [ai,fH.cells] using hu)
theorem AV.oH {b:Nat} {t:TypeId} {cs:Array Value} {W:World} (h:AV b t cs W) (ds:Array Value):AV b t ds (W.setRow b ds):=⟨setRow_heap _ _ _ _ _ _ h.var⟩
theorem AV.qW {b c:Nat} {t:TypeId} {cs:Array Value} {W:World} (h:AV b t cs W) (hn:b≠c) (ds:Array Value):AV b t cs (W.setRow c ds):=⟨(setRow_other _ _ b _ hn).trans h.var⟩
theorem AV.lu {b:Nat} {t:TypeId} {cs:Array Value} {W:World} (h:AV b t cs W):pX W b cs:=⟨h.lt,h.cell⟩
structure iR (c:Cal):Prop where
 ep:0≤c.aI∧c.aI≤100
 mo:c.aj.length=2
 all:∀x∈c.aj,6≤x∧x≤8
 le: -1≤c.aY∧c.aY<2
 ru:c.rules.length≤1
 nl:c.aY= -1→c.rules.length=0
 rl:∀r∈c.rules,r.every=2∧0≤r.rest∧r.rest<2
structure oC (w:World) (B:Nat) (A:Option Addr) (R:Option Addr) (c:Cal):Prop where
 aj:aB w B A (c.aj.map I)
 rules:aB w B R (c.rules.flatMap Lr.cells)
theorem oC.grow {w w':World} {A R:Option Addr} {c:Cal} (h:oC w w.heap.size A R c) (hb:Below w.heap.size w w'):oC w' w'.heap.size A R c:=⟨h.aj.grow hb,h.rules.grow hb⟩
theorem Zb (w:World):Calls Tryz.prog 110 #[I 1,I 2] w fun e w'=>e= .returned (I 1)∧w'=w:=by
 go_enter Tryz.func110,Tryz.ntmps110;go_wp2_with fail
 go_loopw [0,1] (fun a b wr=>wr=w∧((a=I 1∧b=I 2)∨(a=I 2∧b=I 1)∨(a=I 1∧b=I 0))) (fun _ b _=>(intOf b).toNat)
 case atStart=>exact ⟨rfl, .inl ⟨rfl,rfl⟩⟩
 case round=>
  obtain ⟨rfl,⟨rfl,rfl⟩|⟨rfl,rfl⟩|⟨rfl,rfl⟩⟩:=hrel
  ·go_wp2_with fail;go_roundw
   case rel=>exact ⟨by first|trivial|rfl, .inr (.inl ⟨by first|trivial|rfl,by first|trivial|rfl⟩)⟩
   case measure=>simp [intOf]
  ·go_wp2_with fail;go_roundw
   case rel=>exact ⟨by first|trivial|rfl, .inr (.inr ⟨by first|trivial|rfl,by first|trivial|rfl⟩)⟩
   case measure=>simp [intOf]
  ·go_wp2_with fail;go_ret;exact ⟨rfl,rfl⟩
structure kT (w:World) (cs:Array Value) (W:World):Prop where
 row:Row W w.heap.size cs
 up:Below w.heap.size w W
theorem kT.grow {w W W':World} {cs:Array Value} (h:kT w cs W) (hb:Below W.heap.size W W'):kT w cs W':=⟨h.row.keep hb,ah h.up hb⟩
theorem kT.start (w:World) (cs:Array Value) (t:TypeId):kT w cs (w.alloc (.cells cs t)):=⟨Row.new w cs t,ag w _⟩
theorem iR.form {c:Cal} (hc:iR c):∃ep m0 m1 lp rs,c=⟨ep,[m0,m1],lp,rs⟩∧(0≤ep∧ep≤100)∧(6≤m0∧m0≤8)∧(6≤m1∧m1≤8)∧(-1≤lp∧lp<2)∧(rs= []∨∃q y,rs= [⟨2,q,y⟩]∧0≤q∧q<2∧lp≠ -1):=by
 obtain ⟨ep,mo,lp,rs⟩:=c;obtain ⟨h1,h2,h3,h4,h5,h6,h7⟩:=hc;simp only at h1 h2 h3 h4 h5 h6 h7
 match mo,h2 with
 | [m0,m1],_=>
  refine ⟨ep,m0,m1,lp,rs,rfl,h1,h3 m0 (by simp),h3 m1 (by simp),h4,?_⟩
  match rs,h5 with
  | [],_=>exact .inl rfl
  | [⟨e,q,y⟩],_=>
   obtain ⟨z1,z2,z3⟩:=h7 ⟨e,q,y⟩ (by simp);simp only at z1 z2 z3;subst z1;exact .inr ⟨q,y,rfl,z2,z3,fun e=>by have:=h6 e;simp at this⟩
theorem oC.two {w W:World} {A R:Option Addr} {ep m0 m1 lp:Int} {rs:List Lr} (h:oC w w.heap.size A R ⟨ep,[m0,m1],lp,rs⟩) (hb:Below w.heap.size w W):∃b off,A=some ⟨b,off,none⟩∧W.cell? ⟨b,off,none⟩=some (I m0)∧W.cell? ⟨b,off+1,none⟩=some (I m1):=by
 obtain ⟨b,off,e,hb1,hcl⟩:=h.aj.there (by simp);exact ⟨b,off,e,(hb.cell (p:=⟨b,off,none⟩) hb1).trans (hcl 0 _ rfl),(hb.cell (p:=⟨b,off+1,none⟩) hb1).trans (hcl 1 _ rfl)⟩
theorem oC.one {w W:World} {A R:Option Addr} {ep m0 m1 lp q:Int} {y:Bool} (h:oC w w.heap.size A R ⟨ep,[m0,m1],lp,[⟨2,q,y⟩]⟩) (hb:Below w.heap.size w W):∃b off,R=some ⟨b,off,none⟩∧W.cell? ⟨b,off,none⟩=some (I 2)∧W.cell? ⟨b,off+1,none⟩=some (I q)∧W.cell? ⟨b,off+2,none⟩=some (.bool y):=by
 obtain ⟨b,off,e,hb1,hcl⟩:=h.rules.there (by simp [Lr.cells]);exact ⟨b,off,e,(hb.cell (p:=⟨b,off,none⟩) hb1).trans (hcl 0 _ rfl),(hb.cell (p:=⟨b,off+1,none⟩) hb1).trans (hcl 1 _ rfl),(hb.cell (p:=⟨b,off+2,none⟩) hb1).trans (hcl 2 _ rfl)⟩
theorem jk (c:Cal) (A R:Option Addr) (a r:Nat) (w:World) (hc:iR c) (h:oC w w.heap.size A R c):Calls Tryz.prog 93 #[.agg (aG c A a R r)] w (Gives (.bool true) w):=by
 obtain ⟨ep,m0,m1,lp,rs,rfl,⟨b1,b1'⟩,⟨b2,b2'⟩,⟨b3,b3'⟩,⟨b4,b4'⟩,hrs⟩:=hc.form;have HH:=ae h;clear hc h;unfold aG;simp only;have q5:¬ep<0:=by omega
 have q6:¬(1048576:Int)<ep:=by omega
 have q7:¬lp< -1:=by omega
 have q8:¬(2:Int)≤lp:=by omega
 have y1:¬m0<1:=by omega
 have y2:¬(40:Int)<m0:=by omega
 have y3:¬m1<1:=by omega
 have y4:¬(40:Int)<m1:=by omega
 clear b1 b1' b2 b2' b3 b3' b4 b4';rcases hrs with rfl|⟨q,yy,rfl,q1,q2,q3⟩
 ·have HV:=ae (kT.start w #[I ep, .slice A 2 a,I lp, .slice R 0 r] 47);have hl:(lp== -1)=true∨(lp== -1)=false:=by cases (lp== -1)<;>simp
  rcases hl with hl|hl
  all_goals
   go_enter Tryz.func93,Tryz.ntmps93;go_wp2_with fail;generalize w.alloc (.cells #[I ep, .slice A 2 a,I lp, .slice R 0 r] 47)=W0 at HV ⊢;obtain ⟨b,off,rfl,c0,c1⟩:=HH.out.two HV.out.up;have v1:W0.cell? ⟨w.heap.size,1,none⟩=some (.slice (some ⟨b,off,none⟩) 2 a):=HV.out.row.2 1;have v3:W0.cell? ⟨w.heap.size,3,none⟩=some (.slice R 0 r):=HV.out.row.2 3
   go_rounds 3
   go_rounds 1
   go_ret;exact ⟨rfl,HV.out.up⟩
 ·have HV:=ae (kT.start w #[I ep, .slice A 2 a,I lp, .slice R 1 r] 47);have hl:(lp== -1)=false:=by simp [q3]
  have q4:¬(2:Int)≤q:=by omega
  have q1':¬q<0:=by omega
  clear q1 q2 q3;go_enter Tryz.func93,Tryz.ntmps93;go_wp2_with fail;generalize w.alloc (.cells #[I ep, .slice A 2 a,I lp, .slice R 1 r] 47)=W0 at HV ⊢;obtain ⟨b,off,rfl,c0,c1⟩:=HH.out.two HV.out.up;obtain ⟨bb,Xz,rfl,d0,d1,d2⟩:=HH.out.one HV.out.up;have v1:W0.cell? ⟨w.heap.size,1,none⟩=some (.slice (some ⟨b,off,none⟩) 2 a):=HV.out.row.2 1;have v3:W0.cell? ⟨w.heap.size,3,none⟩=some (.slice (some ⟨bb,Xz,none⟩) 1 r):=HV.out.row.2 3
  go_rounds 3
  clear v1 c0 c1;have hlt0:w.heap.size<W0.heap.size:=HV.out.row.1;refine wp_loop_rounds 2 ?_;rw [rounds_succ];go_wp2_with fail
  go_region_law (go_simp;go_at_call 110;refine (Zb _).mono ?_;rintro e w6 ⟨rfl,rfl⟩)
  all_goals
   go_wp2_with fail;rw [rounds_succ];go_wp2_with fail;go_ret;exact ⟨rfl,(HV.out.grow (ag W0 _)).up.drew⟩
end Go.Proofs.YtdibbemgpikgjaaGreat
