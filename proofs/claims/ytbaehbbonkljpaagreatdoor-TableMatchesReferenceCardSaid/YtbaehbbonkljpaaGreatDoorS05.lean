/- The texts Pd, Pg, Ph, in this order. -/
import Derived.Test.YtbaehbbonkljpaaGreatDoorS00
import Derived.Test.YtbaehbbonkljpaaGreatDoorS04
set_option maxRecDepth 10000
set_option maxHeartbeats 8000000
namespace Go.Proofs.YtbaehbbonkljpaaGreatDoor
open Go Go.RowKit
def CO (lo:Nat) (w:World) (A:Option Addr) (cs:List Value):Prop:=
 cs.length=0\/∃b off,A=some ⟨b,off,none⟩/\lo<=b/\b<w.heap.size/\∀j u,cs[j]? =some u->w.cell? ⟨b,off+j,none⟩=some u
structure Rz (lo:Nat) (w:World) (s:Zs) (z:Zn):Prop where
 au:CO lo w s.A (z.cal.au.map I)
 rules:CO lo w s.B (z.cal.rules.flatMap Lr.cells)
 trans:CO lo w s.C (z.trans.flatMap Tr.cells)
 aH:CO lo w s.D (z.aH.flatMap Yr.cells)
def CU (lo:Nat) (w:World) (A:Option Addr) (n:Nat):Prop:=
 n=0\/∃b off,A=some ⟨b,off,none⟩/\lo<=b/\b<w.heap.size/\∀j,w.frozen? ⟨b,off+j,none⟩=false
structure tq (lo:Nat) (w:World) (A:Option Addr) (zs:List dw):Prop where
 row:CO lo w A (aU zs)
 free:CU lo w A zs.length
 each:∀x∈zs,Rz lo w x.s x.e.z
structure SN (lo:Nat) (w:World) (x:dF):Prop where
 names:x.t.aF=x.zs.map (·.e)
 prev:x.t.prev.length=32
 bP:x.t.bP.length=32
 aF:tq lo w x.A x.zs
section
variable {lo lo' g:Nat} {w w':World} {A:Option Addr} {cs:List Value} {s:Zs} {z:Zn} {zs:List dw} {x:dF}
theorem CX.own (h:CX lo g w A cs):CO lo w A cs:=h.imp id fun ⟨b,off,h1,h2,h3,_,h5⟩=>⟨b,off,h1,h2,h3,h5⟩
theorem CO.aK (h:CO lo w A cs) (hs:w.heap.size<=w'.heap.size) (hb:∀k,lo<=k->k<w.heap.size->w'.heap[k]? =w.heap[k]?):CO lo w' A cs:=
 h.imp id fun ⟨b,off,h1,h2,h3,h5⟩=>⟨b,off,h1,h2,dP h3 hs,fun j u hu=>(World.cell?_of_block (a:=⟨b,off+j,none⟩) (hb b h2 h3)).trans (h5 j u hu)⟩
theorem CO.lower (h:CO lo w A cs) (hl:lo'<=lo):CO lo' w A cs:=h.imp id fun ⟨b,off,h1,h2,h3,h5⟩=>⟨b,off,h1,by omega,h3,h5⟩
theorem CU.aK {n:Nat} (h:CU lo w A n) (hs:w.heap.size<=w'.heap.size) (hb:∀k,lo<=k->k<w.heap.size->w'.heap[k]? =w.heap[k]?):CU lo w' A n:=
 h.imp id fun ⟨b,off,h1,h2,h3,h5⟩=>⟨b,off,h1,h2,dP h3 hs,fun j=>(World.frozen?_of_block (a:=⟨b,off+j,none⟩) (hb b h2 h3)).trans (h5 j)⟩
theorem CU.lower {n:Nat} (h:CU lo w A n) (hl:lo'<=lo):CU lo' w A n:=h.imp id fun ⟨b,off,h1,h2,h3,h5⟩=>⟨b,off,h1,by omega,h3,h5⟩
theorem CO.at (h:CO lo w A cs):aA w w.heap.size A cs:=h.imp id fun ⟨b,off,h1,_,h3,h5⟩=>⟨b,off,h1,h3,h5⟩
theorem KH.own (h:KH lo g w s z):Rz lo w s z:=⟨h.au.own,h.rules.own,h.trans.own,h.aH.own⟩
theorem Rz.aK (h:Rz lo w s z) (hs:w.heap.size<=w'.heap.size) (hb:∀k,lo<=k->k<w.heap.size->w'.heap[k]? =w.heap[k]?):Rz lo w' s z:=⟨h.au.aK hs hb,h.rules.aK hs hb,h.trans.aK hs hb,h.aH.aK hs hb⟩
theorem Rz.lower (h:Rz lo w s z) (hl:lo'<=lo):Rz lo' w s z:=⟨h.au.lower hl,h.rules.lower hl,h.trans.lower hl,h.aH.lower hl⟩
theorem Rz.at (h:Rz lo w s z):iP w w.heap.size s z:=⟨h.au.at,h.rules.at,h.trans.at,h.aH.at⟩
theorem tq.aK (h:tq lo w A zs) (hs:w.heap.size<=w'.heap.size) (hb:∀k,lo<=k->k<w.heap.size->w'.heap[k]? =w.heap[k]?):tq lo w' A zs:=⟨h.row.aK hs hb,h.free.aK hs hb,fun x hx=>(h.each x hx).aK hs hb⟩
theorem tq.lower (h:tq lo w A zs) (hl:lo'<=lo):tq lo' w A zs:=⟨h.row.lower hl,h.free.lower hl,fun x hx=>(h.each x hx).lower hl⟩
theorem tq.at (h:tq lo w A zs):kz w w.heap.size A zs:=⟨h.row.at,fun x hx=>(h.each x hx).at⟩
theorem SN.aK (h:SN lo w x) (hs:w.heap.size<=w'.heap.size) (hb:∀k,lo<=k->k<w.heap.size->w'.heap[k]? =w.heap[k]?):SN lo w' x:=⟨h.names,h.prev,h.bP,h.aF.aK hs hb⟩
theorem SN.lower (h:SN lo w x) (hl:lo'<=lo):SN lo' w x:=⟨h.names,h.prev,h.bP,h.aF.lower hl⟩
theorem SN.at (h:SN lo w x):fV w w.heap.size x:=⟨h.names,h.prev,h.bP,h.aF.at⟩
theorem CO.dR {e size n c:Nat} (h:w.ownsRow lo e size (.slice A n c) n cs):CO lo w A cs:=by
 rcases h.2 with ⟨hv,hn⟩|⟨b,cap,cur,hv,hb,hh,_⟩
 ·refine .inl ?_;rw [h.1,hn,Nat.zero_mul]
 ·injection hv with h1 _ _;subst h1;exact .inr ⟨b,0,rfl,hb,(bV.1 hh).1,fun j u hu=>by rw [Nat.zero_add,<-addr_add];exact h.cells (g:=b) rfl j u hu⟩
theorem CU.dR {e size n c:Nat} (h:w.ownsRow lo e size (.slice A n c) n cs):CU lo w A n:=by
 rcases h.2 with ⟨_,hn⟩|⟨b,cap,cur,hv,hb,hh,_⟩
 ·exact .inl hn
 ·injection hv with h1 _ _;subst h1;exact .inr ⟨b,0,rfl,hb,(bV.1 hh).1,fun j=>frozen_of_row w b _ _ _ hh⟩
end
def ClV (w:World) (x:dF) (e:Ending) (w':World):Prop:=
 ∃y:dF,y.t=x.t/\y.zs.map (·.e)=x.zs.map (·.e)/\e= .returned (.agg (ai y.t (.slice y.A y.zs.length y.c)))/\SN w.heap.size w' y/\Below w.heap.size w w'
def CvRel (w:World) (t:Tb) (g n c:Nat) (zs:List dw) (i:Value) (wr:World):Prop:=
 ∃(k:Nat) (ys:List dw),k<=n/\i= .int .i64 k/\ys.length=k/\ys.map (·.e)=(zs.take k).map (·.e)/\DC w t (.slice (some ⟨g,0,none⟩) n c) wr/\
  wr.ownsRow (w.heap.size+2) 76 9 (.slice (some ⟨g,0,none⟩) n c) n (aU (ys++zs.drop k))/\∀y∈ys,KH (w.heap.size+2) g wr y.s y.e.z
attribute [local go_sem] ja jb jc bC
theorem I5 (t:Tb) (A0:Option Addr) (c0:Nat) (hz:t.aF= []) (h32:t.prev.length=32) (hm:t.bP.length=32) (w:World):Calls Tryz.prog 36 #[.agg (ai t (.slice A0 0 c0))] w (ClV w ⟨t,A0,c0,[]⟩):=by
 have HS:=ae (DC.start w t (.slice A0 0 c0));have dU:Hid (∀v,(Tryz.prog.info? 26).map (·.size)=some (ai t v).size):=ae fun v=>bD t v h32 hm;have qm:Hid (∀v,Tryz.zeroCells26.size=(ai t v).size):=ae fun v=>(by rw [bf _ _ h32 hm];kernel_rfl);have H3:Hid (t.aF= []/\t.prev.length=32/\t.bP.length=32):=ae ⟨hz,h32,hm⟩;clear hz h32 hm;go_enter Tryz.func36,Tryz.ntmps36;go_wp2_with fail;generalize (w.alloc (.cells (ai t (.slice A0 0 c0)) 26)).alloc (.cells Tryz.zeroCells26 26)=W1 at HS ⊢;have hl0:=HS.out.lt;refine (show Calls Tryz.prog _ _ W1 _ from Oq A0 c0 0 [] W1 .nil rfl (fun _ h=>nomatch h) (by omega)).mono ?_;rintro e w2 ⟨A,c,rfl,hown,hb2⟩;have HS2:=ae (HS.out.grow hb2);have hr2:=HS2.out.row.2;have hf2:∀i,w2.frozen? ⟨w.heap.size,i,none⟩=false:=fun i=>frozen_of_row _ _ i _ _ HS2.out.var;have oz:=ae (HS2.out.store (.slice A 0 c));clear hown hb2 HS hl0;go_wp2_with fail;generalize w2.setCell ⟨w.heap.size,3,none⟩ (.slice A 0 c)=w3 at oz ⊢;clear hr2 hf2
 go_loopw [11] (fun i wr=>i= .int .i64 0/\DC w t (.slice A 0 c) wr) (fun _ _=>0)
 case atStart=>exact ⟨rfl,oz.out⟩
 case round=>
  obtain ⟨rfl,hs⟩:=hrel;have HC:=ae hs;clear hs oz;go_wp2_with (first
   |(with_reducible refine dY 26 ?_;refine aJ rfl _ _ rfl w.heap.size rfl (ai t (.slice A 0 c)) HC.out.row _ Tryz.underlying26 rfl (dU.out _) ?_)
   |(with_reducible refine bY 26 ?_;refine wpList_store_row rfl _ _ _ rfl (w.heap.size+1) (ai t (.slice A 0 c)) rfl rfl 26 Tryz.zeroCells26 HC.out.res (dU.out _) (qm.out _) (aT _ _ _ _) ?_))
  refine bodyPost_ret (v:= .agg (ai t (.slice A 0 c))) (results_cell_row rfl _ _ (w.heap.size+1) _ (ai t (.slice A 0 c)) (0,0) _ rfl (setRow_heap _ _ _ _ _ _ HC.out.res) Tryz.underlying26 rfl (dU.out _)) rfl ?_;exact ⟨⟨t,A,c,[]⟩,rfl,rfl,rfl,⟨H3.out.1,H3.out.2.1,H3.out.2.2, .inl rfl, .inl rfl,fun _ hx=>nomatch hx⟩,below_setRow HC.out.up (Nat.le_succ _) _⟩
theorem I4 (t:Tb) (A0:Option Addr) (c0 n:Nat) (zs:List dw) (w:World) (hz:∀x∈zs,jB x.e.z) (hn:zs.length=n) (hn0:0<n) (hn1:n<=1000) (h32:t.prev.length=32) (hm:t.bP.length=32) (hzz:t.aF=zs.map (·.e))
  (hA:kz w w.heap.size A0 zs):
  Calls Tryz.prog 36 #[.agg (ai t (.slice A0 n c0))] w (ClV w ⟨t,A0,c0,zs⟩):=by
 have HS:=ae (DC.start w t (.slice A0 n c0));have dU:Hid (∀v,(Tryz.prog.info? 26).map (·.size)=some (ai t v).size):=ae fun v=>bD t v h32 hm;have qm:Hid (∀v,Tryz.zeroCells26.size=(ai t v).size):=ae fun v=>(by rw [bf _ _ h32 hm];kernel_rfl);have HZ:=ae hz;have HN:=ae hn;have HA:=ae hA;have H3:Hid (t.aF=zs.map (·.e)/\t.prev.length=32/\t.bP.length=32):=ae ⟨hzz,h32,hm⟩;clear hz hn hA hzz h32 hm;go_enter Tryz.func36,Tryz.ntmps36;go_wp2_with fail;generalize (w.alloc (.cells (ai t (.slice A0 n c0)) 26)).alloc (.cells Tryz.zeroCells26 26)=W1 at HS ⊢;have hl0:=HS.out.lt;refine (show Calls Tryz.prog _ _ W1 _ from Oq A0 c0 n (aU zs) W1 ((HA.out.row.keep HS.out.up).more HS.out.up.size) (by rw [dX,HN.out]) (Dt zs) (by omega)).mono ?_;rintro e w2 ⟨A',c,rfl,hown,hb2⟩;obtain ⟨g,c',hv,_⟩:=gG hown hn0;injection hv with hv1 _ hv3;subst hv1 hv3;have HS2:=ae (HS.out.grow hb2);have hr2:=HS2.out.row.2;have hf2:∀i,w2.frozen? ⟨w.heap.size,i,none⟩=false:=fun i=>frozen_of_row _ _ i _ _ HS2.out.var;have hg1:=jC hown;have oz:=ae (HS2.out.store (.slice (some ⟨g,0,none⟩) n c));have tX:=ae (eP (u:= .slice (some ⟨g,0,none⟩) n c) (p:=⟨w.heap.size,3,none⟩) (aX hown (base':=w.heap.size+2) (by omega)) (by intro h;injection h with h;simp only at h;omega));have hg2:w.heap.size+2<=g:=by omega
 clear hown hb2 HS hl0 hg1;go_wp2_with fail;generalize w2.setCell ⟨w.heap.size,3,none⟩ (.slice (some ⟨g,0,none⟩) n c)=w3 at oz tX ⊢;clear hr2 hf2
 go_loopw [11] (fun i wr=>CvRel w t g n c zs i wr) (fun i _=>n - (intOf i).toNat)
 case atStart=>exact ⟨0,[],Nat.zero_le _,rfl,rfl,rfl,oz.out,tX.out,fun _ h=>nomatch h⟩
 case round=>
  obtain ⟨k,ys,hk,rfl,hyl,hye,hcs,hown,hym⟩:=hrel;have HC:=ae hcs;have HO:=ae hown;have ZP:=ae hye;have Xh:=ae hym;have qo:=ae hyl;clear hcs hown hye hym hyl oz tX;by_cases hlt:k<n
  ·have hkz:k<zs.length:=by rw [HN.out];exact hlt
   obtain ⟨x,hx⟩:∃x,zs[k]? =some x:=⟨_,bK hkz⟩;have hd:zs.drop k=x::zs.drop (k+1):=by
    rw [List.drop_eq_getElem_cons hkz];rw [bK hkz] at hx;injection hx with hx;rw [hx]
   have hown2:=HO.out;rw [hd] at hown2;have rD:=ae hown2;have hxm:=gZ hx;have hfl:=HZ.out x hxm;have cc:∀j u,x.cells[j]? =some u->wr.cell? ⟨g,k*9+j,none⟩=some u:=fun j u hu=>by
    have hj:j<9:=(bV.1 hu).1;refine pJ hown2 _ _ ?_;rw [lG _ k j x (by rw [List.getElem?_append_right (by have:=qo.out;omega),qo.out];simp) hj];exact hu
   have hwr:g<wr.heap.size:=(jC hown2).2;have fz:∀j,wr.frozen? ⟨g,j,none⟩=false:=Cf hown2;have a3:wr.cell? ⟨w.heap.size,3,none⟩=some (.slice (some ⟨g,0,none⟩) n c):=(HC.out.row.2 3).trans rfl;have z0:wr.cell? ⟨g,k*9+1,none⟩=some (I x.e.z.cal.bn):=cc 1 _ rfl;have z1:wr.cell? ⟨g,k*9+2,none⟩=some (.slice x.s.A x.e.z.cal.au.length x.s.a):=cc 2 _ rfl;have z2:wr.cell? ⟨g,k*9+3,none⟩=some (I x.e.z.cal.dA):=cc 3 _ rfl;have z3:wr.cell? ⟨g,k*9+4,none⟩=some (.slice x.s.B x.e.z.cal.rules.length x.s.b):=cc 4 _ rfl;have z4:wr.cell? ⟨g,k*9+5,none⟩=some (I x.e.z.start):=cc 5 _ rfl;have z5:wr.cell? ⟨g,k*9+6,none⟩=some (.slice x.s.C x.e.z.trans.length x.s.c):=cc 6 _ rfl;have z6:wr.cell? ⟨g,k*9+7,none⟩=some (I x.e.z.hor):=cc 7 _ rfl;have z7:wr.cell? ⟨g,k*9+8,none⟩=some (.slice x.s.D x.e.z.aH.length x.s.d):=cc 8 _ rfl;have WJ:Hid (∀W,Below wr.heap.size wr W->Calls Tryz.prog 49 #[.agg #[I x.e.z.cal.bn, .slice x.s.A x.e.z.cal.au.length x.s.a,I x.e.z.cal.dA, .slice x.s.B x.e.z.cal.rules.length x.s.b,I x.e.z.start, .slice x.s.C x.e.z.trans.length x.s.c,I x.e.z.hor, .slice x.s.D x.e.z.aH.length x.s.d]] W (CzQ W x.e.z)):=
    ae fun W hb=>um x.e.z x.s W hfl ((HA.out.each x hxm).grow (ah HC.out.up hb))
   have i0:(0:Int)<=(k:Int):=by omega
   have i1:(k:Int)<(n:Int):=by omega
   have hNg:w.heap.size<wr.heap.size:=by omega
   clear cc hkz hd hown2 hfl hxm;have HX:=ae hx;clear hx;go_wp2_with fail;have hk9:k*9+1+8<=n*9:=by omega
   go_region_law (first|(go_simp;go_at_call 49;refine (WJ.out _ (Below.refl _ _).drew).mono ?_;rintro e w5 ⟨s5,rfl,hown5,hb5⟩;dsimp only [ay];have hs5:=hb5.size;have hc5:w5.cell? ⟨w.heap.size,3,none⟩=some (.slice (some ⟨g,0,none⟩) n c):=(hb5.cell (p:=⟨w.heap.size,3,none⟩) hNg).trans a3;have hz5:∀j,w5.cell? ⟨g,j,none⟩=wr.cell? ⟨g,j,none⟩:=fun j=>hb5.cell (p:=⟨g,j,none⟩) hwr;have hf5:∀j,w5.frozen? ⟨g,j,none⟩=false:=fun j=>(hb5.frozen (p:=⟨g,j,none⟩) hwr).trans (fz j);have HW5:=ae hown5;have qU:=ae hb5;clear hown5 hb5 hs5))
   all_goals
    have hO5:w5.ownsRow (w.heap.size+2) 76 9 (.slice (some ⟨g,0,none⟩) n c) n (aU (ys++x::zs.drop (k+1))):=bI rD.out fun j _ h2=>qU.out.block j h2;have hO6:=Jl (ay x.e.z s5).toList (k*9+1) _ _ hO5;rw [<-qo.out,Hr ys x _ _,qo.out] at hO6;have hC6:=(HC.out.drew.grow qU.out).puts g (k*9+1) (ay x.e.z s5).toList hg2;have hM6:∀y∈ys++ [(⟨x.e,s5⟩:dw)],KH (w.heap.size+2) g (w5.setCells g (k*9+1) (ay x.e.z s5).toList) y.s y.e.z:=by
     intro y hy;rcases List.mem_append.1 hy with hy|hy
     ·exact (Xh.out y hy).aK (by rw [GL];exact qU.out.size) fun j _ hj hjg=>(uz _ _ _ _ _ hjg).trans (qU.out.block j hj)
     ·rw [List.mem_singleton.1 hy];exact ((HW5.out.off (g':=g) hwr).lower (by show w.heap.size+2<=wr.heap.size;have:=HC.out.lt;omega)).aK (by rw [GL];exact Nat.le_refl _) fun j _ _ hjg=>uz _ _ _ _ _ hjg
    have zU:=ae hO6;have xe:=ae hC6;have HM6:=ae hM6;clear hO5 hO6 hC6 hM6 hc5 hz5 hf5;go_wp2_with fail;go_roundw
    case rel=>
     refine ⟨k+1,ys++ [⟨x.e,s5⟩],by omega,by go_num,by rw [bF,qo.out];rfl,?_,xe.out,by rw [List.append_assoc];exact zU.out,HM6.out⟩;rw [List.map_append,ZP.out,List.take_add_one,HX.out,List.map_append];rfl
    case measure=>simp [intOf];omega
  ·have hkn:k=n:=by omega
   have oC:=ae hkn;have hlt':¬(k:Int)<(n:Int):=by omega
   clear hkn hlt;go_wp2_with (first
    |(with_reducible refine dY 26 ?_;refine aJ rfl _ _ rfl w.heap.size rfl (ai t (.slice (some ⟨g,0,none⟩) n c)) HC.out.row _ Tryz.underlying26 rfl (dU.out _) ?_)
    |(with_reducible refine bY 26 ?_;refine wpList_store_row rfl _ _ _ rfl (w.heap.size+1) (ai t (.slice (some ⟨g,0,none⟩) n c)) rfl rfl 26 Tryz.zeroCells26 HC.out.res (dU.out _) (qm.out _) (aT _ _ _ _) ?_))
   refine bodyPost_ret (v:= .agg (ai t (.slice (some ⟨g,0,none⟩) n c))) (results_cell_row rfl _ _ (w.heap.size+1) _ (ai t (.slice (some ⟨g,0,none⟩) n c)) (0,0) _ rfl (setRow_heap _ _ _ _ _ _ HC.out.res) Tryz.underlying26 rfl (dU.out _)) rfl ?_;have hd:ys++zs.drop k=ys:=by rw [List.drop_of_length_le (by rw [HN.out,oC.out];exact Nat.le_refl _),List.append_nil]
   have hrow:=HO.out;rw [hd] at hrow;have hyn:ys.length=n:=qo.out.trans oC.out;have hye:ys.map (·.e)=zs.map (·.e):=by rw [ZP.out,oC.out,List.take_of_length_le (by rw [HN.out];exact Nat.le_refl _)]
   have hrow2:(wr.setRow (w.heap.size+1) (ai t (.slice (some ⟨g,0,none⟩) n c))).ownsRow (w.heap.size+2) 76 9 (.slice (some ⟨g,0,none⟩) n c) n (aU ys):=bI hrow fun j h1 _=>setRow_other _ _ j _ (by omega);refine ⟨⟨t,some ⟨g,0,none⟩,c,ys⟩,rfl,hye,by rw [hyn],⟨H3.out.1.trans hye.symm,H3.out.2.1,H3.out.2.2,(CO.dR hrow2).lower (by omega),hyn.symm▸(CU.dR hrow2).lower (by omega),fun y hy=>?_⟩,below_setRow HC.out.up (Nat.le_succ _) _⟩;exact ((Xh.out y hy).aK (by simp [World.setRow]) fun j h1 _ _=>setRow_other _ _ j _ (by omega)).own.lower (by omega)
theorem wJ (x:dF) (n:Nat) (w:World) (hn:x.zs.length=n) (hn1:n<=1000) (hl:∀y∈x.zs,jB y.e.z) (h:fV w w.heap.size x):
  Calls Tryz.prog 36 #[.agg (ai x.t (.slice x.A n x.c))] w (ClV w x):=by
 obtain ⟨t,A,c,zs⟩:=x;by_cases h0:n=0
 ·subst h0;have hz:zs= []:=List.eq_nil_of_length_eq_zero hn;subst hz;exact I5 t A c h.names h.prev h.bP w
 ·exact I4 t A c n zs w hl hn (by omega) hn1 h.prev h.bP h.names h.aF
end Go.Proofs.YtbaehbbonkljpaaGreatDoor
namespace Go.Proofs.YtbaehbbonkljpaaGreatDoor
open Go Go.RowKit
theorem fP {P:Program} {ops:Array Oper} {Q:Exit->Act->World->Prop} {rest:List Oper} {a:Act} {w:World} {d:Option Tmp} {t:TypeId} {pos:String} {af:Array Edge} {g:Option (Nat×Bool)} (ty:TypeId) {x:Array (Nat×Operand)} (h:wpList P ops Q (⟨d, .build ty x,t,pos,af,g⟩::rest) a w):wpList P ops Q (⟨d, .build ty x,t,pos,af,g⟩::rest) a w:=h
theorem MB (ts:List dF) (pre:List (El ts)):(dV ts pre).1= -1\/∃i:Nat,i<ts.length/\(dV ts pre).1=(i:Int):=by
 unfold dV;have:∀(l:List (El ts)) (st:Int×List Bool),(st.1= -1\/∃i:Nat,i<ts.length/\st.1=(i:Int))->((l.foldl (fun st x=>iy st x.1) st).1= -1\/∃i:Nat,i<ts.length/\(l.foldl (fun st x=>iy st x.1) st).1=(i:Int)):=by
  intro l
  induction l with
  |nil=>intro st h;exact h
  |cons x l ih=>
   intro st h;rw [List.foldl_cons];refine ih _ ?_;unfold iy;split
   ·exact h
   ·dsimp only;split
    ·exact .inr ⟨x.1.1,(gQ.1 x.2).1,rfl⟩
    ·exact h
 exact this pre _ (.inl rfl)
theorem BM {ts:List dF} {p:Int} {b:Bool} (h:wK ts=(p,b)):p<0\/∃i x,p=((i:Nat):Int)/\(b=true->ts[i]? =some x):=by
 unfold wK at h;split at h
 ·injection h with h1 h2;rcases MB ts (LJ ts ts.length) with h3|⟨i,hi,h3⟩
  ·exact .inl (by omega)
  ·exact .inr ⟨i,ts[i],by omega,fun _=>bK hi⟩
 ·injection h with h1 h2;subst h1 h2;exact .inr ⟨0,⟨⟨0,0,0,[],[],[]⟩,none,0,[]⟩,rfl,fun h=>nomatch h⟩
def yU (ts:List dF):Prop:=∀x∈ts,x.zs.length<=1000/\∀y∈x.zs,jB y.e.z
def NewP (w:World) (ts:List dF) (e:Ending) (w':World):Prop:=
 Below w.heap.size w w'/\∃p b,wK ts=(p,b)/\((b=false/\e= .returned (.tuple #[.agg Tryz.zeroCells26,I 1]))\/(b=true/\p<0/\e= .returned (.tuple #[.agg Tryz.zeroCells26,I 4]))\/
  (b=true/\∃i x y,p=((i:Nat):Int)/\ts[i]? =some x/\y.t=x.t/\y.zs.map (·.e)=x.zs.map (·.e)/\e= .returned (.tuple #[.agg (ai y.t (.slice y.A y.zs.length y.c)),I 0])/\SN w.heap.size w' y))
theorem Au:(Tryz.prog.info? 26).map (·.size)=some Tryz.zeroCells26.size:=by kernel_rfl
theorem VP:Tryz.zeroCells26.all (·.oneCell')=true:=by kernel_rfl
theorem VO:(Tryz.prog.info? 26).map (fun i=>(i.zero,i.size))=some (some (.agg Tryz.zeroCells26),Tryz.zeroCells26.size):=by kernel_rfl
theorem Na (A:Option Addr) (c n:Nat) (ts:List dF) (w:World) (hn:ts.length=n) (hn1:n<=1000) (hl:yU ts) (h:jq w w.heap.size A ts):
  Calls Tryz.prog 14 #[.slice A n c] w (NewP w ts):=by
 have HR0:=ae (heap_alloc_last w (.cells Tryz.zeroCells26 26));have HB0:=ae (ag w (.cells Tryz.zeroCells26 26));have HC:=ae (zh A c n ts (w.alloc (.cells Tryz.zeroCells26 26)) hn hn1 (h.grow (ag w _)));have HN:=ae hn;have HL:=ae hl;have RV:=ae h;clear hn hl h;go_enter Tryz.func14,Tryz.ntmps14;go_wp2_with (first
  |(with_reducible refine aZ 26 ?_;refine dm rfl _ rfl Tryz.zeroCells26 VO ?_))
 refine HC.out.mono ?_;rintro e w1 ⟨p,b,rfl,hp,hb1⟩;have HR1:=ae ((hb1.block _ (by simp)).trans HR0.out);have HB1:=ae (ah HB0.out hb1);have HP:=ae hp;have hrg:=BM hp;clear hb1 hp HC HR0 HB0;cases b with
 |false=>
  clear hrg;go_wp2_with (first
   |((with_reducible refine fP 26 ?_);refine bz rfl _ rfl Tryz.zeroCells26 (by kernel_rfl) ?_)
   |((with_reducible refine bY 26 ?_);refine wpList_store_row rfl _ _ _ rfl w.heap.size Tryz.zeroCells26 rfl rfl 26 Tryz.zeroCells26 HR1.out Au rfl VP ?_))
  refine bodyPost_ret (v:= .tuple #[.agg Tryz.zeroCells26,I 1]) (aV rfl _ _ w.heap.size _ Tryz.zeroCells26 (0,0) _ rfl (setRow_heap _ _ _ _ _ _ HR1.out) Tryz.underlying26 rfl Au _ rfl) rfl ?_;exact ⟨below_setRow HB1.out (Nat.le_refl _) _,p,false,HP.out, .inl ⟨rfl,rfl⟩⟩
 |true=>
  rcases hrg with hneg|⟨i,x,rfl,hx⟩
  ·go_wp2_with (first
    |((with_reducible refine fP 26 ?_);refine bz rfl _ rfl Tryz.zeroCells26 (by kernel_rfl) ?_)
    |((with_reducible refine bY 26 ?_);refine wpList_store_row rfl _ _ _ rfl w.heap.size Tryz.zeroCells26 rfl rfl 26 Tryz.zeroCells26 HR1.out Au rfl VP ?_))
   refine bodyPost_ret (v:= .tuple #[.agg Tryz.zeroCells26,I 4]) (aV rfl _ _ w.heap.size _ Tryz.zeroCells26 (0,0) _ rfl (setRow_heap _ _ _ _ _ _ HR1.out) Tryz.underlying26 rfl Au _ rfl) rfl ?_;exact ⟨below_setRow HB1.out (Nat.le_refl _) _,p,true,HP.out, .inr (.inl ⟨rfl,hneg,rfl⟩)⟩
  ·have hx:=hx rfl;have hil:i<n:=by have h1:=(gQ.1 hx).1;have:=HN.out;omega
   have hxm:=gZ hx;have HAT:Hid (fV w1 w1.heap.size x):=ae ((RV.out.each x hxm).grow HB1.out);have h68:=(RV.out.each x hxm).size;obtain ⟨b,off,rfl,hbw,htab⟩:∃b off,A=some ⟨b,off,none⟩/\b<w.heap.size/\uh w b off ts:=by
    rcases Am RV.out with h0|h0
    ·have:=HN.out;omega
    ·exact h0
   have yf:Hid (w1.rangeAt b (off+i*68) x.cells):=ae (aS (htab i x hx).1 HB1.out hbw);have dU:Hid ((Tryz.prog.info? 26).map (·.size)=some x.cells.length):=ae (by rw [h68];kernel_rfl);have HX:=ae hx;have HLX:=ae (HL.out x hxm);have i0:(0:Int)<=(i:Int):=by omega
   have i1:(i:Int)<(n:Int):=by omega
   clear hx hxm h68 htab;go_wp2_with (with_reducible refine dY 26 ?_;refine wpList_load_mid rfl _ _ rfl b (off+i*68) rfl x.cells _ yf.out Tryz.underlying26 rfl dU.out ?_);refine (show Calls Tryz.prog _ #[.agg x.cells.toArray] w1 _ from wJ x x.zs.length w1 rfl HLX.out.1 HLX.out.2 HAT.out).mono ?_;rintro e w2 ⟨y,hy1,hy2,rfl,hy3,hb2⟩;have HY:=ae (show y.t=x.t/\y.zs.map (·.e)=x.zs.map (·.e)/\SN w1.heap.size w2 y from ⟨hy1,hy2,hy3⟩);have HR2:=ae ((hb2.block _ (bV.1 HR1.out).1).trans HR1.out);have HB2:=ae (ah HB1.out hb2);have hlt1:=(bV.1 HR1.out).1;have HSY:=ae (bD y.t (.slice y.A y.zs.length y.c) hy3.prev hy3.bP);have HZY:Hid (Tryz.zeroCells26.size=(ai y.t (.slice y.A y.zs.length y.c)).size):=ae (by rw [bf _ _ hy3.prev hy3.bP];kernel_rfl);clear hy1 hy2 hy3 hb2;go_wp2_with ((with_reducible refine bY 26 ?_);refine wpList_store_row rfl _ _ _ rfl w.heap.size (ai y.t (.slice y.A y.zs.length y.c)) rfl rfl 26 Tryz.zeroCells26 HR2.out HSY.out HZY.out (aT _ _ _ _) ?_);refine bodyPost_ret (v:= .tuple #[.agg (ai y.t (.slice y.A y.zs.length y.c)),I 0]) (aV rfl _ _ w.heap.size _ (ai y.t (.slice y.A y.zs.length y.c)) (0,0) _ rfl (setRow_heap _ _ _ _ _ _ HR2.out) Tryz.underlying26 rfl HSY.out _ rfl) rfl ?_;refine ⟨below_setRow HB2.out (Nat.le_refl _) _,(i:Int),true,HP.out, .inr (.inr ⟨rfl,i,x,y,rfl,HX.out,HY.out.1,HY.out.2.1,rfl,?_⟩)⟩;exact (HY.out.2.2.aK (by simp [World.setRow]) fun k h1 _=>setRow_other _ _ k _ (by omega)).lower (by omega)
theorem Pq (x:dw):(Tryz.prog.info? 76).map (·.size)=some x.cells.size:=by kernel_rfl
theorem Y1 (x:dw):x.cells[0]? =some (.string x.e.name):=rfl
theorem mf:(Tryz.prog.info? 69).map (·.size)=some iH.size:=by kernel_rfl
theorem wZ:iH.all (·.oneCell')=true:=by kernel_rfl
attribute [local go_sem] Y1 bC
theorem NW (x:dw) (nb:Nat) (name:ByteArray) (w:World) (hb:nb<w.heap.size) (hc:w.cell? ⟨nb,0,none⟩=some (.string name)):
  Calls Tryz.prog 48 #[.agg x.cells,pt nb] w (Gives (.bool (x.e.name.toList==name.toList)) w):=by
 have HB:=ae (ag w (.cells x.cells 76));have hc2:=(HB.out.cell (p:=⟨nb,0,none⟩) hb).trans hc;have hr:=(Row.new w x.cells 76).2 0;go_enter Tryz.func48,Tryz.ntmps48;go_wp2_with fail;go_ret;exact ⟨rfl,HB.out⟩
def yI (a b:ByteArray):Bool:=a.toList==b.toList
def IxP (w:World) (zs:List dw) (name:ByteArray) (e:Ending) (w':World):Prop:=
 ∃v,e= .returned (I v)/\Below w.heap.size w w'/\((v= -1/\∀(j:Nat) (y:dw),zs[j]? =some y->yI y.e.name name=false)\/∃(i:Nat) (x:dw),v=(i:Int)/\zs[i]? =some x/\yI x.e.name name=true/\∀(j:Nat) (y:dw),j<i->zs[j]? =some y->yI y.e.name name=false)
def IxRel (w:World) (zs:List dw) (name:ByteArray) (n:Nat) (i:Value) (wr:World):Prop:=∃k:Nat,k<=n/\i= .int .i64 k/\(∀(j:Nat) (y:dw),j<k->zs[j]? =some y->yI y.e.name name=false)/\Below w.heap.size w wr
theorem MQ (A:Option Addr) (c n:Nat) (zs:List dw) (nb:Nat) (name:ByteArray) (w:World) (hn:zs.length=n) (hn1:n<=100000) (h:aA w w.heap.size A (aU zs)) (hb:nb<w.heap.size) (hc:w.cell? ⟨nb,0,none⟩=some (.string name)):
  Calls Tryz.prog 47 #[.slice A n c, .func (.func 48) #[] #[pt nb]] w (IxP w zs name):=by
 have HN:=ae hn;have HC:=ae h;clear hn h;go_enter Tryz.func47,Tryz.ntmps47;go_wp2_with fail
 go_loopw [8] (fun i wr=>IxRel w zs name n i wr) (fun i _=>n - (intOf i).toNat)
 case atStart=>exact ⟨0,Nat.zero_le _,rfl,fun j y hj=>absurd hj (Nat.not_lt_zero _),Below.refl _ _⟩
 case round=>
  obtain ⟨k,hk,rfl,hall,hbl⟩:=hrel;have iq:=ae hall;have HB:=ae hbl;clear hall hbl;by_cases hlt:k<n
  ·have hkl:k<zs.length:=by rw [HN.out];exact hlt
   obtain ⟨x,hx⟩:∃x,zs[k]? =some x:=⟨_,bK hkl⟩;obtain ⟨b,off,rfl,hbw,hcl⟩:=HC.out.there (by rw [dX];omega);have HX:=ae hx;have yf:Hid (wr.rangeAt b (off+k*9) x.cells.toList):=ae fun j u hu=>by
    have hj:j<9:=(gQ.1 hu).1;rw [Nat.add_assoc];refine (HB.out.cell (p:=⟨b,off+(k*9+j),none⟩) hbw).trans (hcl _ u ?_);rw [lG zs k j x hx hj];simpa using hu
   have hlt2:nb<wr.heap.size:=dP hb HB.out.size;have hc2:wr.cell? ⟨nb,0,none⟩=some (.string name):=(HB.out.cell (p:=⟨nb,0,none⟩) hb).trans hc;have HZ:=ae (NW x nb name wr hlt2 hc2);have i0:(0:Int)<=(k:Int):=by omega
   have i1:(k:Int)<(n:Int):=by omega
   clear hkl hx hcl hlt2 hc2;cases hq:yI x.e.name name
   ·have HQ:=ae hq;clear hq;go_wp2_with ((with_reducible refine dY 76 ?_);refine wpList_load_mid rfl _ _ rfl b (off+k*9) rfl x.cells.toList _ yf.out Tryz.underlying76 rfl (Pq x) ?_);refine HZ.out.mono ?_;rintro e w2 ⟨rfl,hb2⟩;rw [show (x.e.name.toList==name.toList)=false from HQ.out];have HB2:=ae (ah HB.out hb2);clear hb2;go_wp2_with fail;go_roundw
    case rel=>
     refine ⟨k+1,by omega,by go_num,fun j y hj hy=>?_,HB2.out⟩;by_cases e:j=k
     ·subst e;have h1:=HX.out;rw [hy] at h1;injection h1 with h1;rw [h1];exact HQ.out
     ·exact iq.out j y (by omega) hy
    case measure=>simp [intOf];omega
   ·have HQ:=ae hq;clear hq;go_wp2_with ((with_reducible refine dY 76 ?_);refine wpList_load_mid rfl _ _ rfl b (off+k*9) rfl x.cells.toList _ yf.out Tryz.underlying76 rfl (Pq x) ?_);refine HZ.out.mono ?_;rintro e w2 ⟨rfl,hb2⟩;rw [show (x.e.name.toList==name.toList)=true from HQ.out];have HB2:=ae (ah HB.out hb2);clear hb2;go_wp2_with fail;go_ret;exact ⟨_,rfl,HB2.out, .inr ⟨k,x,rfl,HX.out,HQ.out,iq.out⟩⟩
  ·have hke:k=n:=by omega
   have Hw:=ae hke;have hnl:¬(k:Int)<(n:Int):=by omega
   clear hke hlt;go_wp2_with fail;go_ret;exact ⟨_,rfl,HB.out, .inl ⟨rfl,fun j y hy=>iq.out j y (by have h1:=(gQ.1 hy).1;have:=HN.out;have:=Hw.out;omega) hy⟩⟩
def mP (zs:List Ze) (name:ByteArray):Option Zn:=(zs.find? fun e=>yI e.name name).map (·.z)
theorem Dq {zs:List dw} {i:Nat} {x:dw} {name:ByteArray} (hx:zs[i]? =some x) (h:yI x.e.name name=true) (hall:∀(j:Nat) (y:dw),j<i->zs[j]? =some y->yI y.e.name name=false):mP (zs.map (·.e)) name=some x.e.z:=by
 induction zs generalizing i with
 |nil=>cases hx
 |cons y zs ih=>
  unfold mP;rw [List.map_cons,List.find?_cons];cases i with
  |zero=>
   injection hx with hx;subst hx;rw [h];rfl
  |succ i=>
   rw [hall 0 y (Nat.succ_pos _) rfl];exact ih (i:=i) hx fun j z hj hz=>hall (j+1) z (by omega) hz
theorem Dp {zs:List dw} {name:ByteArray} (hall:∀(j:Nat) (y:dw),zs[j]? =some y->yI y.e.name name=false):mP (zs.map (·.e)) name=none:=by
 induction zs with
 |nil=>rfl
 |cons y zs ih=>
  unfold mP;rw [List.map_cons,List.find?_cons,hall 0 y rfl];exact ih fun j z hz=>hall (j+1) z hz
def Z4 (w:World) (zs:List Ze) (name:ByteArray) (e:Ending) (w':World):Prop:=
 Below w.heap.size w w'/\((mP zs name=none/\e= .returned (.tuple #[.agg iH,I 4]))\/∃z s,mP zs name=some z/\e= .returned (.tuple #[.agg (ay z s),I 0])/\Rz w.heap.size w' s z/\∃e∈zs,e.z=z)
structure ZZ (w:World) (cs:Array Value) (name:ByteArray) (W:World):Prop where
 tab:W.heap[w.heap.size]? =some (.cells cs 26 (0,0))
 nm:W.heap[w.heap.size+1]? =some (.cells #[.string name] 9 (0,0))
 res:W.heap[w.heap.size+2]? =some (.cells iH 69 (0,0))
 up:Below w.heap.size w W
theorem ZZ.start (w:World) (cs:Array Value) (name:ByteArray):ZZ w cs name (((w.alloc (.cells cs 26)).alloc (.cells #[.string name] 9)).alloc (.cells iH 69)):=by
 refine ⟨(Below.heap_alloc _ _ _ (by simp;omega)).trans (heap_alloc2_old w _ _),?_,?_,ah (ah (ag w _) (ag _ _)) (ag _ _)⟩
 ·exact (Below.heap_alloc _ _ _ (by simp)).trans (heap_alloc2_new w _ _)
 ·have h:=heap_alloc_last ((w.alloc (.cells cs 26)).alloc (.cells #[.string name] 9)) (.cells iH 69);rw [World.size_alloc,World.size_alloc] at h;exact h
theorem ZZ.lt {w W:World} {cs:Array Value} {name:ByteArray} (h:ZZ w cs name W):w.heap.size+2<W.heap.size:=(bV.1 h.res).1
theorem ZZ.grow {w W W':World} {cs:Array Value} {name:ByteArray} (h:ZZ w cs name W) (hb:Below W.heap.size W W'):ZZ w cs name W':=by
 have hl:=h.lt;exact ⟨(hb.block _ (by omega)).trans h.tab,(hb.block _ (by omega)).trans h.nm,(hb.block _ hl).trans h.res,ah h.up hb⟩
theorem Dy (x:dF) (n:Nat) (name:ByteArray) (w:World) (hn:x.zs.length=n) (hn1:n<=1000) (hl:∀y∈x.zs,jB y.e.z) (h:fV w w.heap.size x):
  Calls Tryz.prog 28 #[.agg (ai x.t (.slice x.A n x.c)), .string name] w (Z4 w x.t.aF name):=by
 have HV:=ae (ZZ.start w (ai x.t (.slice x.A n x.c)) name);have HN:=ae hn;have HL:=ae hl;have HT:=ae h;clear hn hl h;go_enter Tryz.func28,Tryz.ntmps28;go_wp2_with (with_reducible refine aZ 69 ?_;refine dm rfl _ rfl iH (by kernel_rfl) ?_);generalize ((w.alloc (.cells (ai x.t (.slice x.A n x.c)) 26)).alloc (.cells #[.string name] 9)).alloc (.cells iH 69)=W1 at HV ⊢;have hlt:=HV.out.lt;refine (show Calls Tryz.prog _ _ W1 _ from MQ x.A x.c n x.zs (w.heap.size+1) name W1 HN.out (by omega) ((HT.out.aF.row.keep HV.out.up).more HV.out.up.size) (by omega) (cell_of_row W1 _ 0 _ _ _ HV.out.nm)).mono ?_;rintro e w2 ⟨v,rfl,hb2,hv⟩;have nD:=ae (HV.out.grow hb2);clear hb2 hlt;rcases hv with ⟨rfl,hno⟩|⟨i,y,rfl,hy,hyes,hall⟩
 ·have FP:=ae (Dp hno);clear hno;go_wp2_with (first
   |((with_reducible refine fP 69 ?_);refine bz rfl _ rfl iH (by kernel_rfl) ?_)
   |((with_reducible refine bY 69 ?_);refine wpList_store_row rfl _ _ _ rfl (w.heap.size+2) iH rfl rfl 69 iH nD.out.res mf rfl wZ ?_))
  refine bodyPost_ret (v:= .tuple #[.agg iH,I 4]) (aV rfl _ _ (w.heap.size+2) _ iH (0,0) _ rfl (setRow_heap _ _ _ _ _ _ nD.out.res) Tryz.underlying69 rfl mf _ rfl) rfl ?_;exact ⟨below_setRow nD.out.up (by omega) _, .inl ⟨by rw [HT.out.names];exact FP.out,rfl⟩⟩
 ·have HF:=ae (Dq hy hyes hall);have hym:=gZ hy;have HLY:=ae (HL.out y hym);have Xh:=ae hym;have HZA:Hid (iP w2 w2.heap.size y.s y.e.z):=ae ((HT.out.aF.each y hym).grow nD.out.up);have hin:i<n:=by have h1:=(gQ.1 hy).1;have:=HN.out;omega
  obtain ⟨A0,hA0⟩:∃a,x.A=a:=⟨_,rfl⟩;obtain ⟨b,off,hab,hbw,hcl⟩:=HT.out.aF.row.there (by rw [dX];have:=HN.out;omega);have yf:Hid (w2.rangeAt b (off+i*9+1) (ay y.e.z y.s).toList):=ae fun j u hu=>by
   have hj:j<8:=(gQ.1 hu).1;rw [show off+i*9+1+j=off+(i*9+(j+1)) by omega];refine (nD.out.up.cell (p:=⟨b,off+(i*9+(j+1)),none⟩) hbw).trans (hcl _ u ?_);rw [lG x.zs i (j+1) y hy (by omega)];have e:y.cells[j+1]? =(ay y.e.z y.s).toList[j]? :=by
    match j,hj with
    |0,_=>rfl
    |1,_=>rfl
    |2,_=>rfl
    |3,_=>rfl
    |4,_=>rfl
    |5,_=>rfl
    |6,_=>rfl
    |7,_=>rfl
   rw [e];exact hu
  have c3:w2.cell? ⟨w.heap.size,3,none⟩=some (.slice (some ⟨b,off,none⟩) n x.c):=by rw [cell_of_row w2 _ 3 _ _ _ nD.out.tab,bC,hab]
  have i0:(0:Int)<=(i:Int):=by omega
  have i1:(i:Int)<(n:Int):=by omega
  clear hy hyes hall hym hcl hab hA0;go_wp2_with ((with_reducible refine dY 69 ?_);refine wpList_load_mid rfl _ _ rfl b (off+i*9+1) rfl (ay y.e.z y.s).toList _ yf.out Tryz.underlying69 rfl (l9 _ _) ?_);refine (show Calls Tryz.prog _ #[.agg (ay y.e.z y.s)] w2 _ from um y.e.z y.s w2 HLY.out HZA.out).mono ?_;rintro e w3 ⟨s3,rfl,hx3,hb3⟩;have tY:=ae (nD.out.grow hb3);have Bg:=ae hx3;have hl2:=nD.out.lt;clear hx3 hb3;go_wp2_with ((with_reducible refine bY 69 ?_);refine wpList_store_row rfl _ _ _ rfl (w.heap.size+2) (ay y.e.z s3) rfl rfl 69 iH tY.out.res (l9 _ _) rfl (Dv _ _) ?_);refine bodyPost_ret (v:= .tuple #[.agg (ay y.e.z s3),I 0]) (aV rfl _ _ (w.heap.size+2) _ (ay y.e.z s3) (0,0) _ rfl (setRow_heap _ _ _ _ _ _ tY.out.res) Tryz.underlying69 rfl (l9 _ _) _ rfl) rfl ?_;refine ⟨below_setRow tY.out.up (by omega) _, .inr ⟨y.e.z,s3,by rw [HT.out.names];exact HF.out,rfl,?_,y.e,by rw [HT.out.names];exact List.mem_map_of_mem Xh.out,rfl⟩⟩;exact (Bg.out.own.aK (by simp [World.setRow]) fun k h1 _=>setRow_other _ _ k _ (by omega)).lower (by omega)
end Go.Proofs.YtbaehbbonkljpaaGreatDoor
