/- The texts Pc, Pd, Pg, in this order. -/
import Derived.Test.YtdibbemgpikgjaaGreatDoorY00
import Derived.Test.YtdibbemgpikgjaaGreatDoorY04
import Derived.Test.YtdibbemgpikgjaaGreatDoorY06
set_option maxRecDepth 10000
set_option maxHeartbeats 8000000
namespace Go.Proofs.YtdibbemgpikgjaaGreatDoor
open Go Go.RowKit
def CX (lo g:Nat) (w:World) (A:Option Addr) (cs:List Value):Prop:=
 cs.length=0∨∃b off,A=some ⟨b,off,none⟩∧lo≤b∧b<w.heap.size∧b≠g∧∀j u,cs[j]? =some u→w.cell? ⟨b,off+j,none⟩=some u
theorem CX.aS {lo g:Nat} {w w':World} {A:Option Addr} {cs:List Value} (h:CX lo g w A cs) (hs:w.heap.size≤w'.heap.size) (hb:∀k,lo≤k→k<w.heap.size→k≠g→w'.heap[k]? =w.heap[k]?):CX lo g w' A cs:=by
 rcases h with h|⟨b,off,h1,h2,h3,h4,h5⟩
 ·exact .inl h
 ·exact .inr ⟨b,off,h1,h2,dP h3 hs,h4,fun j u hu=>(World.cell?_of_block (a:=⟨b,off+j,none⟩) (hb b h2 h3 h4)).trans (h5 j u hu)⟩
theorem CX.off {lo g g':Nat} {w:World} {A:Option Addr} {cs:List Value} (h:CX lo g w A cs) (hg:g'<lo):CX lo g' w A cs:=by
 rcases h with h|⟨b,off,h1,h2,h3,_,h5⟩
 ·exact .inl h
 ·exact .inr ⟨b,off,h1,h2,h3,by omega,h5⟩
theorem CX.lower {lo lo' g:Nat} {w:World} {A:Option Addr} {cs:List Value} (h:CX lo g w A cs) (hl:lo'≤lo):CX lo' g w A cs:=by
 rcases h with h|⟨b,off,h1,h2,h3,h4,h5⟩
 ·exact .inl h
 ·exact .inr ⟨b,off,h1,by omega,h3,h4,h5⟩
theorem CX.eQ {B g e size n c:Nat} {A:Option Addr} {w:World} {cs:List Value} (h:w.ownsRow B e size (.slice A n c) n cs) (hg:g<B):CX B g w A cs:=by
 rcases h.2 with ⟨hv,hn⟩|⟨b,cap,cur,hv,hb,hh,_⟩
 ·refine .inl ?_;rw [h.1,hn,Nat.zero_mul]
 ·injection hv with h1 _ _;subst h1;exact .inr ⟨b,0,rfl,hb,(bT.1 hh).1,by omega,fun j u hu=>by rw [Nat.zero_add,←addr_add];exact h.cells (g:=b) rfl j u hu⟩
structure N9 (lo g:Nat) (w:World) (s:Zs) (z:Zn):Prop where
 az:CX lo g w s.A (z.cal.az.map I)
 rules:CX lo g w s.B (z.cal.rules.flatMap Lr.cells)
 trans:CX lo g w s.C (z.trans.flatMap Tr.cells)
 aN:CX lo g w s.D (z.aN.flatMap Yr.cells)
section
variable {lo lo' g g':Nat} {w w':World} {s:Zs} {z:Zn}
theorem N9.aS (h:N9 lo g w s z) (hs:w.heap.size≤w'.heap.size) (hb:∀k,lo≤k→k<w.heap.size→k≠g→w'.heap[k]? =w.heap[k]?):N9 lo g w' s z:=
 ⟨h.az.aS hs hb,h.rules.aS hs hb,h.trans.aS hs hb,h.aN.aS hs hb⟩
theorem N9.off (h:N9 lo g w s z) (hg:g'<lo):N9 lo g' w s z:=⟨h.az.off hg,h.rules.off hg,h.trans.off hg,h.aN.off hg⟩
theorem N9.lower (h:N9 lo g w s z) (hl:lo'≤lo):N9 lo' g w s z:=⟨h.az.lower hl,h.rules.lower hl,h.trans.lower hl,h.aN.lower hl⟩
end
structure pU (z:Zn):Prop where
 az:z.cal.az.length≤10000
 rules:z.cal.rules.length≤10000
 trans:z.trans.length≤10000
 aN:z.aN.length≤10000
def jq:Array Value:= #[I 0, .slice none 0 0,I 0, .slice none 0 0,I 0, .slice none 0 0,I 0, .slice none 0 0]
structure Hm (w:World) (cs:Array Value) (W:World):Prop where
 var:W.heap[w.heap.size]? =some (.cells cs 67 (0,0))
 res:W.heap[w.heap.size+1]? =some (.cells jq 67 (0,0))
 up:Below w.heap.size w W
section
variable {w W W':World} {cs:Array Value}
theorem Hm.lt (h:Hm w cs W):w.heap.size+1<W.heap.size:=(bT.1 h.res).1
theorem Hm.grow (h:Hm w cs W) (hb:Below W.heap.size W W'):Hm w cs W':=
 ⟨(hb.block _ (by have:=h.lt;omega)).trans h.var,(hb.block _ h.lt).trans h.res,ah h.up hb⟩
theorem Hm.store (h:Hm w cs W) (o:Nat) (v:Value):Hm w (cs.setIfInBounds o v) (W.setCell ⟨w.heap.size,o,none⟩ v):=
 ⟨heap_setCell_same W _ o _ _ _ h.var,(heap_setCell_other W _ _ v (by show w.heap.size+1≠w.heap.size;omega)).trans h.res,h.up.setCell (p:=⟨w.heap.size,o,none⟩) (Nat.le_refl _) _⟩
theorem Hm.start (w:World) (cs:Array Value):Hm w cs ((w.alloc (.cells cs 67)).alloc (.cells jq 67)):=
 ⟨heap_alloc2_old w _ _,heap_alloc2_new w _ _,ah (ag w _) (ag _ _)⟩
theorem Hm.row (h:Hm w cs W):Row W w.heap.size cs:=⟨by have:=h.lt;omega,fun i=>cell_of_row W _ i _ _ _ h.var⟩
end
theorem mW {w W:World} {o:Nat} {v:Value} {lo g:Nat} {A:Option Addr} {cs:List Value} (h:CX lo g W A cs) (hlo:w.heap.size+2≤lo):CX lo g (W.setCell ⟨w.heap.size,o,none⟩ v) A cs:=
 h.aS (by simp [World.setCell]) fun k h1 _ _=>heap_setCell_other W _ k _ (by show k≠w.heap.size;omega)
def CzQ (w:World) (z:Zn) (e:Ending) (w':World):Prop:=∃s,e= .returned (.agg (ay z s))∧N9 w.heap.size w.heap.size w' s z∧Below w.heap.size w w'
theorem XK (z:Zn) (s:Zs):(ay z s)[1]? =some (.slice s.A z.cal.az.length s.a):=rfl
theorem XL (z:Zn) (s:Zs):(ay z s)[3]? =some (.slice s.B z.cal.rules.length s.b):=rfl
theorem XM (z:Zn) (s:Zs):(ay z s)[5]? =some (.slice s.C z.trans.length s.c):=rfl
theorem XN (z:Zn) (s:Zs):(ay z s)[7]? =some (.slice s.D z.aN.length s.d):=rfl
attribute [local go_sem] XK XL XM XN
theorem tN (z:Zn) (s:Zs) (w:World) (hL:pU z) (hA:jG w w.heap.size s z):Calls Tryz.prog 42 #[.agg (ay z s)] w (CzQ w z):=by
 have HS:=ae (Hm.start w (ay z s));have HL:=ae hL;have HA:=ae hA;clear hL hA;go_enter Tryz.func42,Tryz.ntmps42;go_wp2_with (with_reducible refine bC 67 ?_;refine dw rfl _ rfl jq (by kernel_rfl) ?_);generalize (w.alloc (.cells (ay z s) 67)).alloc (.cells jq 67)=W0 at HS ⊢;have uP:=HS;have c0:W0.cell? ⟨w.heap.size,1,none⟩=some (.slice s.A z.cal.az.length s.a):=uP.out.row.2 1;have f0:∀i,W0.frozen? ⟨w.heap.size,i,none⟩=false:=fun i=>frozen_of_row _ _ i _ _ uP.out.var;refine (show Calls Tryz.prog _ _ W0 _ from VM s.A s.a z.cal.az.length (z.cal.az.map I) W0 (HA.out.az.keep uP.out.up |>.more uP.out.up.size) (by rw [List.length_map];omega) (by intro u hu;obtain ⟨q,_,rfl⟩:=List.mem_map.1 hu;rfl) HL.out.az).mono ?_;rintro e w1 ⟨A1,a1,rfl,hown,hb⟩;have Vt:=ae (uP.out.grow hb);have hr1:∀i,w1.cell? ⟨w.heap.size,i,none⟩=_:=Vt.out.row.2;have hf1:∀i,w1.frozen? ⟨w.heap.size,i,none⟩=false:=fun i=>frozen_of_row _ _ i _ _ Vt.out.var;have v1:w1.cell? ⟨w.heap.size,1,none⟩=some (.slice s.A z.cal.az.length s.a):=hr1 1;have hlt1:=uP.out.lt;have n1:w1.cell? ⟨w.heap.size,3,none⟩=some (.slice s.B z.cal.rules.length s.b):=hr1 3;have Kw:Hid (CX (w.heap.size+2) w.heap.size (w1.setCell ⟨w.heap.size,1,none⟩ (.slice A1 z.cal.az.length a1)) A1 (z.cal.az.map I)):=ae (mW ((CX.eQ hown (by omega)).lower (by omega)) (Nat.le_refl _));have rW:Hid (Hm w (ay z ⟨A1,a1,s.B,s.b,s.C,s.c,s.D,s.d⟩) (w1.setCell ⟨w.heap.size,1,none⟩ (.slice A1 z.cal.az.length a1))):=ae (Vt.out.store 1 (.slice A1 z.cal.az.length a1));clear hown hb hr1 c0 f0;go_wp2_with fail;generalize hW1:w1.setCell ⟨w.heap.size,1,none⟩ (.slice A1 z.cal.az.length a1)=W1 at rW Kw ⊢;have iq:=rW;have HX1_1:=Kw;have c1:W1.cell? ⟨w.heap.size,3,none⟩=some (.slice s.B z.cal.rules.length s.b):=iq.out.row.2 3;have f1:∀i,W1.frozen? ⟨w.heap.size,i,none⟩=false:=fun i=>frozen_of_row _ _ i _ _ iq.out.var;clear v1 n1 hf1 hlt1 rW Vt hW1 Kw;refine (show Calls Tryz.prog _ _ W1 _ from VO s.B s.b z.cal.rules.length (z.cal.rules.flatMap Lr.cells) W1 (HA.out.rules.keep iq.out.up |>.more iq.out.up.size) (by rw [dD (s:=3) Lr.cells _ fun _ _=>rfl]) (F5 Lr.cells _ fun x _=>WR x) HL.out.rules).mono ?_;rintro e w2 ⟨A2,a2,rfl,hown,hb⟩;have Vu:=ae (iq.out.grow hb);have hr2:∀i,w2.cell? ⟨w.heap.size,i,none⟩=_:=Vu.out.row.2;have hf2:∀i,w2.frozen? ⟨w.heap.size,i,none⟩=false:=fun i=>frozen_of_row _ _ i _ _ Vu.out.var;have v2:w2.cell? ⟨w.heap.size,3,none⟩=some (.slice s.B z.cal.rules.length s.b):=hr2 3;have hlt2:=iq.out.lt;have n2:w2.cell? ⟨w.heap.size,5,none⟩=some (.slice s.C z.trans.length s.c):=hr2 5;have Ky:=ae (mW (o:=3) (v:= .slice A2 z.cal.rules.length a2) (HX1_1.out.aS hb.size fun k _ h2 _=>hb.block k h2) (Nat.le_refl _));have KA:Hid (CX (w.heap.size+2) w.heap.size (w2.setCell ⟨w.heap.size,3,none⟩ (.slice A2 z.cal.rules.length a2)) A2 (z.cal.rules.flatMap Lr.cells)):=ae (mW ((CX.eQ hown (by omega)).lower (by omega)) (Nat.le_refl _));have rW:Hid (Hm w (ay z ⟨A1,a1,A2,a2,s.C,s.c,s.D,s.d⟩) (w2.setCell ⟨w.heap.size,3,none⟩ (.slice A2 z.cal.rules.length a2))):=ae (Vu.out.store 3 (.slice A2 z.cal.rules.length a2));clear hown hb hr2 c1 f1;go_wp2_with fail;generalize hW2:w2.setCell ⟨w.heap.size,3,none⟩ (.slice A2 z.cal.rules.length a2)=W2 at rW Ky KA ⊢;have HS2:=rW;have HX1_2:=Ky;have HX2_2:=KA;have c2:W2.cell? ⟨w.heap.size,5,none⟩=some (.slice s.C z.trans.length s.c):=HS2.out.row.2 5;have f2:∀i,W2.frozen? ⟨w.heap.size,i,none⟩=false:=fun i=>frozen_of_row _ _ i _ _ HS2.out.var;clear v2 n2 hf2 hlt2 rW Vu hW2 Ky KA;refine (show Calls Tryz.prog _ _ W2 _ from VQ s.C s.c z.trans.length (z.trans.flatMap Tr.cells) W2 (HA.out.trans.keep HS2.out.up |>.more HS2.out.up.size) (by rw [dD (s:=2) Tr.cells _ fun _ _=>rfl]) (F5 Tr.cells _ fun x _=>wC x) HL.out.trans).mono ?_;rintro e w3 ⟨A3,a3,rfl,hown,hb⟩;have Vw:=ae (HS2.out.grow hb);have hr3:∀i,w3.cell? ⟨w.heap.size,i,none⟩=_:=Vw.out.row.2;have hf3:∀i,w3.frozen? ⟨w.heap.size,i,none⟩=false:=fun i=>frozen_of_row _ _ i _ _ Vw.out.var;have v3:w3.cell? ⟨w.heap.size,5,none⟩=some (.slice s.C z.trans.length s.c):=hr3 5;have hlt3:=HS2.out.lt
 have n3:w3.cell? ⟨w.heap.size,7,none⟩=some (.slice s.D z.aN.length s.d):=hr3 7;have Kz:=ae (mW (o:=5) (v:= .slice A3 z.trans.length a3) (HX1_2.out.aS hb.size fun k _ h2 _=>hb.block k h2) (Nat.le_refl _));have KC:=ae (mW (o:=5) (v:= .slice A3 z.trans.length a3) (HX2_2.out.aS hb.size fun k _ h2 _=>hb.block k h2) (Nat.le_refl _));have KD:Hid (CX (w.heap.size+2) w.heap.size (w3.setCell ⟨w.heap.size,5,none⟩ (.slice A3 z.trans.length a3)) A3 (z.trans.flatMap Tr.cells)):=ae (mW ((CX.eQ hown (by omega)).lower (by omega)) (Nat.le_refl _));have rW:Hid (Hm w (ay z ⟨A1,a1,A2,a2,A3,a3,s.D,s.d⟩) (w3.setCell ⟨w.heap.size,5,none⟩ (.slice A3 z.trans.length a3))):=ae (Vw.out.store 5 (.slice A3 z.trans.length a3));clear hown hb hr3 c2 f2;go_wp2_with fail;generalize hW3:w3.setCell ⟨w.heap.size,5,none⟩ (.slice A3 z.trans.length a3)=W3 at rW Kz KC KD ⊢;have jU:=rW;have HX1_3:=Kz;have HX2_3:=KC;have HX3_3:=KD;have c3:W3.cell? ⟨w.heap.size,7,none⟩=some (.slice s.D z.aN.length s.d):=jU.out.row.2 7;have f3:∀i,W3.frozen? ⟨w.heap.size,i,none⟩=false:=fun i=>frozen_of_row _ _ i _ _ jU.out.var;clear v3 n3 hf3 hlt3 rW Vw hW3 Kz KC KD;refine (show Calls Tryz.prog _ _ W3 _ from VS s.D s.d z.aN.length (z.aN.flatMap Yr.cells) W3 (HA.out.aN.keep jU.out.up |>.more jU.out.up.size) (by rw [dD (s:=5) Yr.cells _ fun _ _=>rfl]) (F5 Yr.cells _ fun x _=>wI x) HL.out.aN).mono ?_;rintro e w4 ⟨A4,a4,rfl,hown,hb⟩;have Zq:=ae (jU.out.grow hb);have hr4:∀i,w4.cell? ⟨w.heap.size,i,none⟩=_:=Zq.out.row.2;have hf4:∀i,w4.frozen? ⟨w.heap.size,i,none⟩=false:=fun i=>frozen_of_row _ _ i _ _ Zq.out.var;have v4:w4.cell? ⟨w.heap.size,7,none⟩=some (.slice s.D z.aN.length s.d):=hr4 7;have hlt4:=jU.out.lt;have ZH:=ae (mW (o:=7) (v:= .slice A4 z.aN.length a4) (HX1_3.out.aS hb.size fun k _ h2 _=>hb.block k h2) (Nat.le_refl _));have ZJ:=ae (mW (o:=7) (v:= .slice A4 z.aN.length a4) (HX2_3.out.aS hb.size fun k _ h2 _=>hb.block k h2) (Nat.le_refl _));have ZK:=ae (mW (o:=7) (v:= .slice A4 z.aN.length a4) (HX3_3.out.aS hb.size fun k _ h2 _=>hb.block k h2) (Nat.le_refl _));have ZL:Hid (CX (w.heap.size+2) w.heap.size (w4.setCell ⟨w.heap.size,7,none⟩ (.slice A4 z.aN.length a4)) A4 (z.aN.flatMap Yr.cells)):=ae (mW ((CX.eQ hown (by omega)).lower (by omega)) (Nat.le_refl _));have rW:Hid (Hm w (ay z ⟨A1,a1,A2,a2,A3,a3,A4,a4⟩) (w4.setCell ⟨w.heap.size,7,none⟩ (.slice A4 z.aN.length a4))):=ae (Zq.out.store 7 (.slice A4 z.aN.length a4));clear hown hb hr4 c3 f3;go_wp2_with (first
  |(with_reducible refine dN 67 ?_;refine aY rfl _ _ rfl w.heap.size rfl (ay z ⟨A1,a1,A2,a2,A3,a3,A4,a4⟩) rW.out.row _ Tryz.underlying67 rfl (lT _ _) ?_)
  |(with_reducible refine cZ 67 ?_;refine wpList_store_row rfl _ _ _ rfl (w.heap.size+1) (ay z ⟨A1,a1,A2,a2,A3,a3,A4,a4⟩) rfl rfl 67 jq rW.out.res (lT _ _) rfl (Dt _ _) ?_))
 refine bodyPost_ret (v:= .agg (ay z ⟨A1,a1,A2,a2,A3,a3,A4,a4⟩)) (results_cell_row rfl _ _ (w.heap.size+1) _ (ay z ⟨A1,a1,A2,a2,A3,a3,A4,a4⟩) (0,0) _ rfl (setRow_heap _ _ _ _ _ _ rW.out.res) Tryz.underlying67 rfl (lT _ _)) rfl ?_;have hb:∀(W:World) (cs:Array Value) (k:Nat),w.heap.size+2≤k→(W.setRow (w.heap.size+1) cs).heap[k]? =W.heap[k]? :=fun W cs k hk=>setRow_other _ _ k _ (by omega);have hX:∀ {A:Option Addr} {cs:List Value} {W:World} {rc:Array Value},CX (w.heap.size+2) w.heap.size W A cs→CX w.heap.size w.heap.size (W.setRow (w.heap.size+1) rc) A cs:=fun h=>(h.aS (by simp [World.setRow]) fun k h1 _ _=>hb _ _ k h1).lower (by omega);exact ⟨⟨A1,a1,A2,a2,A3,a3,A4,a4⟩,rfl,⟨hX ZH.out,hX ZJ.out,hX ZK.out,hX ZL.out⟩,below_setRow rW.out.up (Nat.le_succ _) _⟩
end Go.Proofs.YtdibbemgpikgjaaGreatDoor
namespace Go.Proofs.YtdibbemgpikgjaaGreatDoor
open Go Go.RowKit
def CO (lo:Nat) (w:World) (A:Option Addr) (cs:List Value):Prop:=
 cs.length=0∨∃b off,A=some ⟨b,off,none⟩∧lo≤b∧b<w.heap.size∧∀j u,cs[j]? =some u→w.cell? ⟨b,off+j,none⟩=some u
structure QQ (lo:Nat) (w:World) (s:Zs) (z:Zn):Prop where
 az:CO lo w s.A (z.cal.az.map I)
 rules:CO lo w s.B (z.cal.rules.flatMap Lr.cells)
 trans:CO lo w s.C (z.trans.flatMap Tr.cells)
 aN:CO lo w s.D (z.aN.flatMap Yr.cells)
def CU (lo:Nat) (w:World) (A:Option Addr) (n:Nat):Prop:=
 n=0∨∃b off,A=some ⟨b,off,none⟩∧lo≤b∧b<w.heap.size∧∀j,w.frozen? ⟨b,off+j,none⟩=false
structure Bo (lo:Nat) (w:World) (A:Option Addr) (zs:List dB):Prop where
 row:CO lo w A (aO zs)
 free:CU lo w A zs.length
 each:∀x∈zs,QQ lo w x.s x.e.z
structure VI (lo:Nat) (w:World) (x:bI):Prop where
 names:x.t.aK=x.zs.map (·.e)
 prev:x.t.prev.length=32
 bn:x.t.bn.length=32
 aK:Bo lo w x.A x.zs
section
variable {lo lo' g:Nat} {w w':World} {A:Option Addr} {cs:List Value} {s:Zs} {z:Zn} {zs:List dB} {x:bI}
theorem CX.own (h:CX lo g w A cs):CO lo w A cs:=h.imp id fun ⟨b,off,h1,h2,h3,_,h5⟩=>⟨b,off,h1,h2,h3,h5⟩
theorem CO.aS (h:CO lo w A cs) (hs:w.heap.size≤w'.heap.size) (hb:∀k,lo≤k→k<w.heap.size→w'.heap[k]? =w.heap[k]?):CO lo w' A cs:=
 h.imp id fun ⟨b,off,h1,h2,h3,h5⟩=>⟨b,off,h1,h2,dP h3 hs,fun j u hu=>(World.cell?_of_block (a:=⟨b,off+j,none⟩) (hb b h2 h3)).trans (h5 j u hu)⟩
theorem CO.lower (h:CO lo w A cs) (hl:lo'≤lo):CO lo' w A cs:=h.imp id fun ⟨b,off,h1,h2,h3,h5⟩=>⟨b,off,h1,by omega,h3,h5⟩
theorem CU.aS {n:Nat} (h:CU lo w A n) (hs:w.heap.size≤w'.heap.size) (hb:∀k,lo≤k→k<w.heap.size→w'.heap[k]? =w.heap[k]?):CU lo w' A n:=
 h.imp id fun ⟨b,off,h1,h2,h3,h5⟩=>⟨b,off,h1,h2,dP h3 hs,fun j=>(World.frozen?_of_block (a:=⟨b,off+j,none⟩) (hb b h2 h3)).trans (h5 j)⟩
theorem CU.lower {n:Nat} (h:CU lo w A n) (hl:lo'≤lo):CU lo' w A n:=h.imp id fun ⟨b,off,h1,h2,h3,h5⟩=>⟨b,off,h1,by omega,h3,h5⟩
theorem CO.at (h:CO lo w A cs):aA w w.heap.size A cs:=h.imp id fun ⟨b,off,h1,_,h3,h5⟩=>⟨b,off,h1,h3,h5⟩
theorem N9.own (h:N9 lo g w s z):QQ lo w s z:=⟨h.az.own,h.rules.own,h.trans.own,h.aN.own⟩
theorem QQ.aS (h:QQ lo w s z) (hs:w.heap.size≤w'.heap.size) (hb:∀k,lo≤k→k<w.heap.size→w'.heap[k]? =w.heap[k]?):QQ lo w' s z:=⟨h.az.aS hs hb,h.rules.aS hs hb,h.trans.aS hs hb,h.aN.aS hs hb⟩
theorem QQ.lower (h:QQ lo w s z) (hl:lo'≤lo):QQ lo' w s z:=⟨h.az.lower hl,h.rules.lower hl,h.trans.lower hl,h.aN.lower hl⟩
theorem QQ.at (h:QQ lo w s z):jG w w.heap.size s z:=⟨h.az.at,h.rules.at,h.trans.at,h.aN.at⟩
theorem Bo.aS (h:Bo lo w A zs) (hs:w.heap.size≤w'.heap.size) (hb:∀k,lo≤k→k<w.heap.size→w'.heap[k]? =w.heap[k]?):Bo lo w' A zs:=⟨h.row.aS hs hb,h.free.aS hs hb,fun x hx=>(h.each x hx).aS hs hb⟩
theorem Bo.lower (h:Bo lo w A zs) (hl:lo'≤lo):Bo lo' w A zs:=⟨h.row.lower hl,h.free.lower hl,fun x hx=>(h.each x hx).lower hl⟩
theorem VI.aS (h:VI lo w x) (hs:w.heap.size≤w'.heap.size) (hb:∀k,lo≤k→k<w.heap.size→w'.heap[k]? =w.heap[k]?):VI lo w' x:=⟨h.names,h.prev,h.bn,h.aK.aS hs hb⟩
theorem VI.lower (h:VI lo w x) (hl:lo'≤lo):VI lo' w x:=⟨h.names,h.prev,h.bn,h.aK.lower hl⟩
theorem CO.eQ {e size n c:Nat} (h:w.ownsRow lo e size (.slice A n c) n cs):CO lo w A cs:=by
 rcases h.2 with ⟨hv,hn⟩|⟨b,cap,cur,hv,hb,hh,_⟩
 ·refine .inl ?_;rw [h.1,hn,Nat.zero_mul]
 ·injection hv with h1 _ _;subst h1;exact .inr ⟨b,0,rfl,hb,(bT.1 hh).1,fun j u hu=>by rw [Nat.zero_add,←addr_add];exact h.cells (g:=b) rfl j u hu⟩
theorem CU.eQ {e size n c:Nat} (h:w.ownsRow lo e size (.slice A n c) n cs):CU lo w A n:=by
 rcases h.2 with ⟨_,hn⟩|⟨b,cap,cur,hv,hb,hh,_⟩
 ·exact .inl hn
 ·injection hv with h1 _ _;subst h1;exact .inr ⟨b,0,rfl,hb,(bT.1 hh).1,fun j=>frozen_of_row w b _ _ _ hh⟩
end
def ClV (w:World) (x:bI) (e:Ending) (w':World):Prop:=
 ∃y:bI,y.t=x.t∧y.zs.map (·.e)=x.zs.map (·.e)∧e= .returned (.agg (ai y.t (.slice y.A y.zs.length y.c)))∧VI w.heap.size w' y∧Below w.heap.size w w'
def CvRel (w:World) (t:Tb) (g n c:Nat) (zs:List dB) (i:Value) (wr:World):Prop:=
 ∃(k:Nat) (ys:List dB),k≤n∧i= .int .i64 k∧ys.length=k∧ys.map (·.e)=(zs.take k).map (·.e)∧zC w t (.slice (some ⟨g,0,none⟩) n c) wr∧
  wr.ownsRow (w.heap.size+2) 90 9 (.slice (some ⟨g,0,none⟩) n c) n (aO (ys++zs.drop k))∧∀y∈ys,N9 (w.heap.size+2) g wr y.s y.e.z
attribute [local go_sem] jy jA jQ bD
theorem IL (t:Tb) (A0:Option Addr) (c0:Nat) (hz:t.aK= []) (h32:t.prev.length=32) (hm:t.bn.length=32) (w:World):Calls Tryz.prog 29 #[.agg (ai t (.slice A0 0 c0))] w (ClV w ⟨t,A0,c0,[]⟩):=by
 have HS:=ae (zC.start w t (.slice A0 0 c0));have dR:Hid (∀v,(Tryz.prog.info? 37).map (·.size)=some (ai t v).size):=ae fun v=>bU t v h32 hm;have mZ:Hid (∀v,Tryz.zeroCells37.size=(ai t v).size):=ae fun v=>(by rw [bF _ _ h32 hm];kernel_rfl);have H3:Hid (t.aK= []∧t.prev.length=32∧t.bn.length=32):=ae ⟨hz,h32,hm⟩;clear hz h32 hm;go_enter Tryz.func29,Tryz.ntmps29;go_wp2_with fail;generalize (w.alloc (.cells (ai t (.slice A0 0 c0)) 37)).alloc (.cells Tryz.zeroCells37 37)=W1 at HS ⊢;have hl0:=HS.out.lt;refine (show Calls Tryz.prog _ _ W1 _ from Oc A0 c0 0 [] W1 .nil rfl (fun _ h=>nomatch h) (by omega)).mono ?_;rintro e w2 ⟨A,c,rfl,hown,hb2⟩;have HS2:=ae (HS.out.grow hb2);have hr2:=HS2.out.row.2;have hf2:∀i,w2.frozen? ⟨w.heap.size,i,none⟩=false:=fun i=>frozen_of_row _ _ i _ _ HS2.out.var;have jU:=ae (HS2.out.store (.slice A 0 c));clear hown hb2 HS hl0;go_wp2_with fail;generalize w2.setCell ⟨w.heap.size,3,none⟩ (.slice A 0 c)=w3 at jU ⊢;clear hr2 hf2
 go_loopw [11] (fun i wr=>i= .int .i64 0∧zC w t (.slice A 0 c) wr) (fun _ _=>0)
 case atStart=>exact ⟨rfl,jU.out⟩
 case round=>
  obtain ⟨rfl,hs⟩:=hrel;have HC:=ae hs;clear hs jU;go_wp2_with (first
   |(with_reducible refine dN 37 ?_;refine aY rfl _ _ rfl w.heap.size rfl (ai t (.slice A 0 c)) HC.out.row _ Tryz.underlying37 rfl (dR.out _) ?_)
   |(with_reducible refine cZ 37 ?_;refine wpList_store_row rfl _ _ _ rfl (w.heap.size+1) (ai t (.slice A 0 c)) rfl rfl 37 Tryz.zeroCells37 HC.out.res (dR.out _) (mZ.out _) (bz _ _ _ _) ?_))
  refine bodyPost_ret (v:= .agg (ai t (.slice A 0 c))) (results_cell_row rfl _ _ (w.heap.size+1) _ (ai t (.slice A 0 c)) (0,0) _ rfl (setRow_heap _ _ _ _ _ _ HC.out.res) Tryz.underlying37 rfl (dR.out _)) rfl ?_;exact ⟨⟨t,A,c,[]⟩,rfl,rfl,rfl,⟨H3.out.1,H3.out.2.1,H3.out.2.2, .inl rfl, .inl rfl,fun _ hx=>nomatch hx⟩,below_setRow HC.out.up (Nat.le_succ _) _⟩
theorem II (t:Tb) (A0:Option Addr) (c0 n:Nat) (zs:List dB) (w:World) (hz:∀x∈zs,pU x.e.z) (hn:zs.length=n) (hn0:0<n) (hn1:n≤1000) (h32:t.prev.length=32) (hm:t.bn.length=32) (hzz:t.aK=zs.map (·.e))
  (hA:lW w w.heap.size A0 zs):
  Calls Tryz.prog 29 #[.agg (ai t (.slice A0 n c0))] w (ClV w ⟨t,A0,c0,zs⟩):=by
 have HS:=ae (zC.start w t (.slice A0 n c0));have dR:Hid (∀v,(Tryz.prog.info? 37).map (·.size)=some (ai t v).size):=ae fun v=>bU t v h32 hm;have mZ:Hid (∀v,Tryz.zeroCells37.size=(ai t v).size):=ae fun v=>(by rw [bF _ _ h32 hm];kernel_rfl);have HZ:=ae hz;have HN:=ae hn;have HA:=ae hA;have H3:Hid (t.aK=zs.map (·.e)∧t.prev.length=32∧t.bn.length=32):=ae ⟨hzz,h32,hm⟩;clear hz hn hA hzz h32 hm;go_enter Tryz.func29,Tryz.ntmps29;go_wp2_with fail;generalize (w.alloc (.cells (ai t (.slice A0 n c0)) 37)).alloc (.cells Tryz.zeroCells37 37)=W1 at HS ⊢;have hl0:=HS.out.lt;refine (show Calls Tryz.prog _ _ W1 _ from Oc A0 c0 n (aO zs) W1 ((HA.out.row.keep HS.out.up).more HS.out.up.size) (by rw [dL,HN.out]) (wJ zs) (by omega)).mono ?_;rintro e w2 ⟨A',c,rfl,hown,hb2⟩;obtain ⟨g,c',hv,_⟩:=dE hown hn0;injection hv with hv1 _ hv3;subst hv1 hv3;have HS2:=ae (HS.out.grow hb2);have hr2:=HS2.out.row.2;have hf2:∀i,w2.frozen? ⟨w.heap.size,i,none⟩=false:=fun i=>frozen_of_row _ _ i _ _ HS2.out.var;have hg1:=kG hown;have jU:=ae (HS2.out.store (.slice (some ⟨g,0,none⟩) n c));have vg:=ae (dW (u:= .slice (some ⟨g,0,none⟩) n c) (p:=⟨w.heap.size,3,none⟩) (bf hown (base':=w.heap.size+2) (by omega)) (by intro h;injection h with h;simp only at h;omega));have hg2:w.heap.size+2≤g:=by omega
 clear hown hb2 HS hl0 hg1;go_wp2_with fail;generalize w2.setCell ⟨w.heap.size,3,none⟩ (.slice (some ⟨g,0,none⟩) n c)=w3 at jU vg ⊢;clear hr2 hf2
 go_loopw [11] (fun i wr=>CvRel w t g n c zs i wr) (fun i _=>n - (intOf i).toNat)
 case atStart=>exact ⟨0,[],Nat.zero_le _,rfl,rfl,rfl,jU.out,vg.out,fun _ h=>nomatch h⟩
 case round=>
  obtain ⟨k,ys,hk,rfl,hyl,hye,hcs,hown,hym⟩:=hrel;have HC:=ae hcs;have HO:=ae hown;have JW:=ae hye;have NV:=ae hym;have nI:=ae hyl;clear hcs hown hye hym hyl jU vg;by_cases hlt:k<n
  ·have hkz:k<zs.length:=by rw [HN.out];exact hlt
   obtain ⟨x,hx⟩:∃x,zs[k]? =some x:=⟨_,bZ hkz⟩;have hd:zs.drop k=x::zs.drop (k+1):=by
    rw [List.drop_eq_getElem_cons hkz];rw [bZ hkz] at hx;injection hx with hx;rw [hx]
   have hown2:=HO.out;rw [hd] at hown2;have pI:=ae hown2;have hxm:=dS hx;have hfl:=HZ.out x hxm;have cc:∀j u,x.cells[j]? =some u→wr.cell? ⟨g,k*9+j,none⟩=some u:=fun j u hu=>by
    have hj:j<9:=(bT.1 hu).1;refine oW hown2 _ _ ?_;rw [lq _ k j x (by rw [List.getElem?_append_right (by have:=nI.out;omega),nI.out];simp) hj];exact hu
   have hwr:g<wr.heap.size:=(kG hown2).2;have fz:∀j,wr.frozen? ⟨g,j,none⟩=false:=xw hown2;have a3:wr.cell? ⟨w.heap.size,3,none⟩=some (.slice (some ⟨g,0,none⟩) n c):=(HC.out.row.2 3).trans rfl;have z0:wr.cell? ⟨g,k*9+1,none⟩=some (I x.e.z.cal.aX):=cc 1 _ rfl;have z1:wr.cell? ⟨g,k*9+2,none⟩=some (.slice x.s.A x.e.z.cal.az.length x.s.a):=cc 2 _ rfl;have z2:wr.cell? ⟨g,k*9+3,none⟩=some (I x.e.z.cal.dM):=cc 3 _ rfl;have z3:wr.cell? ⟨g,k*9+4,none⟩=some (.slice x.s.B x.e.z.cal.rules.length x.s.b):=cc 4 _ rfl;have z4:wr.cell? ⟨g,k*9+5,none⟩=some (I x.e.z.start):=cc 5 _ rfl;have z5:wr.cell? ⟨g,k*9+6,none⟩=some (.slice x.s.C x.e.z.trans.length x.s.c):=cc 6 _ rfl;have z6:wr.cell? ⟨g,k*9+7,none⟩=some (I x.e.z.hor):=cc 7 _ rfl;have z7:wr.cell? ⟨g,k*9+8,none⟩=some (.slice x.s.D x.e.z.aN.length x.s.d):=cc 8 _ rfl;have HCZ:Hid (∀W,Below wr.heap.size wr W→Calls Tryz.prog 42 #[.agg #[I x.e.z.cal.aX, .slice x.s.A x.e.z.cal.az.length x.s.a,I x.e.z.cal.dM, .slice x.s.B x.e.z.cal.rules.length x.s.b,I x.e.z.start, .slice x.s.C x.e.z.trans.length x.s.c,I x.e.z.hor, .slice x.s.D x.e.z.aN.length x.s.d]] W (CzQ W x.e.z)):=
    ae fun W hb=>tN x.e.z x.s W hfl ((HA.out.each x hxm).grow (ah HC.out.up hb))
   have i0:(0:Int)≤(k:Int):=by omega
   have i1:(k:Int)<(n:Int):=by omega
   have hNg:w.heap.size<wr.heap.size:=by omega
   clear cc hkz hd hown2 hfl hxm;have HX:=ae hx;clear hx;go_wp2_with fail;have hk9:k*9+1+8≤n*9:=by omega
   go_region_law (first|(go_simp;go_at_call 42;refine (HCZ.out _ (Below.refl _ _).drew).mono ?_;rintro e w5 ⟨s5,rfl,hown5,hb5⟩;dsimp only [ay];have hs5:=hb5.size;have hc5:w5.cell? ⟨w.heap.size,3,none⟩=some (.slice (some ⟨g,0,none⟩) n c):=(hb5.cell (p:=⟨w.heap.size,3,none⟩) hNg).trans a3;have LM:∀j,w5.cell? ⟨g,j,none⟩=wr.cell? ⟨g,j,none⟩:=fun j=>hb5.cell (p:=⟨g,j,none⟩) hwr;have hf5:∀j,w5.frozen? ⟨g,j,none⟩=false:=fun j=>(hb5.frozen (p:=⟨g,j,none⟩) hwr).trans (fz j);have HW5:=ae hown5;have pO:=ae hb5;clear hown5 hb5 hs5))
   all_goals
    have hO5:w5.ownsRow (w.heap.size+2) 90 9 (.slice (some ⟨g,0,none⟩) n c) n (aO (ys++x::zs.drop (k+1))):=dH pI.out fun j _ h2=>pO.out.block j h2;have hO6:=Ce (ay x.e.z s5).toList (k*9+1) _ _ hO5;rw [←nI.out,xO ys x _ _,nI.out] at hO6;have hC6:=(HC.out.drew.grow pO.out).puts g (k*9+1) (ay x.e.z s5).toList hg2;have hM6:∀y∈ys++ [(⟨x.e,s5⟩:dB)],N9 (w.heap.size+2) g (w5.setCells g (k*9+1) (ay x.e.z s5).toList) y.s y.e.z:=by
     intro y hy;rcases List.mem_append.1 hy with hy|hy
     ·exact (NV.out y hy).aS (by rw [xB];exact pO.out.size) fun j _ hj hjg=>(pg _ _ _ _ _ hjg).trans (pO.out.block j hj)
     ·rw [List.mem_singleton.1 hy];exact ((HW5.out.off (g':=g) hwr).lower (by show w.heap.size+2≤wr.heap.size;have:=HC.out.lt;omega)).aS (by rw [xB];exact Nat.le_refl _) fun j _ _ hjg=>pg _ _ _ _ _ hjg
    have wX:=ae hO6;have sH:=ae hC6;have Zf:=ae hM6;clear hO5 hO6 hC6 hM6 hc5 LM hf5;go_wp2_with fail;go_roundw
    case rel=>
     refine ⟨k+1,ys++ [⟨x.e,s5⟩],by omega,by go_num,by rw [aZ,nI.out];rfl,?_,sH.out,by rw [List.append_assoc];exact wX.out,Zf.out⟩;rw [List.map_append,JW.out,List.take_add_one,HX.out,List.map_append];rfl
    case measure=>simp [intOf];omega
  ·have hkn:k=n:=by omega
   have sW:=ae hkn;have hlt':¬(k:Int)<(n:Int):=by omega
   clear hkn hlt;go_wp2_with (first
    |(with_reducible refine dN 37 ?_;refine aY rfl _ _ rfl w.heap.size rfl (ai t (.slice (some ⟨g,0,none⟩) n c)) HC.out.row _ Tryz.underlying37 rfl (dR.out _) ?_)
    |(with_reducible refine cZ 37 ?_;refine wpList_store_row rfl _ _ _ rfl (w.heap.size+1) (ai t (.slice (some ⟨g,0,none⟩) n c)) rfl rfl 37 Tryz.zeroCells37 HC.out.res (dR.out _) (mZ.out _) (bz _ _ _ _) ?_))
   refine bodyPost_ret (v:= .agg (ai t (.slice (some ⟨g,0,none⟩) n c))) (results_cell_row rfl _ _ (w.heap.size+1) _ (ai t (.slice (some ⟨g,0,none⟩) n c)) (0,0) _ rfl (setRow_heap _ _ _ _ _ _ HC.out.res) Tryz.underlying37 rfl (dR.out _)) rfl ?_;have hd:ys++zs.drop k=ys:=by rw [List.drop_of_length_le (by rw [HN.out,sW.out];exact Nat.le_refl _),List.append_nil]
   have hrow:=HO.out;rw [hd] at hrow;have hyn:ys.length=n:=nI.out.trans sW.out;have hye:ys.map (·.e)=zs.map (·.e):=by rw [JW.out,sW.out,List.take_of_length_le (by rw [HN.out];exact Nat.le_refl _)]
   have hrow2:(wr.setRow (w.heap.size+1) (ai t (.slice (some ⟨g,0,none⟩) n c))).ownsRow (w.heap.size+2) 90 9 (.slice (some ⟨g,0,none⟩) n c) n (aO ys):=dH hrow fun j h1 _=>setRow_other _ _ j _ (by omega);refine ⟨⟨t,some ⟨g,0,none⟩,c,ys⟩,rfl,hye,by rw [hyn],⟨H3.out.1.trans hye.symm,H3.out.2.1,H3.out.2.2,(CO.eQ hrow2).lower (by omega),hyn.symm▸(CU.eQ hrow2).lower (by omega),fun y hy=>?_⟩,below_setRow HC.out.up (Nat.le_succ _) _⟩;exact ((NV.out y hy).aS (by simp [World.setRow]) fun j h1 _ _=>setRow_other _ _ j _ (by omega)).own.lower (by omega)
theorem BJ (x:bI) (n:Nat) (w:World) (hn:x.zs.length=n) (hn1:n≤1000) (hl:∀y∈x.zs,pU y.e.z) (h:jE w w.heap.size x):
  Calls Tryz.prog 29 #[.agg (ai x.t (.slice x.A n x.c))] w (ClV w x):=by
 obtain ⟨t,A,c,zs⟩:=x;by_cases h0:n=0
 ·subst h0;have hz:zs= []:=List.eq_nil_of_length_eq_zero hn;subst hz;exact IL t A c h.names h.prev h.bn w
 ·exact II t A c n zs w hl hn (by omega) hn1 h.prev h.bn h.names h.aK
end Go.Proofs.YtdibbemgpikgjaaGreatDoor
namespace Go.Proofs.YtdibbemgpikgjaaGreatDoor
open Go Go.RowKit
theorem iJ {P:Program} {ops:Array Oper} {Q:Exit→Act→World→Prop} {rest:List Oper} {a:Act} {w:World} {d:Option Tmp} {t:TypeId} {pos:String} {af:Array Edge} {g:Option (Nat×Bool)} (ty:TypeId) {x:Array (Nat×Operand)} (h:wpList P ops Q (⟨d, .build ty x,t,pos,af,g⟩::rest) a w):wpList P ops Q (⟨d, .build ty x,t,pos,af,g⟩::rest) a w:=h
theorem Lj (ts:List bI) (pre:List (El ts)):(dK ts pre).1= -1∨∃i:Nat,i<ts.length∧(dK ts pre).1=(i:Int):=by
 unfold dK;have:∀(l:List (El ts)) (st:Int×List Bool),(st.1= -1∨∃i:Nat,i<ts.length∧st.1=(i:Int))→((l.foldl (fun st x=>gY st x.1) st).1= -1∨∃i:Nat,i<ts.length∧(l.foldl (fun st x=>gY st x.1) st).1=(i:Int)):=by
  intro l
  induction l with
  |nil=>intro st h;exact h
  |cons x l ih=>
   intro st h;rw [List.foldl_cons];refine ih _ ?_;unfold gY;split
   ·exact h
   ·dsimp only;split
    ·exact .inr ⟨x.1.1,(eG.1 x.2).1,rfl⟩
    ·exact h
 exact this pre _ (.inl rfl)
theorem BM {ts:List bI} {p:Int} {b:Bool} (h:vW ts=(p,b)):p<0∨∃i x,p=((i:Nat):Int)∧(b=true→ts[i]? =some x):=by
 unfold vW at h;split at h
 ·injection h with h1 h2;rcases Lj ts (KQ ts ts.length) with h3|⟨i,hi,h3⟩
  ·exact .inl (by omega)
  ·exact .inr ⟨i,ts[i],by omega,fun _=>bZ hi⟩
 ·injection h with h1 h2;subst h1 h2;exact .inr ⟨0,⟨⟨0,0,0,[],[],[]⟩,none,0,[]⟩,rfl,fun h=>nomatch h⟩
def yQ (ts:List bI):Prop:=∀x∈ts,x.zs.length≤1000∧∀y∈x.zs,pU y.e.z
def NewP (w:World) (ts:List bI) (e:Ending) (w':World):Prop:=
 Below w.heap.size w w'∧∃p b,vW ts=(p,b)∧((b=false∧e= .returned (.tuple #[.agg Tryz.zeroCells37,I 1]))∨(b=true∧p<0∧e= .returned (.tuple #[.agg Tryz.zeroCells37,I 4]))∨
  (b=true∧∃i x y,p=((i:Nat):Int)∧ts[i]? =some x∧y.t=x.t∧y.zs.map (·.e)=x.zs.map (·.e)∧e= .returned (.tuple #[.agg (ai y.t (.slice y.A y.zs.length y.c)),I 0])∧VI w.heap.size w' y))
theorem AL:(Tryz.prog.info? 37).map (·.size)=some Tryz.zeroCells37.size:=by kernel_rfl
theorem UL:Tryz.zeroCells37.all (·.oneCell')=true:=by kernel_rfl
theorem UK:(Tryz.prog.info? 37).map (fun i=>(i.zero,i.size))=some (some (.agg Tryz.zeroCells37),Tryz.zeroCells37.size):=by kernel_rfl
theorem L9 (A:Option Addr) (c n:Nat) (ts:List bI) (w:World) (hn:ts.length=n) (hn1:n≤1000) (hl:yQ ts) (h:gq w w.heap.size A ts):
  Calls Tryz.prog 38 #[.slice A n c] w (NewP w ts):=by
 have HR0:=ae (heap_alloc_last w (.cells Tryz.zeroCells37 37));have HB0:=ae (ag w (.cells Tryz.zeroCells37 37));have HC:=ae (yY A c n ts (w.alloc (.cells Tryz.zeroCells37 37)) hn hn1 (h.grow (ag w _)));have HN:=ae hn;have HL:=ae hl;have QY:=ae h;clear hn hl h;go_enter Tryz.func38,Tryz.ntmps38;go_wp2_with (first
  |(with_reducible refine bC 37 ?_;refine dw rfl _ rfl Tryz.zeroCells37 UK ?_))
 refine HC.out.mono ?_;rintro e w1 ⟨p,b,rfl,hp,hb1⟩;have HR1:=ae ((hb1.block _ (by simp)).trans HR0.out);have HB1:=ae (ah HB0.out hb1);have HP:=ae hp;have hrg:=BM hp;clear hb1 hp HC HR0 HB0;cases b with
 |false=>
  clear hrg;go_wp2_with (first
   |((with_reducible refine iJ 37 ?_);refine di rfl _ rfl Tryz.zeroCells37 (by kernel_rfl) ?_)
   |((with_reducible refine cZ 37 ?_);refine wpList_store_row rfl _ _ _ rfl w.heap.size Tryz.zeroCells37 rfl rfl 37 Tryz.zeroCells37 HR1.out AL rfl UL ?_))
  refine bodyPost_ret (v:= .tuple #[.agg Tryz.zeroCells37,I 1]) (bK rfl _ _ w.heap.size _ Tryz.zeroCells37 (0,0) _ rfl (setRow_heap _ _ _ _ _ _ HR1.out) Tryz.underlying37 rfl AL _ rfl) rfl ?_;exact ⟨below_setRow HB1.out (Nat.le_refl _) _,p,false,HP.out, .inl ⟨rfl,rfl⟩⟩
 |true=>
  rcases hrg with hneg|⟨i,x,rfl,hx⟩
  ·go_wp2_with (first
    |((with_reducible refine iJ 37 ?_);refine di rfl _ rfl Tryz.zeroCells37 (by kernel_rfl) ?_)
    |((with_reducible refine cZ 37 ?_);refine wpList_store_row rfl _ _ _ rfl w.heap.size Tryz.zeroCells37 rfl rfl 37 Tryz.zeroCells37 HR1.out AL rfl UL ?_))
   refine bodyPost_ret (v:= .tuple #[.agg Tryz.zeroCells37,I 4]) (bK rfl _ _ w.heap.size _ Tryz.zeroCells37 (0,0) _ rfl (setRow_heap _ _ _ _ _ _ HR1.out) Tryz.underlying37 rfl AL _ rfl) rfl ?_;exact ⟨below_setRow HB1.out (Nat.le_refl _) _,p,true,HP.out, .inr (.inl ⟨rfl,hneg,rfl⟩)⟩
  ·have hx:=hx rfl;have hil:i<n:=by have h1:=(eG.1 hx).1;have:=HN.out;omega
   have hxm:=dS hx;have HAT:Hid (jE w1 w1.heap.size x):=ae ((QY.out.each x hxm).grow HB1.out);have h68:=(QY.out.each x hxm).size;obtain ⟨b,off,rfl,hbw,htab⟩:∃b off,A=some ⟨b,off,none⟩∧b<w.heap.size∧mf w b off ts:=by
    rcases oz QY.out with h0|h0
    ·have:=HN.out;omega
    ·exact h0
   have Ej:Hid (w1.rangeAt b (off+i*68) x.cells):=ae (aQ (htab i x hx).1 HB1.out hbw);have dR:Hid ((Tryz.prog.info? 37).map (·.size)=some x.cells.length):=ae (by rw [h68];kernel_rfl);have HX:=ae hx;have HLX:=ae (HL.out x hxm);have i0:(0:Int)≤(i:Int):=by omega
   have i1:(i:Int)<(n:Int):=by omega
   clear hx hxm h68 htab;go_wp2_with (with_reducible refine dN 37 ?_;refine wpList_load_mid rfl _ _ rfl b (off+i*68) rfl x.cells _ Ej.out Tryz.underlying37 rfl dR.out ?_);refine (show Calls Tryz.prog _ #[.agg x.cells.toArray] w1 _ from BJ x x.zs.length w1 rfl HLX.out.1 HLX.out.2 HAT.out).mono ?_;rintro e w2 ⟨y,hy1,hy2,rfl,hy3,hb2⟩;have HY:=ae (show y.t=x.t∧y.zs.map (·.e)=x.zs.map (·.e)∧VI w1.heap.size w2 y from ⟨hy1,hy2,hy3⟩);have HR2:=ae ((hb2.block _ (bT.1 HR1.out).1).trans HR1.out);have HB2:=ae (ah HB1.out hb2);have hlt1:=(bT.1 HR1.out).1;have HSY:=ae (bU y.t (.slice y.A y.zs.length y.c) hy3.prev hy3.bn);have HZY:Hid (Tryz.zeroCells37.size=(ai y.t (.slice y.A y.zs.length y.c)).size):=ae (by rw [bF _ _ hy3.prev hy3.bn];kernel_rfl);clear hy1 hy2 hy3 hb2;go_wp2_with ((with_reducible refine cZ 37 ?_);refine wpList_store_row rfl _ _ _ rfl w.heap.size (ai y.t (.slice y.A y.zs.length y.c)) rfl rfl 37 Tryz.zeroCells37 HR2.out HSY.out HZY.out (bz _ _ _ _) ?_);refine bodyPost_ret (v:= .tuple #[.agg (ai y.t (.slice y.A y.zs.length y.c)),I 0]) (bK rfl _ _ w.heap.size _ (ai y.t (.slice y.A y.zs.length y.c)) (0,0) _ rfl (setRow_heap _ _ _ _ _ _ HR2.out) Tryz.underlying37 rfl HSY.out _ rfl) rfl ?_;refine ⟨below_setRow HB2.out (Nat.le_refl _) _,(i:Int),true,HP.out, .inr (.inr ⟨rfl,i,x,y,rfl,HX.out,HY.out.1,HY.out.2.1,rfl,?_⟩)⟩;exact (HY.out.2.2.aS (by simp [World.setRow]) fun k h1 _=>setRow_other _ _ k _ (by omega)).lower (by omega)
end Go.Proofs.YtdibbemgpikgjaaGreatDoor
