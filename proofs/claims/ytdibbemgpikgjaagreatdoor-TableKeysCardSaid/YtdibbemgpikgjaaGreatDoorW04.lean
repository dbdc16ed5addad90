/- The texts Pc, Pd, Dq, Qe, Qd, Qf, Qi, Qj, Qg, in this order. -/
import Derived.Test.YtdibbemgpikgjaaGreatDoorW00
import Derived.Test.YtdibbemgpikgjaaGreatDoorW01
import Derived.Test.YtdibbemgpikgjaaGreatDoorW03
set_option maxRecDepth 10000
set_option maxHeartbeats 8000000
namespace Go.Proofs.YtdibbemgpikgjaaGreatDoor
open Go Go.RowKit
def CX (lo g:Nat) (w:World) (A:Option Addr) (cs:List Value):Prop:=
 cs.length=0∨∃b off,A=some ⟨b,off,none⟩∧lo≤b∧b<w.heap.size∧b≠g∧∀j u,cs[j]? =some u→w.cell? ⟨b,off+j,none⟩=some u
theorem CX.aP {lo g:Nat} {w w':World} {A:Option Addr} {cs:List Value} (h:CX lo g w A cs) (hs:w.heap.size≤w'.heap.size) (hb:∀k,lo≤k→k<w.heap.size→k≠g→w'.heap[k]? =w.heap[k]?):CX lo g w' A cs:=by
 rcases h with h|⟨b,off,h1,h2,h3,h4,h5⟩
 ·exact .inl h
 ·exact .inr ⟨b,off,h1,h2,dQ h3 hs,h4,fun j u hu=>(World.cell?_of_block (a:=⟨b,off+j,none⟩) (hb b h2 h3 h4)).trans (h5 j u hu)⟩
theorem CX.off {lo g g':Nat} {w:World} {A:Option Addr} {cs:List Value} (h:CX lo g w A cs) (hg:g'<lo):CX lo g' w A cs:=by
 rcases h with h|⟨b,off,h1,h2,h3,_,h5⟩
 ·exact .inl h
 ·exact .inr ⟨b,off,h1,h2,h3,by omega,h5⟩
theorem CX.lower {lo lo' g:Nat} {w:World} {A:Option Addr} {cs:List Value} (h:CX lo g w A cs) (hl:lo'≤lo):CX lo' g w A cs:=by
 rcases h with h|⟨b,off,h1,h2,h3,h4,h5⟩
 ·exact .inl h
 ·exact .inr ⟨b,off,h1,by omega,h3,h4,h5⟩
theorem CX.dS {B g e size n c:Nat} {A:Option Addr} {w:World} {cs:List Value} (h:w.ownsRow B e size (.slice A n c) n cs) (hg:g<B):CX B g w A cs:=by
 rcases h.2 with ⟨hv,hn⟩|⟨b,cap,cur,hv,hb,hh,_⟩
 ·refine .inl ?_;rw [h.1,hn,Nat.zero_mul]
 ·injection hv with h1 _ _;subst h1;exact .inr ⟨b,0,rfl,hb,(bT.1 hh).1,by omega,fun j u hu=>by rw [Nat.zero_add,←addr_add];exact h.cells (g:=b) rfl j u hu⟩
structure NM (lo g:Nat) (w:World) (s:Zs) (z:Zn):Prop where
 az:CX lo g w s.A (z.cal.az.map I)
 rules:CX lo g w s.B (z.cal.rules.flatMap Lr.cells)
 trans:CX lo g w s.C (z.trans.flatMap Tr.cells)
 aK:CX lo g w s.D (z.aK.flatMap Yr.cells)
section
variable {lo lo' g g':Nat} {w w':World} {s:Zs} {z:Zn}
theorem NM.aP (h:NM lo g w s z) (hs:w.heap.size≤w'.heap.size) (hb:∀k,lo≤k→k<w.heap.size→k≠g→w'.heap[k]? =w.heap[k]?):NM lo g w' s z:=
 ⟨h.az.aP hs hb,h.rules.aP hs hb,h.trans.aP hs hb,h.aK.aP hs hb⟩
theorem NM.off (h:NM lo g w s z) (hg:g'<lo):NM lo g' w s z:=⟨h.az.off hg,h.rules.off hg,h.trans.off hg,h.aK.off hg⟩
theorem NM.lower (h:NM lo g w s z) (hl:lo'≤lo):NM lo' g w s z:=⟨h.az.lower hl,h.rules.lower hl,h.trans.lower hl,h.aK.lower hl⟩
end
structure pW (z:Zn):Prop where
 az:z.cal.az.length≤10000
 rules:z.cal.rules.length≤10000
 trans:z.trans.length≤10000
 aK:z.aK.length≤10000
def iT:Array Value:= #[I 0, .slice none 0 0,I 0, .slice none 0 0,I 0, .slice none 0 0,I 0, .slice none 0 0]
structure G5 (w:World) (cs:Array Value) (W:World):Prop where
 var:W.heap[w.heap.size]? =some (.cells cs 67 (0,0))
 res:W.heap[w.heap.size+1]? =some (.cells iT 67 (0,0))
 up:Below w.heap.size w W
section
variable {w W W':World} {cs:Array Value}
theorem G5.lt (h:G5 w cs W):w.heap.size+1<W.heap.size:=(bT.1 h.res).1
theorem G5.grow (h:G5 w cs W) (hb:Below W.heap.size W W'):G5 w cs W':=
 ⟨(hb.block _ (by have:=h.lt;omega)).trans h.var,(hb.block _ h.lt).trans h.res,ah h.up hb⟩
theorem G5.store (h:G5 w cs W) (o:Nat) (v:Value):G5 w (cs.setIfInBounds o v) (W.setCell ⟨w.heap.size,o,none⟩ v):=
 ⟨heap_setCell_same W _ o _ _ _ h.var,(heap_setCell_other W _ _ v (by show w.heap.size+1≠w.heap.size;omega)).trans h.res,h.up.setCell (p:=⟨w.heap.size,o,none⟩) (Nat.le_refl _) _⟩
theorem G5.start (w:World) (cs:Array Value):G5 w cs ((w.alloc (.cells cs 67)).alloc (.cells iT 67)):=
 ⟨heap_alloc2_old w _ _,heap_alloc2_new w _ _,ah (ag w _) (ag _ _)⟩
theorem G5.row (h:G5 w cs W):Row W w.heap.size cs:=⟨by have:=h.lt;omega,fun i=>cell_of_row W _ i _ _ _ h.var⟩
end
theorem mX {w W:World} {o:Nat} {v:Value} {lo g:Nat} {A:Option Addr} {cs:List Value} (h:CX lo g W A cs) (hlo:w.heap.size+2≤lo):CX lo g (W.setCell ⟨w.heap.size,o,none⟩ v) A cs:=
 h.aP (by simp [World.setCell]) fun k h1 _ _=>heap_setCell_other W _ k _ (by show k≠w.heap.size;omega)
def CzQ (w:World) (z:Zn) (e:Ending) (w':World):Prop:=∃s,e= .returned (.agg (ay z s))∧NM w.heap.size w.heap.size w' s z∧Below w.heap.size w w'
theorem Xc (z:Zn) (s:Zs):(ay z s)[1]? =some (.slice s.A z.cal.az.length s.a):=rfl
theorem Xd (z:Zn) (s:Zs):(ay z s)[3]? =some (.slice s.B z.cal.rules.length s.b):=rfl
theorem Xe (z:Zn) (s:Zs):(ay z s)[5]? =some (.slice s.C z.trans.length s.c):=rfl
theorem Xf (z:Zn) (s:Zs):(ay z s)[7]? =some (.slice s.D z.aK.length s.d):=rfl
attribute [local go_sem] Xc Xd Xe Xf
theorem uk (z:Zn) (s:Zs) (w:World) (hL:pW z) (hA:jy w w.heap.size s z):Calls Tryz.prog 42 #[.agg (ay z s)] w (CzQ w z):=by
 have HS:=ae (G5.start w (ay z s));have HL:=ae hL;have HA:=ae hA;clear hL hA;go_enter Tryz.func42,Tryz.ntmps42;go_wp2_with (with_reducible refine bn 67 ?_;refine dh rfl _ rfl iT (by kernel_rfl) ?_);generalize (w.alloc (.cells (ay z s) 67)).alloc (.cells iT 67)=W0 at HS ⊢;have uV:=HS;have c0:W0.cell? ⟨w.heap.size,1,none⟩=some (.slice s.A z.cal.az.length s.a):=uV.out.row.2 1;have f0:∀i,W0.frozen? ⟨w.heap.size,i,none⟩=false:=fun i=>frozen_of_row _ _ i _ _ uV.out.var;refine (show Calls Tryz.prog _ _ W0 _ from Vm s.A s.a z.cal.az.length (z.cal.az.map I) W0 (HA.out.az.keep uV.out.up |>.more uV.out.up.size) (by rw [List.length_map];omega) (by intro u hu;obtain ⟨q,_,rfl⟩:=List.mem_map.1 hu;rfl) HL.out.az).mono ?_;rintro e w1 ⟨A1,a1,rfl,hown,hb⟩;have U4:=ae (uV.out.grow hb);have hr1:∀i,w1.cell? ⟨w.heap.size,i,none⟩=_:=U4.out.row.2;have hf1:∀i,w1.frozen? ⟨w.heap.size,i,none⟩=false:=fun i=>frozen_of_row _ _ i _ _ U4.out.var;have v1:w1.cell? ⟨w.heap.size,1,none⟩=some (.slice s.A z.cal.az.length s.a):=hr1 1;have hlt1:=uV.out.lt;have n1:w1.cell? ⟨w.heap.size,3,none⟩=some (.slice s.B z.cal.rules.length s.b):=hr1 3;have J6:Hid (CX (w.heap.size+2) w.heap.size (w1.setCell ⟨w.heap.size,1,none⟩ (.slice A1 z.cal.az.length a1)) A1 (z.cal.az.map I)):=ae (mX ((CX.dS hown (by omega)).lower (by omega)) (Nat.le_refl _));have su:Hid (G5 w (ay z ⟨A1,a1,s.B,s.b,s.C,s.c,s.D,s.d⟩) (w1.setCell ⟨w.heap.size,1,none⟩ (.slice A1 z.cal.az.length a1))):=ae (U4.out.store 1 (.slice A1 z.cal.az.length a1));clear hown hb hr1 c0 f0;go_wp2_with fail;generalize hW1:w1.setCell ⟨w.heap.size,1,none⟩ (.slice A1 z.cal.az.length a1)=W1 at su J6 ⊢;have iP:=su;have HX1_1:=J6;have c1:W1.cell? ⟨w.heap.size,3,none⟩=some (.slice s.B z.cal.rules.length s.b):=iP.out.row.2 3;have f1:∀i,W1.frozen? ⟨w.heap.size,i,none⟩=false:=fun i=>frozen_of_row _ _ i _ _ iP.out.var;clear v1 n1 hf1 hlt1 su U4 hW1 J6;refine (show Calls Tryz.prog _ _ W1 _ from Vp s.B s.b z.cal.rules.length (z.cal.rules.flatMap Lr.cells) W1 (HA.out.rules.keep iP.out.up |>.more iP.out.up.size) (by rw [dN (s:=3) Lr.cells _ fun _ _=>rfl]) (FK Lr.cells _ fun x _=>VZ x) HL.out.rules).mono ?_;rintro e w2 ⟨A2,a2,rfl,hown,hb⟩;have U5:=ae (iP.out.grow hb);have hr2:∀i,w2.cell? ⟨w.heap.size,i,none⟩=_:=U5.out.row.2;have hf2:∀i,w2.frozen? ⟨w.heap.size,i,none⟩=false:=fun i=>frozen_of_row _ _ i _ _ U5.out.var;have v2:w2.cell? ⟨w.heap.size,3,none⟩=some (.slice s.B z.cal.rules.length s.b):=hr2 3;have hlt2:=iP.out.lt;have n2:w2.cell? ⟨w.heap.size,5,none⟩=some (.slice s.C z.trans.length s.c):=hr2 5;have J7:=ae (mX (o:=3) (v:= .slice A2 z.cal.rules.length a2) (HX1_1.out.aP hb.size fun k _ h2 _=>hb.block k h2) (Nat.le_refl _));have J9:Hid (CX (w.heap.size+2) w.heap.size (w2.setCell ⟨w.heap.size,3,none⟩ (.slice A2 z.cal.rules.length a2)) A2 (z.cal.rules.flatMap Lr.cells)):=ae (mX ((CX.dS hown (by omega)).lower (by omega)) (Nat.le_refl _));have su:Hid (G5 w (ay z ⟨A1,a1,A2,a2,s.C,s.c,s.D,s.d⟩) (w2.setCell ⟨w.heap.size,3,none⟩ (.slice A2 z.cal.rules.length a2))):=ae (U5.out.store 3 (.slice A2 z.cal.rules.length a2));clear hown hb hr2 c1 f1;go_wp2_with fail;generalize hW2:w2.setCell ⟨w.heap.size,3,none⟩ (.slice A2 z.cal.rules.length a2)=W2 at su J7 J9 ⊢;have HS2:=su;have HX1_2:=J7;have HX2_2:=J9;have c2:W2.cell? ⟨w.heap.size,5,none⟩=some (.slice s.C z.trans.length s.c):=HS2.out.row.2 5;have f2:∀i,W2.frozen? ⟨w.heap.size,i,none⟩=false:=fun i=>frozen_of_row _ _ i _ _ HS2.out.var;clear v2 n2 hf2 hlt2 su U5 hW2 J7 J9;refine (show Calls Tryz.prog _ _ W2 _ from Vr s.C s.c z.trans.length (z.trans.flatMap Tr.cells) W2 (HA.out.trans.keep HS2.out.up |>.more HS2.out.up.size) (by rw [dN (s:=2) Tr.cells _ fun _ _=>rfl]) (FK Tr.cells _ fun x _=>uC x) HL.out.trans).mono ?_;rintro e w3 ⟨A3,a3,rfl,hown,hb⟩;have U6:=ae (HS2.out.grow hb);have hr3:∀i,w3.cell? ⟨w.heap.size,i,none⟩=_:=U6.out.row.2;have hf3:∀i,w3.frozen? ⟨w.heap.size,i,none⟩=false:=fun i=>frozen_of_row _ _ i _ _ U6.out.var;have v3:w3.cell? ⟨w.heap.size,5,none⟩=some (.slice s.C z.trans.length s.c):=hr3 5;have hlt3:=HS2.out.lt
 have n3:w3.cell? ⟨w.heap.size,7,none⟩=some (.slice s.D z.aK.length s.d):=hr3 7;have J8:=ae (mX (o:=5) (v:= .slice A3 z.trans.length a3) (HX1_2.out.aP hb.size fun k _ h2 _=>hb.block k h2) (Nat.le_refl _));have Ko:=ae (mX (o:=5) (v:= .slice A3 z.trans.length a3) (HX2_2.out.aP hb.size fun k _ h2 _=>hb.block k h2) (Nat.le_refl _));have Kq:Hid (CX (w.heap.size+2) w.heap.size (w3.setCell ⟨w.heap.size,5,none⟩ (.slice A3 z.trans.length a3)) A3 (z.trans.flatMap Tr.cells)):=ae (mX ((CX.dS hown (by omega)).lower (by omega)) (Nat.le_refl _));have su:Hid (G5 w (ay z ⟨A1,a1,A2,a2,A3,a3,s.D,s.d⟩) (w3.setCell ⟨w.heap.size,5,none⟩ (.slice A3 z.trans.length a3))):=ae (U6.out.store 5 (.slice A3 z.trans.length a3));clear hown hb hr3 c2 f2;go_wp2_with fail;generalize hW3:w3.setCell ⟨w.heap.size,5,none⟩ (.slice A3 z.trans.length a3)=W3 at su J8 Ko Kq ⊢;have jV:=su;have HX1_3:=J8;have HX2_3:=Ko;have HX3_3:=Kq;have c3:W3.cell? ⟨w.heap.size,7,none⟩=some (.slice s.D z.aK.length s.d):=jV.out.row.2 7;have f3:∀i,W3.frozen? ⟨w.heap.size,i,none⟩=false:=fun i=>frozen_of_row _ _ i _ _ jV.out.var;clear v3 n3 hf3 hlt3 su U6 hW3 J8 Ko Kq;refine (show Calls Tryz.prog _ _ W3 _ from Vt s.D s.d z.aK.length (z.aK.flatMap Yr.cells) W3 (HA.out.aK.keep jV.out.up |>.more jV.out.up.size) (by rw [dN (s:=5) Yr.cells _ fun _ _=>rfl]) (FK Yr.cells _ fun x _=>mP x) HL.out.aK).mono ?_;rintro e w4 ⟨A4,a4,rfl,hown,hb⟩;have YJ:=ae (jV.out.grow hb);have hr4:∀i,w4.cell? ⟨w.heap.size,i,none⟩=_:=YJ.out.row.2;have hf4:∀i,w4.frozen? ⟨w.heap.size,i,none⟩=false:=fun i=>frozen_of_row _ _ i _ _ YJ.out.var;have v4:w4.cell? ⟨w.heap.size,7,none⟩=some (.slice s.D z.aK.length s.d):=hr4 7;have hlt4:=jV.out.lt;have Y1:=ae (mX (o:=7) (v:= .slice A4 z.aK.length a4) (HX1_3.out.aP hb.size fun k _ h2 _=>hb.block k h2) (Nat.le_refl _));have Y2:=ae (mX (o:=7) (v:= .slice A4 z.aK.length a4) (HX2_3.out.aP hb.size fun k _ h2 _=>hb.block k h2) (Nat.le_refl _));have Y3:=ae (mX (o:=7) (v:= .slice A4 z.aK.length a4) (HX3_3.out.aP hb.size fun k _ h2 _=>hb.block k h2) (Nat.le_refl _));have Y4:Hid (CX (w.heap.size+2) w.heap.size (w4.setCell ⟨w.heap.size,7,none⟩ (.slice A4 z.aK.length a4)) A4 (z.aK.flatMap Yr.cells)):=ae (mX ((CX.dS hown (by omega)).lower (by omega)) (Nat.le_refl _));have su:Hid (G5 w (ay z ⟨A1,a1,A2,a2,A3,a3,A4,a4⟩) (w4.setCell ⟨w.heap.size,7,none⟩ (.slice A4 z.aK.length a4))):=ae (YJ.out.store 7 (.slice A4 z.aK.length a4));clear hown hb hr4 c3 f3;go_wp2_with (first
  |(with_reducible refine dY 67 ?_;refine aV rfl _ _ rfl w.heap.size rfl (ay z ⟨A1,a1,A2,a2,A3,a3,A4,a4⟩) su.out.row _ Tryz.underlying67 rfl (lV _ _) ?_)
  |(with_reducible refine bW 67 ?_;refine wpList_store_row rfl _ _ _ rfl (w.heap.size+1) (ay z ⟨A1,a1,A2,a2,A3,a3,A4,a4⟩) rfl rfl 67 iT su.out.res (lV _ _) rfl (Dk _ _) ?_))
 refine bodyPost_ret (v:= .agg (ay z ⟨A1,a1,A2,a2,A3,a3,A4,a4⟩)) (results_cell_row rfl _ _ (w.heap.size+1) _ (ay z ⟨A1,a1,A2,a2,A3,a3,A4,a4⟩) (0,0) _ rfl (setRow_heap _ _ _ _ _ _ su.out.res) Tryz.underlying67 rfl (lV _ _)) rfl ?_;have hb:∀(W:World) (cs:Array Value) (k:Nat),w.heap.size+2≤k→(W.setRow (w.heap.size+1) cs).heap[k]? =W.heap[k]? :=fun W cs k hk=>setRow_other _ _ k _ (by omega);have hX:∀ {A:Option Addr} {cs:List Value} {W:World} {rc:Array Value},CX (w.heap.size+2) w.heap.size W A cs→CX w.heap.size w.heap.size (W.setRow (w.heap.size+1) rc) A cs:=fun h=>(h.aP (by simp [World.setRow]) fun k h1 _ _=>hb _ _ k h1).lower (by omega);exact ⟨⟨A1,a1,A2,a2,A3,a3,A4,a4⟩,rfl,⟨hX Y1.out,hX Y2.out,hX Y3.out,hX Y4.out⟩,below_setRow su.out.up (Nat.le_succ _) _⟩
end Go.Proofs.YtdibbemgpikgjaaGreatDoor
namespace Go.Proofs.YtdibbemgpikgjaaGreatDoor
open Go Go.RowKit
def CO (lo:Nat) (w:World) (A:Option Addr) (cs:List Value):Prop:=
 cs.length=0∨∃b off,A=some ⟨b,off,none⟩∧lo≤b∧b<w.heap.size∧∀j u,cs[j]? =some u→w.cell? ⟨b,off+j,none⟩=some u
structure Qr (lo:Nat) (w:World) (s:Zs) (z:Zn):Prop where
 az:CO lo w s.A (z.cal.az.map I)
 rules:CO lo w s.B (z.cal.rules.flatMap Lr.cells)
 trans:CO lo w s.C (z.trans.flatMap Tr.cells)
 aK:CO lo w s.D (z.aK.flatMap Yr.cells)
def CU (lo:Nat) (w:World) (A:Option Addr) (n:Nat):Prop:=
 n=0∨∃b off,A=some ⟨b,off,none⟩∧lo≤b∧b<w.heap.size∧∀j,w.frozen? ⟨b,off+j,none⟩=false
structure Bg (lo:Nat) (w:World) (A:Option Addr) (zs:List dD):Prop where
 row:CO lo w A (aO zs)
 free:CU lo w A zs.length
 each:∀x∈zs,Qr lo w x.s x.e.z
structure Vg (lo:Nat) (w:World) (x:dI):Prop where
 names:x.t.aS=x.zs.map (·.e)
 prev:x.t.prev.length=32
 bz:x.t.bz.length=32
 aS:Bg lo w x.A x.zs
section
variable {lo lo' g:Nat} {w w':World} {A:Option Addr} {cs:List Value} {s:Zs} {z:Zn} {zs:List dD} {x:dI}
theorem CX.own (h:CX lo g w A cs):CO lo w A cs:=h.imp id fun ⟨b,off,h1,h2,h3,_,h5⟩=>⟨b,off,h1,h2,h3,h5⟩
theorem CO.aP (h:CO lo w A cs) (hs:w.heap.size≤w'.heap.size) (hb:∀k,lo≤k→k<w.heap.size→w'.heap[k]? =w.heap[k]?):CO lo w' A cs:=
 h.imp id fun ⟨b,off,h1,h2,h3,h5⟩=>⟨b,off,h1,h2,dQ h3 hs,fun j u hu=>(World.cell?_of_block (a:=⟨b,off+j,none⟩) (hb b h2 h3)).trans (h5 j u hu)⟩
theorem CO.lower (h:CO lo w A cs) (hl:lo'≤lo):CO lo' w A cs:=h.imp id fun ⟨b,off,h1,h2,h3,h5⟩=>⟨b,off,h1,by omega,h3,h5⟩
theorem CU.aP {n:Nat} (h:CU lo w A n) (hs:w.heap.size≤w'.heap.size) (hb:∀k,lo≤k→k<w.heap.size→w'.heap[k]? =w.heap[k]?):CU lo w' A n:=
 h.imp id fun ⟨b,off,h1,h2,h3,h5⟩=>⟨b,off,h1,h2,dQ h3 hs,fun j=>(World.frozen?_of_block (a:=⟨b,off+j,none⟩) (hb b h2 h3)).trans (h5 j)⟩
theorem CU.lower {n:Nat} (h:CU lo w A n) (hl:lo'≤lo):CU lo' w A n:=h.imp id fun ⟨b,off,h1,h2,h3,h5⟩=>⟨b,off,h1,by omega,h3,h5⟩
theorem CO.at (h:CO lo w A cs):aA w w.heap.size A cs:=h.imp id fun ⟨b,off,h1,_,h3,h5⟩=>⟨b,off,h1,h3,h5⟩
theorem NM.own (h:NM lo g w s z):Qr lo w s z:=⟨h.az.own,h.rules.own,h.trans.own,h.aK.own⟩
theorem Qr.aP (h:Qr lo w s z) (hs:w.heap.size≤w'.heap.size) (hb:∀k,lo≤k→k<w.heap.size→w'.heap[k]? =w.heap[k]?):Qr lo w' s z:=⟨h.az.aP hs hb,h.rules.aP hs hb,h.trans.aP hs hb,h.aK.aP hs hb⟩
theorem Qr.lower (h:Qr lo w s z) (hl:lo'≤lo):Qr lo' w s z:=⟨h.az.lower hl,h.rules.lower hl,h.trans.lower hl,h.aK.lower hl⟩
theorem Qr.at (h:Qr lo w s z):jy w w.heap.size s z:=⟨h.az.at,h.rules.at,h.trans.at,h.aK.at⟩
theorem Bg.aP (h:Bg lo w A zs) (hs:w.heap.size≤w'.heap.size) (hb:∀k,lo≤k→k<w.heap.size→w'.heap[k]? =w.heap[k]?):Bg lo w' A zs:=⟨h.row.aP hs hb,h.free.aP hs hb,fun x hx=>(h.each x hx).aP hs hb⟩
theorem Bg.lower (h:Bg lo w A zs) (hl:lo'≤lo):Bg lo' w A zs:=⟨h.row.lower hl,h.free.lower hl,fun x hx=>(h.each x hx).lower hl⟩
theorem Vg.aP (h:Vg lo w x) (hs:w.heap.size≤w'.heap.size) (hb:∀k,lo≤k→k<w.heap.size→w'.heap[k]? =w.heap[k]?):Vg lo w' x:=⟨h.names,h.prev,h.bz,h.aS.aP hs hb⟩
theorem Vg.lower (h:Vg lo w x) (hl:lo'≤lo):Vg lo' w x:=⟨h.names,h.prev,h.bz,h.aS.lower hl⟩
theorem CO.dS {e size n c:Nat} (h:w.ownsRow lo e size (.slice A n c) n cs):CO lo w A cs:=by
 rcases h.2 with ⟨hv,hn⟩|⟨b,cap,cur,hv,hb,hh,_⟩
 ·refine .inl ?_;rw [h.1,hn,Nat.zero_mul]
 ·injection hv with h1 _ _;subst h1;exact .inr ⟨b,0,rfl,hb,(bT.1 hh).1,fun j u hu=>by rw [Nat.zero_add,←addr_add];exact h.cells (g:=b) rfl j u hu⟩
theorem CU.dS {e size n c:Nat} (h:w.ownsRow lo e size (.slice A n c) n cs):CU lo w A n:=by
 rcases h.2 with ⟨_,hn⟩|⟨b,cap,cur,hv,hb,hh,_⟩
 ·exact .inl hn
 ·injection hv with h1 _ _;subst h1;exact .inr ⟨b,0,rfl,hb,(bT.1 hh).1,fun j=>frozen_of_row w b _ _ _ hh⟩
end
def ClV (w:World) (x:dI) (e:Ending) (w':World):Prop:=
 ∃y:dI,y.t=x.t∧y.zs.map (·.e)=x.zs.map (·.e)∧e= .returned (.agg (ai y.t (.slice y.A y.zs.length y.c)))∧Vg w.heap.size w' y∧Below w.heap.size w w'
def CvRel (w:World) (t:Tb) (g n c:Nat) (zs:List dD) (i:Value) (wr:World):Prop:=
 ∃(k:Nat) (ys:List dD),k≤n∧i= .int .i64 k∧ys.length=k∧ys.map (·.e)=(zs.take k).map (·.e)∧zC w t (.slice (some ⟨g,0,none⟩) n c) wr∧
  wr.ownsRow (w.heap.size+2) 90 9 (.slice (some ⟨g,0,none⟩) n c) n (aO (ys++zs.drop k))∧∀y∈ys,NM (w.heap.size+2) g wr y.s y.e.z
attribute [local go_sem] jQ jR kJ bC
theorem Ir (t:Tb) (A0:Option Addr) (c0:Nat) (hz:t.aS= []) (h32:t.prev.length=32) (hm:t.bz.length=32) (w:World):Calls Tryz.prog 29 #[.agg (ai t (.slice A0 0 c0))] w (ClV w ⟨t,A0,c0,[]⟩):=by
 have HS:=ae (zC.start w t (.slice A0 0 c0));have ed:Hid (∀v,(Tryz.prog.info? 37).map (·.size)=some (ai t v).size):=ae fun v=>cu t v h32 hm;have ni:Hid (∀v,Tryz.zeroCells37.size=(ai t v).size):=ae fun v=>(by rw [bF _ _ h32 hm];kernel_rfl);have H3:Hid (t.aS= []∧t.prev.length=32∧t.bz.length=32):=ae ⟨hz,h32,hm⟩;clear hz h32 hm;go_enter Tryz.func29,Tryz.ntmps29;go_wp2_with fail;generalize (w.alloc (.cells (ai t (.slice A0 0 c0)) 37)).alloc (.cells Tryz.zeroCells37 37)=W1 at HS ⊢;have hl0:=HS.out.lt;refine (show Calls Tryz.prog _ _ W1 _ from NT A0 c0 0 [] W1 .nil rfl (fun _ h=>nomatch h) (by omega)).mono ?_;rintro e w2 ⟨A,c,rfl,hown,hb2⟩;have HS2:=ae (HS.out.grow hb2);have hr2:=HS2.out.row.2;have hf2:∀i,w2.frozen? ⟨w.heap.size,i,none⟩=false:=fun i=>frozen_of_row _ _ i _ _ HS2.out.var;have jV:=ae (HS2.out.store (.slice A 0 c));clear hown hb2 HS hl0;go_wp2_with fail;generalize w2.setCell ⟨w.heap.size,3,none⟩ (.slice A 0 c)=w3 at jV ⊢;clear hr2 hf2
 go_loopw [11] (fun i wr=>i= .int .i64 0∧zC w t (.slice A 0 c) wr) (fun _ _=>0)
 case atStart=>exact ⟨rfl,jV.out⟩
 case round=>
  obtain ⟨rfl,hs⟩:=hrel;have HC:=ae hs;clear hs jV;go_wp2_with (first
   |(with_reducible refine dY 37 ?_;refine aV rfl _ _ rfl w.heap.size rfl (ai t (.slice A 0 c)) HC.out.row _ Tryz.underlying37 rfl (ed.out _) ?_)
   |(with_reducible refine bW 37 ?_;refine wpList_store_row rfl _ _ _ rfl (w.heap.size+1) (ai t (.slice A 0 c)) rfl rfl 37 Tryz.zeroCells37 HC.out.res (ed.out _) (ni.out _) (bu _ _ _ _) ?_))
  refine bodyPost_ret (v:= .agg (ai t (.slice A 0 c))) (results_cell_row rfl _ _ (w.heap.size+1) _ (ai t (.slice A 0 c)) (0,0) _ rfl (setRow_heap _ _ _ _ _ _ HC.out.res) Tryz.underlying37 rfl (ed.out _)) rfl ?_;exact ⟨⟨t,A,c,[]⟩,rfl,rfl,rfl,⟨H3.out.1,H3.out.2.1,H3.out.2.2, .inl rfl, .inl rfl,fun _ hx=>nomatch hx⟩,below_setRow HC.out.up (Nat.le_succ _) _⟩
theorem Io (t:Tb) (A0:Option Addr) (c0 n:Nat) (zs:List dD) (w:World) (hz:∀x∈zs,pW x.e.z) (hn:zs.length=n) (hn0:0<n) (hn1:n≤1000) (h32:t.prev.length=32) (hm:t.bz.length=32) (hzz:t.aS=zs.map (·.e))
  (hA:oz w w.heap.size A0 zs):
  Calls Tryz.prog 29 #[.agg (ai t (.slice A0 n c0))] w (ClV w ⟨t,A0,c0,zs⟩):=by
 have HS:=ae (zC.start w t (.slice A0 n c0));have ed:Hid (∀v,(Tryz.prog.info? 37).map (·.size)=some (ai t v).size):=ae fun v=>cu t v h32 hm;have ni:Hid (∀v,Tryz.zeroCells37.size=(ai t v).size):=ae fun v=>(by rw [bF _ _ h32 hm];kernel_rfl);have HZ:=ae hz;have HN:=ae hn;have HA:=ae hA;have H3:Hid (t.aS=zs.map (·.e)∧t.prev.length=32∧t.bz.length=32):=ae ⟨hzz,h32,hm⟩;clear hz hn hA hzz h32 hm;go_enter Tryz.func29,Tryz.ntmps29;go_wp2_with fail;generalize (w.alloc (.cells (ai t (.slice A0 n c0)) 37)).alloc (.cells Tryz.zeroCells37 37)=W1 at HS ⊢;have hl0:=HS.out.lt;refine (show Calls Tryz.prog _ _ W1 _ from NT A0 c0 n (aO zs) W1 ((HA.out.row.keep HS.out.up).more HS.out.up.size) (by rw [dM,HN.out]) (wR zs) (by omega)).mono ?_;rintro e w2 ⟨A',c,rfl,hown,hb2⟩;obtain ⟨g,c',hv,_⟩:=dE hown hn0;injection hv with hv1 _ hv3;subst hv1 hv3;have HS2:=ae (HS.out.grow hb2);have hr2:=HS2.out.row.2;have hf2:∀i,w2.frozen? ⟨w.heap.size,i,none⟩=false:=fun i=>frozen_of_row _ _ i _ _ HS2.out.var;have hg1:=kH hown;have jV:=ae (HS2.out.store (.slice (some ⟨g,0,none⟩) n c));have wU:=ae (dW (u:= .slice (some ⟨g,0,none⟩) n c) (p:=⟨w.heap.size,3,none⟩) (bD hown (base':=w.heap.size+2) (by omega)) (by intro h;injection h with h;simp only at h;omega));have hg2:w.heap.size+2≤g:=by omega
 clear hown hb2 HS hl0 hg1;go_wp2_with fail;generalize w2.setCell ⟨w.heap.size,3,none⟩ (.slice (some ⟨g,0,none⟩) n c)=w3 at jV wU ⊢;clear hr2 hf2
 go_loopw [11] (fun i wr=>CvRel w t g n c zs i wr) (fun i _=>n - (intOf i).toNat)
 case atStart=>exact ⟨0,[],Nat.zero_le _,rfl,rfl,rfl,jV.out,wU.out,fun _ h=>nomatch h⟩
 case round=>
  obtain ⟨k,ys,hk,rfl,hyl,hye,hcs,hown,hym⟩:=hrel;have HC:=ae hcs;have HO:=ae hown;have JJ:=ae hye;have NF:=ae hym;have nZ:=ae hyl;clear hcs hown hye hym hyl jV wU;by_cases hlt:k<n
  ·have hkz:k<zs.length:=by rw [HN.out];exact hlt
   obtain ⟨x,hx⟩:∃x,zs[k]? =some x:=⟨_,dw hkz⟩;have hd:zs.drop k=x::zs.drop (k+1):=by
    rw [List.drop_eq_getElem_cons hkz];rw [dw hkz] at hx;injection hx with hx;rw [hx]
   have hown2:=HO.out;rw [hd] at hown2;have rC:=ae hown2;have hxm:=fZ hx;have hfl:=HZ.out x hxm;have cc:∀j u,x.cells[j]? =some u→wr.cell? ⟨g,k*9+j,none⟩=some u:=fun j u hu=>by
    have hj:j<9:=(bT.1 hu).1;refine pF hown2 _ _ ?_;rw [lD _ k j x (by rw [List.getElem?_append_right (by have:=nZ.out;omega),nZ.out];simp) hj];exact hu
   have hwr:g<wr.heap.size:=(kH hown2).2;have fz:∀j,wr.frozen? ⟨g,j,none⟩=false:=xx hown2;have a3:wr.cell? ⟨w.heap.size,3,none⟩=some (.slice (some ⟨g,0,none⟩) n c):=(HC.out.row.2 3).trans rfl;have z0:wr.cell? ⟨g,k*9+1,none⟩=some (I x.e.z.cal.aY):=cc 1 _ rfl;have z1:wr.cell? ⟨g,k*9+2,none⟩=some (.slice x.s.A x.e.z.cal.az.length x.s.a):=cc 2 _ rfl;have z2:wr.cell? ⟨g,k*9+3,none⟩=some (I x.e.z.cal.dP):=cc 3 _ rfl;have z3:wr.cell? ⟨g,k*9+4,none⟩=some (.slice x.s.B x.e.z.cal.rules.length x.s.b):=cc 4 _ rfl;have z4:wr.cell? ⟨g,k*9+5,none⟩=some (I x.e.z.start):=cc 5 _ rfl;have z5:wr.cell? ⟨g,k*9+6,none⟩=some (.slice x.s.C x.e.z.trans.length x.s.c):=cc 6 _ rfl;have z6:wr.cell? ⟨g,k*9+7,none⟩=some (I x.e.z.hor):=cc 7 _ rfl;have z7:wr.cell? ⟨g,k*9+8,none⟩=some (.slice x.s.D x.e.z.aK.length x.s.d):=cc 8 _ rfl;have HCZ:Hid (∀W,Below wr.heap.size wr W→Calls Tryz.prog 42 #[.agg #[I x.e.z.cal.aY, .slice x.s.A x.e.z.cal.az.length x.s.a,I x.e.z.cal.dP, .slice x.s.B x.e.z.cal.rules.length x.s.b,I x.e.z.start, .slice x.s.C x.e.z.trans.length x.s.c,I x.e.z.hor, .slice x.s.D x.e.z.aK.length x.s.d]] W (CzQ W x.e.z)):=
    ae fun W hb=>uk x.e.z x.s W hfl ((HA.out.each x hxm).grow (ah HC.out.up hb))
   have i0:(0:Int)≤(k:Int):=by omega
   have i1:(k:Int)<(n:Int):=by omega
   have hNg:w.heap.size<wr.heap.size:=by omega
   clear cc hkz hd hown2 hfl hxm;have HX:=ae hx;clear hx;go_wp2_with fail;have hk9:k*9+1+8≤n*9:=by omega
   go_region_law (first|(go_simp;go_at_call 42;refine (HCZ.out _ (Below.refl _ _).drew).mono ?_;rintro e w5 ⟨s5,rfl,hown5,hb5⟩;dsimp only [ay];have hs5:=hb5.size;have hc5:w5.cell? ⟨w.heap.size,3,none⟩=some (.slice (some ⟨g,0,none⟩) n c):=(hb5.cell (p:=⟨w.heap.size,3,none⟩) hNg).trans a3;have Lu:∀j,w5.cell? ⟨g,j,none⟩=wr.cell? ⟨g,j,none⟩:=fun j=>hb5.cell (p:=⟨g,j,none⟩) hwr;have hf5:∀j,w5.frozen? ⟨g,j,none⟩=false:=fun j=>(hb5.frozen (p:=⟨g,j,none⟩) hwr).trans (fz j);have HW5:=ae hown5;have oO:=ae hb5;clear hown5 hb5 hs5))
   all_goals
    have hO5:w5.ownsRow (w.heap.size+2) 90 9 (.slice (some ⟨g,0,none⟩) n c) n (aO (ys++x::zs.drop (k+1))):=dF rC.out fun j _ h2=>oO.out.block j h2;have Zz:=BV (ay x.e.z s5).toList (k*9+1) _ _ hO5;rw [←nZ.out,xO ys x _ _,nZ.out] at Zz;have hC6:=(HC.out.drew.grow oO.out).puts g (k*9+1) (ay x.e.z s5).toList hg2;have hM6:∀y∈ys++ [(⟨x.e,s5⟩:dD)],NM (w.heap.size+2) g (w5.setCells g (k*9+1) (ay x.e.z s5).toList) y.s y.e.z:=by
     intro y hy;rcases List.mem_append.1 hy with hy|hy
     ·exact (NF.out y hy).aP (by rw [xB];exact oO.out.size) fun j _ hj hjg=>(pJ _ _ _ _ _ hjg).trans (oO.out.block j hj)
     ·rw [List.mem_singleton.1 hy];exact ((HW5.out.off (g':=g) hwr).lower (by show w.heap.size+2≤wr.heap.size;have:=HC.out.lt;omega)).aP (by rw [xB];exact Nat.le_refl _) fun j _ _ hjg=>pJ _ _ _ _ _ hjg
    have qA:=ae Zz;have sQ:=ae hC6;have Yy:=ae hM6;clear hO5 Zz hC6 hM6 hc5 Lu hf5;go_wp2_with fail;go_roundw
    case rel=>
     refine ⟨k+1,ys++ [⟨x.e,s5⟩],by omega,by go_num,by rw [aZ,nZ.out];rfl,?_,sQ.out,by rw [List.append_assoc];exact qA.out,Yy.out⟩;rw [List.map_append,JJ.out,List.take_add_one,HX.out,List.map_append];rfl
    case measure=>simp [intOf];omega
  ·have hkn:k=n:=by omega
   have tJ:=ae hkn;have hlt':¬(k:Int)<(n:Int):=by omega
   clear hkn hlt;go_wp2_with (first
    |(with_reducible refine dY 37 ?_;refine aV rfl _ _ rfl w.heap.size rfl (ai t (.slice (some ⟨g,0,none⟩) n c)) HC.out.row _ Tryz.underlying37 rfl (ed.out _) ?_)
    |(with_reducible refine bW 37 ?_;refine wpList_store_row rfl _ _ _ rfl (w.heap.size+1) (ai t (.slice (some ⟨g,0,none⟩) n c)) rfl rfl 37 Tryz.zeroCells37 HC.out.res (ed.out _) (ni.out _) (bu _ _ _ _) ?_))
   refine bodyPost_ret (v:= .agg (ai t (.slice (some ⟨g,0,none⟩) n c))) (results_cell_row rfl _ _ (w.heap.size+1) _ (ai t (.slice (some ⟨g,0,none⟩) n c)) (0,0) _ rfl (setRow_heap _ _ _ _ _ _ HC.out.res) Tryz.underlying37 rfl (ed.out _)) rfl ?_;have hd:ys++zs.drop k=ys:=by rw [List.drop_of_length_le (by rw [HN.out,tJ.out];exact Nat.le_refl _),List.append_nil]
   have hrow:=HO.out;rw [hd] at hrow;have hyn:ys.length=n:=nZ.out.trans tJ.out;have hye:ys.map (·.e)=zs.map (·.e):=by rw [JJ.out,tJ.out,List.take_of_length_le (by rw [HN.out];exact Nat.le_refl _)]
   have hrow2:(wr.setRow (w.heap.size+1) (ai t (.slice (some ⟨g,0,none⟩) n c))).ownsRow (w.heap.size+2) 90 9 (.slice (some ⟨g,0,none⟩) n c) n (aO ys):=dF hrow fun j h1 _=>setRow_other _ _ j _ (by omega);refine ⟨⟨t,some ⟨g,0,none⟩,c,ys⟩,rfl,hye,by rw [hyn],⟨H3.out.1.trans hye.symm,H3.out.2.1,H3.out.2.2,(CO.dS hrow2).lower (by omega),hyn.symm▸(CU.dS hrow2).lower (by omega),fun y hy=>?_⟩,below_setRow HC.out.up (Nat.le_succ _) _⟩;exact ((NF.out y hy).aP (by simp [World.setRow]) fun j h1 _ _=>setRow_other _ _ j _ (by omega)).own.lower (by omega)
theorem BC (x:dI) (n:Nat) (w:World) (hn:x.zs.length=n) (hn1:n≤1000) (hl:∀y∈x.zs,pW y.e.z) (h:kM w w.heap.size x):
  Calls Tryz.prog 29 #[.agg (ai x.t (.slice x.A n x.c))] w (ClV w x):=by
 obtain ⟨t,A,c,zs⟩:=x;by_cases h0:n=0
 ·subst h0;have hz:zs= []:=List.eq_nil_of_length_eq_zero hn;subst hz;exact Ir t A c h.names h.prev h.bz w
 ·exact Io t A c n zs w hl hn (by omega) hn1 h.prev h.bz h.names h.aS
end Go.Proofs.YtdibbemgpikgjaaGreatDoor
namespace Go.Proofs.YtdibbemgpikgjaaGreatDoor
open Go Go.RowKit
def kZ (x s:Int):Int:=bits BinOp.or IntKind.u32 (x*2 ^ s.toNat%4294967296) (x / 2 ^ (32 - s).toNat)
def au (zs:List Int):Array Value:=(zs.map fun z=>Value.int .u32 z).toArray
theorem aW (zs:List Int):(au zs).size=zs.length:=by simp [au]
theorem bU (zs:List Int) (i:Nat) (h:i<zs.length):(au zs)[i]? =some (.int .u32 (zs[i]?.getD 0)):=by
 simp [au,h]
theorem rH (zs:List Int) (i:Nat) (z:Int):(au zs).setIfInBounds i (.int .u32 z)=au (zs.set i z):=by
 simp [au,List.map_set]
theorem bH (zs:List Int):(au zs).all (·.oneCell')=true:=by
 rw [Array.all_eq_true_iff_forall_mem];intro v hv;simp [au] at hv;obtain ⟨z,_,rfl⟩:=hv;rfl
section
variable {P:Program} {ops:Array Oper} {Q:Exit→Act→World→Prop} {a:Act} {w:World} {rest:List Oper} {o:Oper}
theorem aG (hg:o.guard=none) (t:TypeId) (ho:o.op= .alloc t) (cells:Array Value) (hz:(P.info? t).map (fun i=>(i.zero,i.size))=some (some (.agg cells),cells.size))
  (h:wpList P ops Q rest (a.put o.dst (.pointer (some ⟨w.heap.size,0,none⟩))) (w.alloc (.cells cells t))):wpList P ops Q (o::rest) a w:=by
 refine wpList_plain hg fun K hK=>?_;unfold Oper.wp execOp;simp only [ho,Sem.run_bind,jm w t (.agg cells) _ hz,Result.andThen_ok];exact hK _ _ h
end
def fH (w:World) (b:Nat) (cs:Array Value):Prop:=b<w.heap.size∧∀i,w.cell? ⟨b,i,none⟩=cs[i]?
section
variable {P:Program} {ops:Array Oper} {Q:Exit→Act→World→Prop} {a:Act} {w:World} {rest:List Oper} {o:Oper}
theorem aQ (hw:Region.wanted o (yielded ops a.tmps)=true) (ty:TypeId) (x:Operand) (ho:o.op= .load ty x) (g:Nat) (hx:a.eval x= .pointer (some ⟨g,0,none⟩)) (cs:Array Value) (hr:fH w g cs)
  (d:TypeDesc) (hu:P.underlying ty=some d) (hd:d.isRow=true) (hi:(P.info? ty).map (·.size)=some cs.size)
  (h:wpList P ops Q rest (a.put o.dst (.agg cs)) w):wpList P ops Q (o::rest) a w:=by
 unfold wpList;rw [if_pos hw];have hc:w.rangeAt g 0 cs.toList:=fun j v hv=>by rw [Nat.zero_add,hr.2 j];simpa using hv
 refine .inl (wp_load_mid ty x ho g 0 hx cs.toList d hc hu hd (by rw [hi];simp) ?_);simpa using h
end
theorem aB {B g:Nat} {w0 w:World} (hb:Below B w0 w) (hBg:B≤g) (cs:Array Value):Below B w0 (w.setRow g cs):=
 hb.trans ⟨rfl,rfl,rfl,by simp [World.setRow],fun k hk=>setRow_other w g k cs (by omega)⟩
structure AV (b:Nat) (t:TypeId) (cs:Array Value) (W:World):Prop where
 var:W.heap[b]? =some (.cells cs t (0,0))
section
variable {b g:Nat} {t:TypeId} {cs:Array Value} {W W':World}
theorem AV.lt (h:AV b t cs W):b<W.heap.size:=(bT.1 h.var).1
theorem AV.cell (h:AV b t cs W):∀i,W.cell? ⟨b,i,none⟩=cs[i]? :=fun i=>cell_of_row W _ i _ _ _ h.var
theorem AV.dV (h:AV b t cs W):∀i,W.frozen? ⟨b,i,none⟩=false:=fun i=>frozen_of_row W _ i _ _ h.var
theorem AV.below (h:AV b t cs W) (hb:Below W.heap.size W W'):AV b t cs W':=⟨(hb.block _ h.lt).trans h.var⟩
theorem AV.put (h:AV b t cs W) (o:Nat) (v:Value):AV b t (cs.setIfInBounds o v) (W.setCell ⟨b,o,none⟩ v):=⟨heap_setCell_same W _ o _ _ _ h.var⟩
theorem AV.far (h:AV b t cs W) (hn:b≠g) (o:Nat) (v:Value):AV b t cs (W.setCell ⟨g,o,none⟩ v):=⟨(heap_setCell_other W _ b v hn).trans h.var⟩
theorem AV.drew (h:AV b t cs W):AV b t cs W.drew:=⟨h.var⟩
theorem AV.new (W:World) (cs:Array Value) (t:TypeId):AV W.heap.size t cs (W.alloc (.cells cs t)):=⟨heap_alloc_last W _⟩
end
theorem iV:(Tryz.prog.info? 170).map (fun i=>(i.zero,i.size))=some (some (.agg (au (List.replicate 64 0))),(au (List.replicate 64 0)).size):=by kernel_rfl
section
variable {P:Program} {ops:Array Oper} {o:Oper} {a:Act} {w:World} {K:Act→World→Prop} {Q:Exit→Act→World→Prop} {E:Prop}
theorem jh (hgd:o.guard=none) (t:TypeId) (ho:o.op= .alloc t) (cells:Array Value) (hz:(P.info? t).map (fun i=>(i.zero,i.size))=some (some (.agg cells),cells.size))
  (h:K (a.put o.dst (.pointer (some ⟨w.heap.size,0,none⟩))) (w.alloc (.cells cells t))):if Region.wanted o (yielded ops a.tmps)=true then Oper.wp P o a w K Q else E:=by
 have hw:Region.wanted o (yielded ops a.tmps)=true:=by simp [Region.wanted,hgd]
 rw [if_pos hw];unfold Oper.wp execOp;simp only [ho,Sem.run_bind,jm w t (.agg cells) _ hz,Result.andThen_ok];exact h
theorem ji (hgd:o.guard=none) (ty:TypeId) (x y:Operand) (ho:o.op= .store ty x y) (g:Nat) (cells:Array Value) (hx:a.eval x= .pointer (some ⟨g,0,none⟩)) (hy:a.eval y= .agg cells)
  (t:TypeId) (old:Array Value) (hg:w.heap[g]? =some (.cells old t (0,0))) (hi:(P.info? ty).map (·.size)=some cells.size) (hold:old.size=cells.size) (h1:cells.all (·.oneCell')=true)
  (h:K (a.put o.dst undef) (w.setRow g cells)):if Region.wanted o (yielded ops a.tmps)=true then Oper.wp P o a w K Q else E:=by
 have hw:Region.wanted o (yielded ops a.tmps)=true:=by simp [Region.wanted,hgd]
 rw [if_pos hw];exact wp_store_row ty x y ho g cells hx hy t old hg hi hold h1 h
end
section
variable {P:Program} {ops:Array Oper} {rest:List Oper} {o:Oper} {a:Act} {w:World} {Q:Exit→Act→World→Prop}
theorem fE {ob:Obj} (hgd:o.guard=none) (ty:TypeId) (x y:Operand) (ho:o.op= .store ty x y) (cells:Array Value) (hx:a.eval x= .pointer (some ⟨w.heap.size,0,none⟩)) (hy:a.eval y= .agg cells) (t:TypeId) (old:Array Value) (hob:ob= .cells old t (0,0)) (hi:(P.info? ty).map (·.size)=some cells.size) (hold:old.size=cells.size) (h1:cells.all (·.oneCell')=true)
  (h:∀W,Below w.heap.size w W→w.heap.size<W.heap.size→Row W w.heap.size cells→wpList P ops Q rest (a.put o.dst undef) W):wpList P ops Q (o::rest) a (w.alloc ob):=by
 subst hob;refine wpList_store_row hgd ty x y ho w.heap.size cells hx hy t old (heap_alloc_last w _) hi hold h1 (h _ (below_setRow (ag w _) (Nat.le_refl _) _) (by simp [World.setRow]) (Row.jF (setRow_heap _ _ _ _ _ _ (heap_alloc_last w _))))
end
theorem bJ (w:World) (t:TypeId) (cs:Array Value) (l:List Value) (h:cs.toList=l):∀j u,l[j]? =some u→(w.alloc (.cells cs t)).cell? ((⟨w.heap.size,0,none⟩:Addr).add j)=some u:=by
 intro j u hu;rw [addr_add,cell_of_row _ _ j _ _ _ (heap_alloc_last w _),←Array.getElem?_toList,h];exact hu
theorem own_below {w w':World} {base e size n:Nat} {v:Value} {xs:List Value} (h:w.ownsRow base e size v n xs) (hb:Below w.heap.size w w'):w'.ownsRow base e size v n xs:=
 World.ownsRow.kept (row:=none) h ⟨hb.os,hb.tape,hb.output,hb.size,fun k hk _=>hb.block k hk⟩ (by cases v.ownBlock<;>simp)
theorem Uc {P:Program} {ops:Array Oper} {Q:Exit→Act→World→Prop} {md:Region.Mode} {S:World→Prop} {i:Nat} {oi:Oper} {v:Value} {d:Tmp} {fuel:Nat} {listed:Array Bool} {a:Act} {w:World} (hi:ops[i]? =some oi) (hd:oi.dst=some d)
  (hs:Region.noSelect ops=true) (hf:Region.free md ops listed i=true) (hr:(Region.ready md ops listed).contains i=true)
  (hQ:∀c a w,Q (.panic c) (a.put oi.dst v) w→Q (.panic c) a w) (hy:YieldsIf P ops S oi v a) (hS:S w)
  (h:wpAnyH P md ops Q S fuel (listed.setIfInBounds i true) (a.put (some d) v) w):wpAnyH P md ops Q S (fuel+1) listed a w:=
 wpAnyH_take hi hs hf hr hQ hy hS (by rw [hd];exact h)
theorem bK {P:Program} {ops:Array Oper} {S:World→Prop} {op:Oper} {a:Act} (hw:Region.wanted op (yielded ops a.tmps)=true) (t:TypeId) (parts:Array (Nat×Operand)) (ho:op.op= .build t parts) (cells:Array Value)
  (hb:P.built t (parts.map fun (i,x)=>(i,a.eval x)).toList=some cells):YieldsIf P ops S op (.agg cells) a:=
 .inl ⟨hw,fun w _=>by
  unfold execOp;simp only [ho,Sem.run_bind,run_build w t _ cells hb,Result.andThen_ok];rfl⟩
theorem oU (W:World) (o:Obj):(W.alloc o).heap.size=W.heap.size+1:=by simp
def LV (lo:Nat) (v:Value) (W:World) (A:Option Addr) (cs:List Value):Prop:=
 cs.length=0∨∃b off,A=some ⟨b,off,none⟩∧lo≤b∧b<W.heap.size∧some b≠v.ownBlock∧∀j u,cs[j]? =some u→W.cell? ⟨b,off+j,none⟩=some u
theorem LV.keep {lo:Nat} {v v':Value} {W W':World} {A:Option Addr} {cs:List Value} (h:LV lo v W A cs) (hs:W.heap.size≤W'.heap.size) (hb:∀b,lo≤b→b<W.heap.size→some b≠v.ownBlock→W'.heap[b]? =W.heap[b]? ∧some b≠v'.ownBlock):LV lo v' W' A cs:=by
 rcases h with h|⟨b,off,h1,h2,h3,h4,h5⟩
 ·exact .inl h
 ·exact .inr ⟨b,off,h1,h2,by omega,(hb b h2 h3 h4).2,fun j u hu=>(World.cell?_of_block (a:=⟨b,off+j,none⟩) (hb b h2 h3 h4).1).trans (h5 j u hu)⟩
theorem LV.at {lo:Nat} {v:Value} {W:World} {A:Option Addr} {cs:List Value} (h:LV lo v W A cs):aA W W.heap.size A cs:=by
 rcases h with h|⟨b,off,h1,h2,h3,h4,h5⟩
 ·exact .inl h
 ·exact .inr ⟨b,off,h1,h3,h5⟩
def gB (lo:Nat) (v:Value) (W:World) (s:Zs) (z:Zn):Prop:=LV lo v W s.A (z.cal.az.map I)∧LV lo v W s.B (z.cal.rules.flatMap Lr.cells)∧LV lo v W s.C (z.trans.flatMap Tr.cells)∧LV lo v W s.D (z.aK.flatMap Yr.cells)
theorem gB.keep {lo:Nat} {v v':Value} {W W':World} {s:Zs} {z:Zn} (h:gB lo v W s z) (hs:W.heap.size≤W'.heap.size) (hb:∀b,lo≤b→b<W.heap.size→some b≠v.ownBlock→W'.heap[b]? =W.heap[b]? ∧some b≠v'.ownBlock):gB lo v' W' s z:=
 ⟨h.1.keep hs hb,h.2.1.keep hs hb,h.2.2.1.keep hs hb,h.2.2.2.keep hs hb⟩
theorem gB.at {lo:Nat} {v:Value} {W:World} {s:Zs} {z:Zn} (h:gB lo v W s z):jy W W.heap.size s z:=⟨h.1.at,h.2.1.at,h.2.2.1.at,h.2.2.2.at⟩
def iU (lo:Nat) (v:Value) (W:World) (y:dI):Prop:=LV lo v W y.A (aO y.zs)∧∀z∈y.zs,gB lo v W z.s z.e.z
theorem iU.keep {lo:Nat} {v v':Value} {W W':World} {y:dI} (h:iU lo v W y) (hs:W.heap.size≤W'.heap.size) (hb:∀b,lo≤b→b<W.heap.size→some b≠v.ownBlock→W'.heap[b]? =W.heap[b]? ∧some b≠v'.ownBlock):iU lo v' W' y:=
 ⟨h.1.keep hs hb,fun z hz=>(h.2 z hz).keep hs hb⟩
theorem WC (y:dI):∀u∈y.cells,u.oneCell'=true:=by
 have h:=bu y.t y.A y.zs.length y.c;rw [Array.all_eq_true_iff_forall_mem] at h;intro u hu;exact h u (by simpa [ai,dI.cells] using hu)
theorem AV.pG {b:Nat} {t:TypeId} {cs:Array Value} {W:World} (h:AV b t cs W) (ds:Array Value):AV b t ds (W.setRow b ds):=⟨setRow_heap _ _ _ _ _ _ h.var⟩
theorem AV.rV {b c:Nat} {t:TypeId} {cs:Array Value} {W:World} (h:AV b t cs W) (hn:b≠c) (ds:Array Value):AV b t cs (W.setRow c ds):=⟨(setRow_other _ _ b _ hn).trans h.var⟩
theorem AV.jg {b:Nat} {t:TypeId} {cs:Array Value} {W:World} (h:AV b t cs W):fH W b cs:=⟨h.lt,h.cell⟩
end Go.Proofs.YtdibbemgpikgjaaGreatDoor
