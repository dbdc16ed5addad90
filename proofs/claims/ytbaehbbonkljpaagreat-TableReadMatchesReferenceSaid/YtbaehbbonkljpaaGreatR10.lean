/- The texts Pc, Pd, Pg, in this order. -/
import Derived.Test.YtbaehbbonkljpaaGreatR00
import Derived.Test.YtbaehbbonkljpaaGreatR04
import Derived.Test.YtbaehbbonkljpaaGreatR09
set_option maxRecDepth 10000
set_option maxHeartbeats 8000000
namespace Go.Proofs.YtbaehbbonkljpaaGreat
open Go Go.RowKit
def CX (lo g:Nat) (w:World) (A:Option Addr) (cs:List Value):Prop:=
 cs.length=0∨∃b off,A=some ⟨b,off,none⟩∧lo≤b∧b<w.heap.size∧b≠g∧∀j u,cs[j]? =some u→w.cell? ⟨b,off+j,none⟩=some u
theorem CX.aQ {lo g:Nat} {w w':World} {A:Option Addr} {cs:List Value} (h:CX lo g w A cs) (hs:w.heap.size≤w'.heap.size) (hb:∀k,lo≤k→k<w.heap.size→k≠g→w'.heap[k]? =w.heap[k]?):CX lo g w' A cs:=by
 rcases h with h|⟨b,off,h1,h2,h3,h4,h5⟩
 ·exact .inl h
 ·exact .inr ⟨b,off,h1,h2,dW h3 hs,h4,fun j u hu=>(World.cell?_of_block (a:=⟨b,off+j,none⟩) (hb b h2 h3 h4)).trans (h5 j u hu)⟩
theorem CX.off {lo g g':Nat} {w:World} {A:Option Addr} {cs:List Value} (h:CX lo g w A cs) (hg:g'<lo):CX lo g' w A cs:=by
 rcases h with h|⟨b,off,h1,h2,h3,_,h5⟩
 ·exact .inl h
 ·exact .inr ⟨b,off,h1,h2,h3,by omega,h5⟩
theorem CX.lower {lo lo' g:Nat} {w:World} {A:Option Addr} {cs:List Value} (h:CX lo g w A cs) (hl:lo'≤lo):CX lo' g w A cs:=by
 rcases h with h|⟨b,off,h1,h2,h3,h4,h5⟩
 ·exact .inl h
 ·exact .inr ⟨b,off,h1,by omega,h3,h4,h5⟩
theorem CX.dO {B g e size n c:Nat} {A:Option Addr} {w:World} {cs:List Value} (h:w.ownsRow B e size (.slice A n c) n cs) (hg:g<B):CX B g w A cs:=by
 rcases h.2 with ⟨hv,hn⟩|⟨b,cap,cur,hv,hb,hh,_⟩
 ·refine .inl ?_;rw [h.1,hn,Nat.zero_mul]
 ·injection hv with h1 _ _;subst h1;exact .inr ⟨b,0,rfl,hb,(bK.1 hh).1,by omega,fun j u hu=>by rw [Nat.zero_add,←addr_add];exact h.cells (g:=b) rfl j u hu⟩
theorem CX.at {lo g:Nat} {w:World} {A:Option Addr} {cs:List Value} (h:CX lo g w A cs):az w w.heap.size A cs:=by
 rcases h with h|⟨b,off,h1,_,h3,_,h5⟩
 ·exact .inl h
 ·exact .inr ⟨b,off,h1,h3,h5⟩
structure JQ (lo g:Nat) (w:World) (s:Zs) (z:Zn):Prop where
 aj:CX lo g w s.A (z.cal.aj.map I)
 rules:CX lo g w s.B (z.cal.rules.flatMap Lr.cells)
 trans:CX lo g w s.C (z.trans.flatMap Tr.cells)
 ax:CX lo g w s.D (z.ax.flatMap Yr.cells)
section
variable {lo lo' g g':Nat} {w w':World} {s:Zs} {z:Zn}
theorem JQ.aQ (h:JQ lo g w s z) (hs:w.heap.size≤w'.heap.size) (hb:∀k,lo≤k→k<w.heap.size→k≠g→w'.heap[k]? =w.heap[k]?):JQ lo g w' s z:=
 ⟨h.aj.aQ hs hb,h.rules.aQ hs hb,h.trans.aQ hs hb,h.ax.aQ hs hb⟩
theorem JQ.off (h:JQ lo g w s z) (hg:g'<lo):JQ lo g' w s z:=⟨h.aj.off hg,h.rules.off hg,h.trans.off hg,h.ax.off hg⟩
theorem JQ.lower (h:JQ lo g w s z) (hl:lo'≤lo):JQ lo' g w s z:=⟨h.aj.lower hl,h.rules.lower hl,h.trans.lower hl,h.ax.lower hl⟩
theorem JQ.at (h:JQ lo g w s z):jy w w.heap.size s z:=⟨h.aj.at,h.rules.at,h.trans.at,h.ax.at⟩
end
structure ni (z:Zn):Prop where
 aj:z.cal.aj.length≤10000
 rules:z.cal.rules.length≤10000
 trans:z.trans.length≤10000
 ax:z.ax.length≤10000
def iF:Array Value:= #[I 0, .slice none 0 0,I 0, .slice none 0 0,I 0, .slice none 0 0,I 0, .slice none 0 0]
structure GV (w:World) (cs:Array Value) (W:World):Prop where
 var:W.heap[w.heap.size]? =some (.cells cs 54 (0,0))
 res:W.heap[w.heap.size+1]? =some (.cells iF 54 (0,0))
 up:Below w.heap.size w W
section
variable {w W W':World} {cs:Array Value}
theorem GV.lt (h:GV w cs W):w.heap.size+1<W.heap.size:=(bK.1 h.res).1
theorem GV.grow (h:GV w cs W) (hb:Below W.heap.size W W'):GV w cs W':=
 ⟨(hb.block _ (by have:=h.lt;omega)).trans h.var,(hb.block _ h.lt).trans h.res,ai h.up hb⟩
theorem GV.store (h:GV w cs W) (o:Nat) (v:Value):GV w (cs.setIfInBounds o v) (W.setCell ⟨w.heap.size,o,none⟩ v):=
 ⟨heap_setCell_same W _ o _ _ _ h.var,(heap_setCell_other W _ _ v (by show w.heap.size+1≠w.heap.size;omega)).trans h.res,h.up.setCell (p:=⟨w.heap.size,o,none⟩) (Nat.le_refl _) _⟩
theorem GV.start (w:World) (cs:Array Value):GV w cs ((w.alloc (.cells cs 54)).alloc (.cells iF 54)):=
 ⟨heap_alloc2_old w _ _,heap_alloc2_new w _ _,ai (ag w _) (ag _ _)⟩
theorem GV.row (h:GV w cs W):Row W w.heap.size cs:=⟨by have:=h.lt;omega,fun i=>cell_of_row W _ i _ _ _ h.var⟩
end
theorem l7 {w W:World} {o:Nat} {v:Value} {lo g:Nat} {A:Option Addr} {cs:List Value} (h:CX lo g W A cs) (hlo:w.heap.size+2≤lo):CX lo g (W.setCell ⟨w.heap.size,o,none⟩ v) A cs:=
 h.aQ (by simp [World.setCell]) fun k h1 _ _=>heap_setCell_other W _ k _ (by show k≠w.heap.size;omega)
def CzQ (w:World) (z:Zn) (e:Ending) (w':World):Prop:=∃s,e= .returned (.agg (au z s))∧JQ w.heap.size w.heap.size w' s z∧Below w.heap.size w w'
theorem Yn (z:Zn) (s:Zs):(au z s)[1]? =some (.slice s.A z.cal.aj.length s.a):=rfl
theorem Yo (z:Zn) (s:Zs):(au z s)[3]? =some (.slice s.B z.cal.rules.length s.b):=rfl
theorem Yp (z:Zn) (s:Zs):(au z s)[5]? =some (.slice s.C z.trans.length s.c):=rfl
theorem Yq (z:Zn) (s:Zs):(au z s)[7]? =some (.slice s.D z.ax.length s.d):=rfl
attribute [local go_sem] Yn Yo Yp Yq
theorem sH (z:Zn) (s:Zs) (w:World) (hL:ni z) (hA:jy w w.heap.size s z):Calls Tryz.prog 35 #[.agg (au z s)] w (CzQ w z):=by
 have HS:=ae (GV.start w (au z s));have HL:=ae hL;have HA:=ae hA;clear hL hA;go_enter Tryz.func35,Tryz.ntmps35;go_wp2_with (with_reducible refine bf 54 ?_;refine dn rfl _ rfl iF (by kernel_rfl) ?_);generalize (w.alloc (.cells (au z s) 54)).alloc (.cells iF 54)=W0 at HS ⊢;have xk:=HS;have c0:W0.cell? ⟨w.heap.size,1,none⟩=some (.slice s.A z.cal.aj.length s.a):=xk.out.row.2 1;have f0:∀i,W0.frozen? ⟨w.heap.size,i,none⟩=false:=fun i=>frozen_of_row _ _ i _ _ xk.out.var;refine (show Calls Tryz.prog _ _ W0 _ from WG s.A s.a z.cal.aj.length (z.cal.aj.map I) W0 (HA.out.aj.keep xk.out.up |>.more xk.out.up.size) (by rw [List.length_map];omega) (by intro u hu;obtain ⟨q,_,rfl⟩:=List.mem_map.1 hu;rfl) HL.out.aj).mono ?_;rintro e w1 ⟨A1,a1,rfl,hown,hb⟩;have V8:=ae (xk.out.grow hb);have hr1:∀i,w1.cell? ⟨w.heap.size,i,none⟩=_:=V8.out.row.2;have hf1:∀i,w1.frozen? ⟨w.heap.size,i,none⟩=false:=fun i=>frozen_of_row _ _ i _ _ V8.out.var;have v1:w1.cell? ⟨w.heap.size,1,none⟩=some (.slice s.A z.cal.aj.length s.a):=hr1 1;have hlt1:=xk.out.lt;have n1:w1.cell? ⟨w.heap.size,3,none⟩=some (.slice s.B z.cal.rules.length s.b):=hr1 3;have J4:Hid (CX (w.heap.size+2) w.heap.size (w1.setCell ⟨w.heap.size,1,none⟩ (.slice A1 z.cal.aj.length a1)) A1 (z.cal.aj.map I)):=ae (l7 ((CX.dO hown (by omega)).lower (by omega)) (Nat.le_refl _));have uV:Hid (GV w (au z ⟨A1,a1,s.B,s.b,s.C,s.c,s.D,s.d⟩) (w1.setCell ⟨w.heap.size,1,none⟩ (.slice A1 z.cal.aj.length a1))):=ae (V8.out.store 1 (.slice A1 z.cal.aj.length a1));clear hown hb hr1 c0 f0;go_wp2_with fail;generalize hW1:w1.setCell ⟨w.heap.size,1,none⟩ (.slice A1 z.cal.aj.length a1)=W1 at uV J4 ⊢;have mr:=uV;have HX1_1:=J4;have c1:W1.cell? ⟨w.heap.size,3,none⟩=some (.slice s.B z.cal.rules.length s.b):=mr.out.row.2 3;have f1:∀i,W1.frozen? ⟨w.heap.size,i,none⟩=false:=fun i=>frozen_of_row _ _ i _ _ mr.out.var;clear v1 n1 hf1 hlt1 uV V8 hW1 J4;refine (show Calls Tryz.prog _ _ W1 _ from WI s.B s.b z.cal.rules.length (z.cal.rules.flatMap Lr.cells) W1 (HA.out.rules.keep mr.out.up |>.more mr.out.up.size) (by rw [cu (s:=3) Lr.cells _ fun _ _=>rfl]) (EZ Lr.cells _ fun x _=>Xw x) HL.out.rules).mono ?_;rintro e w2 ⟨A2,a2,rfl,hown,hb⟩;have V9:=ae (mr.out.grow hb);have hr2:∀i,w2.cell? ⟨w.heap.size,i,none⟩=_:=V9.out.row.2;have hf2:∀i,w2.frozen? ⟨w.heap.size,i,none⟩=false:=fun i=>frozen_of_row _ _ i _ _ V9.out.var;have v2:w2.cell? ⟨w.heap.size,3,none⟩=some (.slice s.B z.cal.rules.length s.b):=hr2 3;have hlt2:=mr.out.lt;have n2:w2.cell? ⟨w.heap.size,5,none⟩=some (.slice s.C z.trans.length s.c):=hr2 5;have J5:=ae (l7 (o:=3) (v:= .slice A2 z.cal.rules.length a2) (HX1_1.out.aQ hb.size fun k _ h2 _=>hb.block k h2) (Nat.le_refl _));have J7:Hid (CX (w.heap.size+2) w.heap.size (w2.setCell ⟨w.heap.size,3,none⟩ (.slice A2 z.cal.rules.length a2)) A2 (z.cal.rules.flatMap Lr.cells)):=ae (l7 ((CX.dO hown (by omega)).lower (by omega)) (Nat.le_refl _));have uV:Hid (GV w (au z ⟨A1,a1,A2,a2,s.C,s.c,s.D,s.d⟩) (w2.setCell ⟨w.heap.size,3,none⟩ (.slice A2 z.cal.rules.length a2))):=ae (V9.out.store 3 (.slice A2 z.cal.rules.length a2));clear hown hb hr2 c1 f1;go_wp2_with fail;generalize hW2:w2.setCell ⟨w.heap.size,3,none⟩ (.slice A2 z.cal.rules.length a2)=W2 at uV J5 J7 ⊢;have HS2:=uV;have HX1_2:=J5;have HX2_2:=J7;have c2:W2.cell? ⟨w.heap.size,5,none⟩=some (.slice s.C z.trans.length s.c):=HS2.out.row.2 5;have f2:∀i,W2.frozen? ⟨w.heap.size,i,none⟩=false:=fun i=>frozen_of_row _ _ i _ _ HS2.out.var;clear v2 n2 hf2 hlt2 uV V9 hW2 J5 J7;refine (show Calls Tryz.prog _ _ W2 _ from WO s.C s.c z.trans.length (z.trans.flatMap Tr.cells) W2 (HA.out.trans.keep HS2.out.up |>.more HS2.out.up.size) (by rw [cu (s:=2) Tr.cells _ fun _ _=>rfl]) (EZ Tr.cells _ fun x _=>vH x) HL.out.trans).mono ?_;rintro e w3 ⟨A3,a3,rfl,hown,hb⟩;have We:=ae (HS2.out.grow hb);have hr3:∀i,w3.cell? ⟨w.heap.size,i,none⟩=_:=We.out.row.2;have hf3:∀i,w3.frozen? ⟨w.heap.size,i,none⟩=false:=fun i=>frozen_of_row _ _ i _ _ We.out.var;have v3:w3.cell? ⟨w.heap.size,5,none⟩=some (.slice s.C z.trans.length s.c):=hr3 5;have hlt3:=HS2.out.lt
 have n3:w3.cell? ⟨w.heap.size,7,none⟩=some (.slice s.D z.ax.length s.d):=hr3 7;have J6:=ae (l7 (o:=5) (v:= .slice A3 z.trans.length a3) (HX1_2.out.aQ hb.size fun k _ h2 _=>hb.block k h2) (Nat.le_refl _));have J8:=ae (l7 (o:=5) (v:= .slice A3 z.trans.length a3) (HX2_2.out.aQ hb.size fun k _ h2 _=>hb.block k h2) (Nat.le_refl _));have J9:Hid (CX (w.heap.size+2) w.heap.size (w3.setCell ⟨w.heap.size,5,none⟩ (.slice A3 z.trans.length a3)) A3 (z.trans.flatMap Tr.cells)):=ae (l7 ((CX.dO hown (by omega)).lower (by omega)) (Nat.le_refl _));have uV:Hid (GV w (au z ⟨A1,a1,A2,a2,A3,a3,s.D,s.d⟩) (w3.setCell ⟨w.heap.size,5,none⟩ (.slice A3 z.trans.length a3))):=ae (We.out.store 5 (.slice A3 z.trans.length a3));clear hown hb hr3 c2 f2;go_wp2_with fail;generalize hW3:w3.setCell ⟨w.heap.size,5,none⟩ (.slice A3 z.trans.length a3)=W3 at uV J6 J8 J9 ⊢;have qx:=uV;have HX1_3:=J6;have HX2_3:=J8;have HX3_3:=J9;have c3:W3.cell? ⟨w.heap.size,7,none⟩=some (.slice s.D z.ax.length s.d):=qx.out.row.2 7;have f3:∀i,W3.frozen? ⟨w.heap.size,i,none⟩=false:=fun i=>frozen_of_row _ _ i _ _ qx.out.var;clear v3 n3 hf3 hlt3 uV We hW3 J6 J8 J9;refine (show Calls Tryz.prog _ _ W3 _ from WT s.D s.d z.ax.length (z.ax.flatMap Yr.cells) W3 (HA.out.ax.keep qx.out.up |>.more qx.out.up.size) (by rw [cu (s:=5) Yr.cells _ fun _ _=>rfl]) (EZ Yr.cells _ fun x _=>vO x) HL.out.ax).mono ?_;rintro e w4 ⟨A4,a4,rfl,hown,hb⟩;have HS4':=ae (qx.out.grow hb);have hr4:∀i,w4.cell? ⟨w.heap.size,i,none⟩=_:=HS4'.out.row.2;have hf4:∀i,w4.frozen? ⟨w.heap.size,i,none⟩=false:=fun i=>frozen_of_row _ _ i _ _ HS4'.out.var;have v4:w4.cell? ⟨w.heap.size,7,none⟩=some (.slice s.D z.ax.length s.d):=hr4 7;have hlt4:=qx.out.lt;have HX1_4':=ae (l7 (o:=7) (v:= .slice A4 z.ax.length a4) (HX1_3.out.aQ hb.size fun k _ h2 _=>hb.block k h2) (Nat.le_refl _));have HX2_4':=ae (l7 (o:=7) (v:= .slice A4 z.ax.length a4) (HX2_3.out.aQ hb.size fun k _ h2 _=>hb.block k h2) (Nat.le_refl _));have HX3_4':=ae (l7 (o:=7) (v:= .slice A4 z.ax.length a4) (HX3_3.out.aQ hb.size fun k _ h2 _=>hb.block k h2) (Nat.le_refl _));have HX4_4':Hid (CX (w.heap.size+2) w.heap.size (w4.setCell ⟨w.heap.size,7,none⟩ (.slice A4 z.ax.length a4)) A4 (z.ax.flatMap Yr.cells)):=ae (l7 ((CX.dO hown (by omega)).lower (by omega)) (Nat.le_refl _));have uV:Hid (GV w (au z ⟨A1,a1,A2,a2,A3,a3,A4,a4⟩) (w4.setCell ⟨w.heap.size,7,none⟩ (.slice A4 z.ax.length a4))):=ae (HS4'.out.store 7 (.slice A4 z.ax.length a4));clear hown hb hr4 c3 f3;go_wp2_with (first
  |(with_reducible refine fU 54 ?_;refine aX rfl _ _ rfl w.heap.size rfl (au z ⟨A1,a1,A2,a2,A3,a3,A4,a4⟩) uV.out.row _ Tryz.underlying54 rfl (lF _ _) ?_)
  |(with_reducible refine dF 54 ?_;refine wpList_store_row rfl _ _ _ rfl (w.heap.size+1) (au z ⟨A1,a1,A2,a2,A3,a3,A4,a4⟩) rfl rfl 54 iF uV.out.res (lF _ _) rfl (BZ _ _) ?_))
 refine bodyPost_ret (v:= .agg (au z ⟨A1,a1,A2,a2,A3,a3,A4,a4⟩)) (results_cell_row rfl _ _ (w.heap.size+1) _ (au z ⟨A1,a1,A2,a2,A3,a3,A4,a4⟩) (0,0) _ rfl (setRow_heap _ _ _ _ _ _ uV.out.res) Tryz.underlying54 rfl (lF _ _)) rfl ?_;have hb:∀(W:World) (cs:Array Value) (k:Nat),w.heap.size+2≤k→(W.setRow (w.heap.size+1) cs).heap[k]? =W.heap[k]? :=fun W cs k hk=>setRow_other _ _ k _ (by omega);have hX:∀ {A:Option Addr} {cs:List Value} {W:World} {rc:Array Value},CX (w.heap.size+2) w.heap.size W A cs→CX w.heap.size w.heap.size (W.setRow (w.heap.size+1) rc) A cs:=fun h=>(h.aQ (by simp [World.setRow]) fun k h1 _ _=>hb _ _ k h1).lower (by omega);exact ⟨⟨A1,a1,A2,a2,A3,a3,A4,a4⟩,rfl,⟨hX HX1_4'.out,hX HX2_4'.out,hX HX3_4'.out,hX HX4_4'.out⟩,below_setRow uV.out.up (Nat.le_succ _) _⟩
end Go.Proofs.YtbaehbbonkljpaaGreat
namespace Go.Proofs.YtbaehbbonkljpaaGreat
open Go Go.RowKit
def CO (lo:Nat) (w:World) (A:Option Addr) (cs:List Value):Prop:=
 cs.length=0∨∃b off,A=some ⟨b,off,none⟩∧lo≤b∧b<w.heap.size∧∀j u,cs[j]? =some u→w.cell? ⟨b,off+j,none⟩=some u
structure JP (lo:Nat) (w:World) (s:Zs) (z:Zn):Prop where
 aj:CO lo w s.A (z.cal.aj.map I)
 rules:CO lo w s.B (z.cal.rules.flatMap Lr.cells)
 trans:CO lo w s.C (z.trans.flatMap Tr.cells)
 ax:CO lo w s.D (z.ax.flatMap Yr.cells)
def CU (lo:Nat) (w:World) (A:Option Addr) (n:Nat):Prop:=
 n=0∨∃b off,A=some ⟨b,off,none⟩∧lo≤b∧b<w.heap.size∧∀j,w.frozen? ⟨b,off+j,none⟩=false
structure xx (lo:Nat) (w:World) (A:Option Addr) (zs:List dB):Prop where
 row:CO lo w A (aV zs)
 free:CU lo w A zs.length
 each:∀x∈zs,JP lo w x.s x.e.z
structure Rl (lo:Nat) (w:World) (x:fH):Prop where
 names:x.t.aG=x.zs.map (·.e)
 prev:x.t.prev.length=32
 dQ:x.t.dQ.length=32
 aG:xx lo w x.A x.zs
section
variable {lo lo' g:Nat} {w w':World} {A:Option Addr} {cs:List Value} {s:Zs} {z:Zn} {zs:List dB} {x:fH}
theorem CX.own (h:CX lo g w A cs):CO lo w A cs:=h.imp id fun ⟨b,off,h1,h2,h3,_,h5⟩=>⟨b,off,h1,h2,h3,h5⟩
theorem CO.aQ (h:CO lo w A cs) (hs:w.heap.size≤w'.heap.size) (hb:∀k,lo≤k→k<w.heap.size→w'.heap[k]? =w.heap[k]?):CO lo w' A cs:=
 h.imp id fun ⟨b,off,h1,h2,h3,h5⟩=>⟨b,off,h1,h2,dW h3 hs,fun j u hu=>(World.cell?_of_block (a:=⟨b,off+j,none⟩) (hb b h2 h3)).trans (h5 j u hu)⟩
theorem CO.lower (h:CO lo w A cs) (hl:lo'≤lo):CO lo' w A cs:=h.imp id fun ⟨b,off,h1,h2,h3,h5⟩=>⟨b,off,h1,by omega,h3,h5⟩
theorem CU.aQ {n:Nat} (h:CU lo w A n) (hs:w.heap.size≤w'.heap.size) (hb:∀k,lo≤k→k<w.heap.size→w'.heap[k]? =w.heap[k]?):CU lo w' A n:=
 h.imp id fun ⟨b,off,h1,h2,h3,h5⟩=>⟨b,off,h1,h2,dW h3 hs,fun j=>(World.frozen?_of_block (a:=⟨b,off+j,none⟩) (hb b h2 h3)).trans (h5 j)⟩
theorem CU.lower {n:Nat} (h:CU lo w A n) (hl:lo'≤lo):CU lo' w A n:=h.imp id fun ⟨b,off,h1,h2,h3,h5⟩=>⟨b,off,h1,by omega,h3,h5⟩
theorem CO.at (h:CO lo w A cs):az w w.heap.size A cs:=h.imp id fun ⟨b,off,h1,_,h3,h5⟩=>⟨b,off,h1,h3,h5⟩
theorem JQ.own (h:JQ lo g w s z):JP lo w s z:=⟨h.aj.own,h.rules.own,h.trans.own,h.ax.own⟩
theorem JP.aQ (h:JP lo w s z) (hs:w.heap.size≤w'.heap.size) (hb:∀k,lo≤k→k<w.heap.size→w'.heap[k]? =w.heap[k]?):JP lo w' s z:=⟨h.aj.aQ hs hb,h.rules.aQ hs hb,h.trans.aQ hs hb,h.ax.aQ hs hb⟩
theorem JP.lower (h:JP lo w s z) (hl:lo'≤lo):JP lo' w s z:=⟨h.aj.lower hl,h.rules.lower hl,h.trans.lower hl,h.ax.lower hl⟩
theorem JP.at (h:JP lo w s z):jy w w.heap.size s z:=⟨h.aj.at,h.rules.at,h.trans.at,h.ax.at⟩
theorem xx.aQ (h:xx lo w A zs) (hs:w.heap.size≤w'.heap.size) (hb:∀k,lo≤k→k<w.heap.size→w'.heap[k]? =w.heap[k]?):xx lo w' A zs:=⟨h.row.aQ hs hb,h.free.aQ hs hb,fun x hx=>(h.each x hx).aQ hs hb⟩
theorem xx.lower (h:xx lo w A zs) (hl:lo'≤lo):xx lo' w A zs:=⟨h.row.lower hl,h.free.lower hl,fun x hx=>(h.each x hx).lower hl⟩
theorem xx.at (h:xx lo w A zs):kH w w.heap.size A zs:=⟨h.row.at,fun x hx=>(h.each x hx).at⟩
theorem Rl.aQ (h:Rl lo w x) (hs:w.heap.size≤w'.heap.size) (hb:∀k,lo≤k→k<w.heap.size→w'.heap[k]? =w.heap[k]?):Rl lo w' x:=⟨h.names,h.prev,h.dQ,h.aG.aQ hs hb⟩
theorem Rl.lower (h:Rl lo w x) (hl:lo'≤lo):Rl lo' w x:=⟨h.names,h.prev,h.dQ,h.aG.lower hl⟩
theorem Rl.at (h:Rl lo w x):jB w w.heap.size x:=⟨h.names,h.prev,h.dQ,h.aG.at⟩
theorem CO.dO {e size n c:Nat} (h:w.ownsRow lo e size (.slice A n c) n cs):CO lo w A cs:=by
 rcases h.2 with ⟨hv,hn⟩|⟨b,cap,cur,hv,hb,hh,_⟩
 ·refine .inl ?_;rw [h.1,hn,Nat.zero_mul]
 ·injection hv with h1 _ _;subst h1;exact .inr ⟨b,0,rfl,hb,(bK.1 hh).1,fun j u hu=>by rw [Nat.zero_add,←addr_add];exact h.cells (g:=b) rfl j u hu⟩
theorem CU.dO {e size n c:Nat} (h:w.ownsRow lo e size (.slice A n c) n cs):CU lo w A n:=by
 rcases h.2 with ⟨_,hn⟩|⟨b,cap,cur,hv,hb,hh,_⟩
 ·exact .inl hn
 ·injection hv with h1 _ _;subst h1;exact .inr ⟨b,0,rfl,hb,(bK.1 hh).1,fun j=>frozen_of_row w b _ _ _ hh⟩
end
def ClV (w:World) (x:fH) (e:Ending) (w':World):Prop:=
 ∃y:fH,y.t=x.t∧y.zs.map (·.e)=x.zs.map (·.e)∧e= .returned (.agg (ah y.t (.slice y.A y.zs.length y.c)))∧Rl w.heap.size w' y∧Below w.heap.size w w'
def CvRel (w:World) (t:Tb) (g n c:Nat) (zs:List dB) (i:Value) (wr:World):Prop:=
 ∃(k:Nat) (ys:List dB),k≤n∧i= .int .i64 k∧ys.length=k∧ys.map (·.e)=(zs.take k).map (·.e)∧Cc w t (.slice (some ⟨g,0,none⟩) n c) wr∧
  wr.ownsRow (w.heap.size+2) 70 9 (.slice (some ⟨g,0,none⟩) n c) n (aV (ys++zs.drop k))∧∀y∈ys,JQ (w.heap.size+2) g wr y.s y.e.z
attribute [local go_sem] iY iZ ja bC
theorem Ij (t:Tb) (A0:Option Addr) (c0:Nat) (hz:t.aG= []) (h32:t.prev.length=32) (hm:t.dQ.length=32) (w:World):Calls Tryz.prog 25 #[.agg (ah t (.slice A0 0 c0))] w (ClV w ⟨t,A0,c0,[]⟩):=by
 have HS:=ae (Cc.start w t (.slice A0 0 c0));have fG:Hid (∀v,(Tryz.prog.info? 39).map (·.size)=some (ah t v).size):=ae fun v=>bG t v h32 hm;have pg:Hid (∀v,Tryz.zeroCells39.size=(ah t v).size):=ae fun v=>(by rw [bF _ _ h32 hm];kernel_rfl);have H3:Hid (t.aG= []∧t.prev.length=32∧t.dQ.length=32):=ae ⟨hz,h32,hm⟩;clear hz h32 hm;go_enter Tryz.func25,Tryz.ntmps25;go_wp2_with fail;generalize (w.alloc (.cells (ah t (.slice A0 0 c0)) 39)).alloc (.cells Tryz.zeroCells39 39)=W1 at HS ⊢;have hl0:=HS.out.lt;refine (show Calls Tryz.prog _ _ W1 _ from NC A0 c0 0 [] W1 .nil rfl (fun _ h=>nomatch h) (by omega)).mono ?_;rintro e w2 ⟨A,c,rfl,hown,hb2⟩;have HS2:=ae (HS.out.grow hb2);have hr2:=HS2.out.row.2;have hf2:∀i,w2.frozen? ⟨w.heap.size,i,none⟩=false:=fun i=>frozen_of_row _ _ i _ _ HS2.out.var;have qx:=ae (HS2.out.store (.slice A 0 c));clear hown hb2 HS hl0;go_wp2_with fail;generalize w2.setCell ⟨w.heap.size,3,none⟩ (.slice A 0 c)=w3 at qx ⊢;clear hr2 hf2
 go_loopw [11] (fun i wr=>i= .int .i64 0∧Cc w t (.slice A 0 c) wr) (fun _ _=>0)
 case atStart=>exact ⟨rfl,qx.out⟩
 case round=>
  obtain ⟨rfl,hs⟩:=hrel;have HC:=ae hs;clear hs qx;go_wp2_with (first
   |(with_reducible refine fU 39 ?_;refine aX rfl _ _ rfl w.heap.size rfl (ah t (.slice A 0 c)) HC.out.row _ Tryz.underlying39 rfl (fG.out _) ?_)
   |(with_reducible refine dF 39 ?_;refine wpList_store_row rfl _ _ _ rfl (w.heap.size+1) (ah t (.slice A 0 c)) rfl rfl 39 Tryz.zeroCells39 HC.out.res (fG.out _) (pg.out _) (aW _ _ _ _) ?_))
  refine bodyPost_ret (v:= .agg (ah t (.slice A 0 c))) (results_cell_row rfl _ _ (w.heap.size+1) _ (ah t (.slice A 0 c)) (0,0) _ rfl (setRow_heap _ _ _ _ _ _ HC.out.res) Tryz.underlying39 rfl (fG.out _)) rfl ?_;exact ⟨⟨t,A,c,[]⟩,rfl,rfl,rfl,⟨H3.out.1,H3.out.2.1,H3.out.2.2, .inl rfl, .inl rfl,fun _ hx=>nomatch hx⟩,below_setRow HC.out.up (Nat.le_succ _) _⟩
theorem Ii (t:Tb) (A0:Option Addr) (c0 n:Nat) (zs:List dB) (w:World) (hz:∀x∈zs,ni x.e.z) (hn:zs.length=n) (hn0:0<n) (hn1:n≤1000) (h32:t.prev.length=32) (hm:t.dQ.length=32) (hzz:t.aG=zs.map (·.e))
  (hA:kH w w.heap.size A0 zs):
  Calls Tryz.prog 25 #[.agg (ah t (.slice A0 n c0))] w (ClV w ⟨t,A0,c0,zs⟩):=by
 have HS:=ae (Cc.start w t (.slice A0 n c0));have fG:Hid (∀v,(Tryz.prog.info? 39).map (·.size)=some (ah t v).size):=ae fun v=>bG t v h32 hm;have pg:Hid (∀v,Tryz.zeroCells39.size=(ah t v).size):=ae fun v=>(by rw [bF _ _ h32 hm];kernel_rfl);have HZ:=ae hz;have HN:=ae hn;have HA:=ae hA;have H3:Hid (t.aG=zs.map (·.e)∧t.prev.length=32∧t.dQ.length=32):=ae ⟨hzz,h32,hm⟩;clear hz hn hA hzz h32 hm;go_enter Tryz.func25,Tryz.ntmps25;go_wp2_with fail;generalize (w.alloc (.cells (ah t (.slice A0 n c0)) 39)).alloc (.cells Tryz.zeroCells39 39)=W1 at HS ⊢;have hl0:=HS.out.lt;refine (show Calls Tryz.prog _ _ W1 _ from NC A0 c0 n (aV zs) W1 ((HA.out.row.keep HS.out.up).more HS.out.up.size) (by rw [fF,HN.out]) (BV zs) (by omega)).mono ?_;rintro e w2 ⟨A',c,rfl,hown,hb2⟩;obtain ⟨g,c',hv,_⟩:=fM hown hn0;injection hv with hv1 _ hv3;subst hv1 hv3;have HS2:=ae (HS.out.grow hb2);have hr2:=HS2.out.row.2;have hf2:∀i,w2.frozen? ⟨w.heap.size,i,none⟩=false:=fun i=>frozen_of_row _ _ i _ _ HS2.out.var;have hg1:=iV hown;have qx:=ae (HS2.out.store (.slice (some ⟨g,0,none⟩) n c));have qC:=ae (bY (u:= .slice (some ⟨g,0,none⟩) n c) (p:=⟨w.heap.size,3,none⟩) (aK hown (base':=w.heap.size+2) (by omega)) (by intro h;injection h with h;simp only at h;omega));have hg2:w.heap.size+2≤g:=by omega
 clear hown hb2 HS hl0 hg1;go_wp2_with fail;generalize w2.setCell ⟨w.heap.size,3,none⟩ (.slice (some ⟨g,0,none⟩) n c)=w3 at qx qC ⊢;clear hr2 hf2
 go_loopw [11] (fun i wr=>CvRel w t g n c zs i wr) (fun i _=>n - (intOf i).toNat)
 case atStart=>exact ⟨0,[],Nat.zero_le _,rfl,rfl,rfl,qx.out,qC.out,fun _ h=>nomatch h⟩
 case round=>
  obtain ⟨k,ys,hk,rfl,hyl,hye,hcs,hown,hym⟩:=hrel;have HC:=ae hcs;have HO:=ae hown;have Y5:=ae hye;have Wj:=ae hym;have oI:=ae hyl;clear hcs hown hye hym hyl qx qC;by_cases hlt:k<n
  ·have hkz:k<zs.length:=by rw [HN.out];exact hlt
   obtain ⟨x,hx⟩:∃x,zs[k]? =some x:=⟨_,bZ hkz⟩;have hd:zs.drop k=x::zs.drop (k+1):=by
    rw [List.drop_eq_getElem_cons hkz];rw [bZ hkz] at hx;injection hx with hx;rw [hx]
   have hown2:=HO.out;rw [hd] at hown2;have rF:=ae hown2;have hxm:=gU hx;have hfl:=HZ.out x hxm;have cc:∀j u,x.cells[j]? =some u→wr.cell? ⟨g,k*9+j,none⟩=some u:=fun j u hu=>by
    have hj:j<9:=(bK.1 hu).1;refine oq hown2 _ _ ?_;rw [oZ _ k j x (by rw [List.getElem?_append_right (by have:=oI.out;omega),oI.out];simp) hj];exact hu
   have hwr:g<wr.heap.size:=(iV hown2).2;have fz:∀j,wr.frozen? ⟨g,j,none⟩=false:=Bg hown2;have a3:wr.cell? ⟨w.heap.size,3,none⟩=some (.slice (some ⟨g,0,none⟩) n c):=(HC.out.row.2 3).trans rfl;have z0:wr.cell? ⟨g,k*9+1,none⟩=some (I x.e.z.cal.aJ):=cc 1 _ rfl;have z1:wr.cell? ⟨g,k*9+2,none⟩=some (.slice x.s.A x.e.z.cal.aj.length x.s.a):=cc 2 _ rfl;have z2:wr.cell? ⟨g,k*9+3,none⟩=some (I x.e.z.cal.aY):=cc 3 _ rfl;have z3:wr.cell? ⟨g,k*9+4,none⟩=some (.slice x.s.B x.e.z.cal.rules.length x.s.b):=cc 4 _ rfl;have z4:wr.cell? ⟨g,k*9+5,none⟩=some (I x.e.z.start):=cc 5 _ rfl;have z5:wr.cell? ⟨g,k*9+6,none⟩=some (.slice x.s.C x.e.z.trans.length x.s.c):=cc 6 _ rfl;have z6:wr.cell? ⟨g,k*9+7,none⟩=some (I x.e.z.hor):=cc 7 _ rfl;have z7:wr.cell? ⟨g,k*9+8,none⟩=some (.slice x.s.D x.e.z.ax.length x.s.d):=cc 8 _ rfl;have HCZ:Hid (∀W,Below wr.heap.size wr W→Calls Tryz.prog 35 #[.agg #[I x.e.z.cal.aJ, .slice x.s.A x.e.z.cal.aj.length x.s.a,I x.e.z.cal.aY, .slice x.s.B x.e.z.cal.rules.length x.s.b,I x.e.z.start, .slice x.s.C x.e.z.trans.length x.s.c,I x.e.z.hor, .slice x.s.D x.e.z.ax.length x.s.d]] W (CzQ W x.e.z)):=
    ae fun W hb=>sH x.e.z x.s W hfl ((HA.out.each x hxm).grow (ai HC.out.up hb))
   have i0:(0:Int)≤(k:Int):=by omega
   have i1:(k:Int)<(n:Int):=by omega
   have hNg:w.heap.size<wr.heap.size:=by omega
   clear cc hkz hd hown2 hfl hxm;have HX:=ae hx;clear hx;go_wp2_with fail;have hk9:k*9+1+8≤n*9:=by omega
   go_region_law (first|(go_simp;go_at_call 35;refine (HCZ.out _ (Below.refl _ _).drew).mono ?_;rintro e w5 ⟨s5,rfl,hown5,hb5⟩;dsimp only [au];have hs5:=hb5.size;have hc5:w5.cell? ⟨w.heap.size,3,none⟩=some (.slice (some ⟨g,0,none⟩) n c):=(hb5.cell (p:=⟨w.heap.size,3,none⟩) hNg).trans a3;have hz5:∀j,w5.cell? ⟨g,j,none⟩=wr.cell? ⟨g,j,none⟩:=fun j=>hb5.cell (p:=⟨g,j,none⟩) hwr;have hf5:∀j,w5.frozen? ⟨g,j,none⟩=false:=fun j=>(hb5.frozen (p:=⟨g,j,none⟩) hwr).trans (fz j);have HW5:=ae hown5;have rV:=ae hb5;clear hown5 hb5 hs5))
   all_goals
    have hO5:w5.ownsRow (w.heap.size+2) 70 9 (.slice (some ⟨g,0,none⟩) n c) n (aV (ys++x::zs.drop (k+1))):=aN rF.out fun j _ h2=>rV.out.block j h2;have hO6:=IJ (au x.e.z s5).toList (k*9+1) _ _ hO5;rw [←oI.out,Gs ys x _ _,oI.out] at hO6;have hC6:=(HC.out.drew.grow rV.out).puts g (k*9+1) (au x.e.z s5).toList hg2;have hM6:∀y∈ys++ [(⟨x.e,s5⟩:dB)],JQ (w.heap.size+2) g (w5.setCells g (k*9+1) (au x.e.z s5).toList) y.s y.e.z:=by
     intro y hy;rcases List.mem_append.1 hy with hy|hy
     ·exact (Wj.out y hy).aQ (by rw [FN];exact rV.out.size) fun j _ hj hjg=>(sV _ _ _ _ _ hjg).trans (rV.out.block j hj)
     ·rw [List.mem_singleton.1 hy];exact ((HW5.out.off (g':=g) hwr).lower (by show w.heap.size+2≤wr.heap.size;have:=HC.out.lt;omega)).aQ (by rw [FN];exact Nat.le_refl _) fun j _ _ hjg=>sV _ _ _ _ _ hjg
    have qZ:=ae hO6;have vS:=ae hC6;have HM6:=ae hM6;clear hO5 hO6 hC6 hM6 hc5 hz5 hf5;go_wp2_with fail;go_roundw
    case rel=>
     refine ⟨k+1,ys++ [⟨x.e,s5⟩],by omega,by go_num,by rw [bH,oI.out];rfl,?_,vS.out,by rw [List.append_assoc];exact qZ.out,HM6.out⟩;rw [List.map_append,Y5.out,List.take_add_one,HX.out,List.map_append];rfl
    case measure=>simp [intOf];omega
  ·have hkn:k=n:=by omega
   have nH:=ae hkn;have hlt':¬(k:Int)<(n:Int):=by omega
   clear hkn hlt;go_wp2_with (first
    |(with_reducible refine fU 39 ?_;refine aX rfl _ _ rfl w.heap.size rfl (ah t (.slice (some ⟨g,0,none⟩) n c)) HC.out.row _ Tryz.underlying39 rfl (fG.out _) ?_)
    |(with_reducible refine dF 39 ?_;refine wpList_store_row rfl _ _ _ rfl (w.heap.size+1) (ah t (.slice (some ⟨g,0,none⟩) n c)) rfl rfl 39 Tryz.zeroCells39 HC.out.res (fG.out _) (pg.out _) (aW _ _ _ _) ?_))
   refine bodyPost_ret (v:= .agg (ah t (.slice (some ⟨g,0,none⟩) n c))) (results_cell_row rfl _ _ (w.heap.size+1) _ (ah t (.slice (some ⟨g,0,none⟩) n c)) (0,0) _ rfl (setRow_heap _ _ _ _ _ _ HC.out.res) Tryz.underlying39 rfl (fG.out _)) rfl ?_;have hd:ys++zs.drop k=ys:=by rw [List.drop_of_length_le (by rw [HN.out,nH.out];exact Nat.le_refl _),List.append_nil]
   have hrow:=HO.out;rw [hd] at hrow;have hyn:ys.length=n:=oI.out.trans nH.out;have hye:ys.map (·.e)=zs.map (·.e):=by rw [Y5.out,nH.out,List.take_of_length_le (by rw [HN.out];exact Nat.le_refl _)]
   have hrow2:(wr.setRow (w.heap.size+1) (ah t (.slice (some ⟨g,0,none⟩) n c))).ownsRow (w.heap.size+2) 70 9 (.slice (some ⟨g,0,none⟩) n c) n (aV ys):=aN hrow fun j h1 _=>setRow_other _ _ j _ (by omega);refine ⟨⟨t,some ⟨g,0,none⟩,c,ys⟩,rfl,hye,by rw [hyn],⟨H3.out.1.trans hye.symm,H3.out.2.1,H3.out.2.2,(CO.dO hrow2).lower (by omega),hyn.symm▸(CU.dO hrow2).lower (by omega),fun y hy=>?_⟩,below_setRow HC.out.up (Nat.le_succ _) _⟩;exact ((Wj.out y hy).aQ (by simp [World.setRow]) fun j h1 _ _=>setRow_other _ _ j _ (by omega)).own.lower (by omega)
theorem Aq (x:fH) (n:Nat) (w:World) (hn:x.zs.length=n) (hn1:n≤1000) (hl:∀y∈x.zs,ni y.e.z) (h:jB w w.heap.size x):
  Calls Tryz.prog 25 #[.agg (ah x.t (.slice x.A n x.c))] w (ClV w x):=by
 obtain ⟨t,A,c,zs⟩:=x;by_cases h0:n=0
 ·subst h0;have hz:zs= []:=List.eq_nil_of_length_eq_zero hn;subst hz;exact Ij t A c h.names h.prev h.dQ w
 ·exact Ii t A c n zs w hl hn (by omega) hn1 h.prev h.dQ h.names h.aG
end Go.Proofs.YtbaehbbonkljpaaGreat
namespace Go.Proofs.YtbaehbbonkljpaaGreat
open Go Go.RowKit
theorem eu {P:Program} {ops:Array Oper} {Q:Exit→Act→World→Prop} {rest:List Oper} {a:Act} {w:World} {d:Option Tmp} {t:TypeId} {pos:String} {af:Array Edge} {g:Option (Nat×Bool)} (ty:TypeId) {x:Array (Nat×Operand)} (h:wpList P ops Q (⟨d, .build ty x,t,pos,af,g⟩::rest) a w):wpList P ops Q (⟨d, .build ty x,t,pos,af,g⟩::rest) a w:=h
theorem KP (ts:List fH) (pre:List (El ts)):(dV ts pre).1= -1∨∃i:Nat,i<ts.length∧(dV ts pre).1=(i:Int):=by
 unfold dV;have:∀(l:List (El ts)) (st:Int×List Bool),(st.1= -1∨∃i:Nat,i<ts.length∧st.1=(i:Int))→((l.foldl (fun st x=>gW st x.1) st).1= -1∨∃i:Nat,i<ts.length∧(l.foldl (fun st x=>gW st x.1) st).1=(i:Int)):=by
  intro l
  induction l with
  |nil=>intro st h;exact h
  |cons x l ih=>
   intro st h;rw [List.foldl_cons];refine ih _ ?_;unfold gW;split
   ·exact h
   ·dsimp only;split
    ·exact .inr ⟨x.1.1,(iT.1 x.2).1,rfl⟩
    ·exact h
 exact this pre _ (.inl rfl)
theorem Au {ts:List fH} {p:Int} {b:Bool} (h:uY ts=(p,b)):p<0∨∃i x,p=((i:Nat):Int)∧(b=true→ts[i]? =some x):=by
 unfold uY at h;split at h
 ·injection h with h1 h2;rcases KP ts (Ky ts ts.length) with h3|⟨i,hi,h3⟩
  ·exact .inl (by omega)
  ·exact .inr ⟨i,ts[i],by omega,fun _=>bZ hi⟩
 ·injection h with h1 h2;subst h1 h2;exact .inr ⟨0,⟨⟨0,0,0,[],[],[]⟩,none,0,[]⟩,rfl,fun h=>nomatch h⟩
def xQ (ts:List fH):Prop:=∀x∈ts,x.zs.length≤1000∧∀y∈x.zs,ni y.e.z
def NewP (w:World) (ts:List fH) (e:Ending) (w':World):Prop:=
 Below w.heap.size w w'∧∃p b,uY ts=(p,b)∧((b=false∧e= .returned (.tuple #[.agg Tryz.zeroCells39,I 1]))∨(b=true∧p<0∧e= .returned (.tuple #[.agg Tryz.zeroCells39,I 4]))∨
  (b=true∧∃i x y,p=((i:Nat):Int)∧ts[i]? =some x∧y.t=x.t∧y.zs.map (·.e)=x.zs.map (·.e)∧e= .returned (.tuple #[.agg (ah y.t (.slice y.A y.zs.length y.c)),I 0])∧Rl w.heap.size w' y))
theorem zK:(Tryz.prog.info? 39).map (·.size)=some Tryz.zeroCells39.size:=by kernel_rfl
theorem Vf:Tryz.zeroCells39.all (·.oneCell')=true:=by kernel_rfl
theorem Ve:(Tryz.prog.info? 39).map (fun i=>(i.zero,i.size))=some (some (.agg Tryz.zeroCells39),Tryz.zeroCells39.size):=by kernel_rfl
theorem Ls (A:Option Addr) (c n:Nat) (ts:List fH) (w:World) (hn:ts.length=n) (hn1:n≤1000) (hl:xQ ts) (h:jT w w.heap.size A ts):
  Calls Tryz.prog 31 #[.slice A n c] w (NewP w ts):=by
 have HR0:=ae (heap_alloc_last w (.cells Tryz.zeroCells39 39));have HB0:=ae (ag w (.cells Tryz.zeroCells39 39));have HC:=ae (yc A c n ts (w.alloc (.cells Tryz.zeroCells39 39)) hn hn1 (h.grow (ag w _)));have HN:=ae hn;have HL:=ae hl;have QP:=ae h;clear hn hl h;go_enter Tryz.func31,Tryz.ntmps31;go_wp2_with (first
  |(with_reducible refine bf 39 ?_;refine dn rfl _ rfl Tryz.zeroCells39 Ve ?_))
 refine HC.out.mono ?_;rintro e w1 ⟨p,b,rfl,hp,hb1⟩;have HR1:=ae ((hb1.block _ (by simp)).trans HR0.out);have HB1:=ae (ai HB0.out hb1);have HP:=ae hp;have hrg:=Au hp;clear hb1 hp HC HR0 HB0;cases b with
 |false=>
  clear hrg;go_wp2_with (first
   |((with_reducible refine eu 39 ?_);refine bn rfl _ rfl Tryz.zeroCells39 (by kernel_rfl) ?_)
   |((with_reducible refine dF 39 ?_);refine wpList_store_row rfl _ _ _ rfl w.heap.size Tryz.zeroCells39 rfl rfl 39 Tryz.zeroCells39 HR1.out zK rfl Vf ?_))
  refine bodyPost_ret (v:= .tuple #[.agg Tryz.zeroCells39,I 1]) (aZ rfl _ _ w.heap.size _ Tryz.zeroCells39 (0,0) _ rfl (setRow_heap _ _ _ _ _ _ HR1.out) Tryz.underlying39 rfl zK _ rfl) rfl ?_;exact ⟨below_setRow HB1.out (Nat.le_refl _) _,p,false,HP.out, .inl ⟨rfl,rfl⟩⟩
 |true=>
  rcases hrg with hneg|⟨i,x,rfl,hx⟩
  ·go_wp2_with (first
    |((with_reducible refine eu 39 ?_);refine bn rfl _ rfl Tryz.zeroCells39 (by kernel_rfl) ?_)
    |((with_reducible refine dF 39 ?_);refine wpList_store_row rfl _ _ _ rfl w.heap.size Tryz.zeroCells39 rfl rfl 39 Tryz.zeroCells39 HR1.out zK rfl Vf ?_))
   refine bodyPost_ret (v:= .tuple #[.agg Tryz.zeroCells39,I 4]) (aZ rfl _ _ w.heap.size _ Tryz.zeroCells39 (0,0) _ rfl (setRow_heap _ _ _ _ _ _ HR1.out) Tryz.underlying39 rfl zK _ rfl) rfl ?_;exact ⟨below_setRow HB1.out (Nat.le_refl _) _,p,true,HP.out, .inr (.inl ⟨rfl,hneg,rfl⟩)⟩
  ·have hx:=hx rfl;have hil:i<n:=by have h1:=(iT.1 hx).1;have:=HN.out;omega
   have hxm:=gU hx;have HAT:Hid (jB w1 w1.heap.size x):=ae ((QP.out.each x hxm).grow HB1.out);have h68:=(QP.out.each x hxm).size;obtain ⟨b,off,rfl,hbw,htab⟩:∃b off,A=some ⟨b,off,none⟩∧b<w.heap.size∧sF w b off ts:=by
    rcases zG QP.out with h0|h0
    ·have:=HN.out;omega
    ·exact h0
   have Nh:Hid (w1.rangeAt b (off+i*68) x.cells):=ae (aU (htab i x hx).1 HB1.out hbw);have fG:Hid ((Tryz.prog.info? 39).map (·.size)=some x.cells.length):=ae (by rw [h68];kernel_rfl);have HX:=ae hx;have HLX:=ae (HL.out x hxm);have i0:(0:Int)≤(i:Int):=by omega
   have i1:(i:Int)<(n:Int):=by omega
   clear hx hxm h68 htab;go_wp2_with (with_reducible refine fU 39 ?_;refine wpList_load_mid rfl _ _ rfl b (off+i*68) rfl x.cells _ Nh.out Tryz.underlying39 rfl fG.out ?_);refine (show Calls Tryz.prog _ #[.agg x.cells.toArray] w1 _ from Aq x x.zs.length w1 rfl HLX.out.1 HLX.out.2 HAT.out).mono ?_;rintro e w2 ⟨y,hy1,hy2,rfl,hy3,hb2⟩;have HY:=ae (show y.t=x.t∧y.zs.map (·.e)=x.zs.map (·.e)∧Rl w1.heap.size w2 y from ⟨hy1,hy2,hy3⟩);have HR2:=ae ((hb2.block _ (bK.1 HR1.out).1).trans HR1.out);have HB2:=ae (ai HB1.out hb2);have hlt1:=(bK.1 HR1.out).1;have HSY:=ae (bG y.t (.slice y.A y.zs.length y.c) hy3.prev hy3.dQ);have HZY:Hid (Tryz.zeroCells39.size=(ah y.t (.slice y.A y.zs.length y.c)).size):=ae (by rw [bF _ _ hy3.prev hy3.dQ];kernel_rfl);clear hy1 hy2 hy3 hb2;go_wp2_with ((with_reducible refine dF 39 ?_);refine wpList_store_row rfl _ _ _ rfl w.heap.size (ah y.t (.slice y.A y.zs.length y.c)) rfl rfl 39 Tryz.zeroCells39 HR2.out HSY.out HZY.out (aW _ _ _ _) ?_);refine bodyPost_ret (v:= .tuple #[.agg (ah y.t (.slice y.A y.zs.length y.c)),I 0]) (aZ rfl _ _ w.heap.size _ (ah y.t (.slice y.A y.zs.length y.c)) (0,0) _ rfl (setRow_heap _ _ _ _ _ _ HR2.out) Tryz.underlying39 rfl HSY.out _ rfl) rfl ?_;refine ⟨below_setRow HB2.out (Nat.le_refl _) _,(i:Int),true,HP.out, .inr (.inr ⟨rfl,i,x,y,rfl,HX.out,HY.out.1,HY.out.2.1,rfl,?_⟩)⟩;exact (HY.out.2.2.aQ (by simp [World.setRow]) fun k h1 _=>setRow_other _ _ k _ (by omega)).lower (by omega)
end Go.Proofs.YtbaehbbonkljpaaGreat
