/- The texts Pc, Pd, Pg, in this order. -/
import Derived.Test.YtbaehbbonkljpaaGreatDoorT03
set_option maxRecDepth 10000
set_option maxHeartbeats 8000000
namespace Go.Proofs.YtbaehbbonkljpaaGreatDoor
open Go Go.RowKit
section
def CX (lo g:Nat)(w:ae)(A:aj Addr)(cs:ag ah):Prop:=
 cs.length=0\/∃b off,A=some ⟨b,off,none⟩/\lo<=b/\b<w.heap.size/\b≠g/\∀j u,cs[j]? =some u->w.cell? ⟨b,off+j,none⟩=some u
theorem CX.Kr {lo g:Nat}{w w':ae}{A:aj Addr}{cs:ag ah}(h:CX lo g w A cs)(hs:w.heap.size<=w'.heap.size)(hb:∀k,lo<=k->k<w.heap.size->k≠g->w'.heap[k]? =w.heap[k]?):CX lo g w' A cs:=by
 rcases h with h|⟨b,off,h1,h2,h3,h4,h5⟩
 ·exact .inl h
 ·exact .inr ⟨b,off,h1,h2,LK h3 hs,h4,fun j u hu=>(bI (a:=⟨b,off+j,none⟩) (hb b h2 h3 h4)).trans (h5 j u hu)⟩
theorem CX.off {lo g g':Nat}{w:ae}{A:aj Addr}{cs:ag ah}(h:CX lo g w A cs)(hg:g'<lo):CX lo g' w A cs:=by
 rcases h with h|⟨b,off,h1,h2,h3,_,h5⟩
 ·exact .inl h
 ·exact .inr ⟨b,off,h1,h2,h3,by omega,h5⟩
theorem CX.lower {lo lo' g:Nat}{w:ae}{A:aj Addr}{cs:ag ah}(h:CX lo g w A cs)(hl:lo'<=lo):CX lo' g w A cs:=by
 rcases h with h|⟨b,off,h1,h2,h3,h4,h5⟩
 ·exact .inl h
 ·exact .inr ⟨b,off,h1,by omega,h3,h4,h5⟩
theorem CX.Le {B g e size n c:Nat}{A:aj Addr}{w:ae}{cs:ag ah}(h:w.ownsRow B e size (.slice A n c) n cs)(hg:g<B):CX B g w A cs:=by
 rcases h.2 with ⟨hv,hn⟩|⟨b,cap,cur,hv,hb,hh,_⟩
 ·refine .inl ?_;rw[h.1,hn,gU]
 ·injection hv with h1 _ _;subst h1;exact .inr ⟨b,0,rfl,hb,(KY.1 hh).1,by omega,fun j u hu=>by rw[aT,<-addr_add];exact h.cells (g:=b) rfl j u hu⟩
theorem CX.at {lo g:Nat}{w:ae}{A:aj Addr}{cs:ag ah}(h:CX lo g w A cs):JS w w.heap.size A cs:=by
 rcases h with h|⟨b,off,h1,_,h3,_,h5⟩
 ·exact .inl h
 ·exact .inr ⟨b,off,h1,h3,h5⟩
structure ZnX (lo g:Nat)(w:ae)(s:Zs)(z:Zn):Prop where
 JQ:CX lo g w s.A (z.cal.JQ.map I)
 rules:CX lo g w s.B (z.cal.rules.flatMap Lr.cells)
 trans:CX lo g w s.C (z.trans.flatMap Tr.cells)
 J6:CX lo g w s.D (z.J6.flatMap Yr.cells)
section
variable {lo lo' g g':Nat}{w w':ae}{s:Zs}{z:Zn}
theorem ZnX.Kr (h:ZnX lo g w s z)(hs:w.heap.size<=w'.heap.size)(hb:∀k,lo<=k->k<w.heap.size->k≠g->w'.heap[k]? =w.heap[k]?):ZnX lo g w' s z:=
 ⟨h.JQ.Kr hs hb,h.rules.Kr hs hb,h.trans.Kr hs hb,h.J6.Kr hs hb⟩
theorem ZnX.off (h:ZnX lo g w s z)(hg:g'<lo):ZnX lo g' w s z:=⟨h.JQ.off hg,h.rules.off hg,h.trans.off hg,h.J6.off hg⟩
theorem ZnX.lower (h:ZnX lo g w s z)(hl:lo'<=lo):ZnX lo' g w s z:=⟨h.JQ.lower hl,h.rules.lower hl,h.trans.lower hl,h.J6.lower hl⟩
theorem ZnX.at (h:ZnX lo g w s z):N7 w w.heap.size s z:=⟨h.JQ.at,h.rules.at,h.trans.at,h.J6.at⟩
end
structure Qs (z:Zn):Prop where
 JQ:z.cal.JQ.length<=10000
 rules:z.cal.rules.length<=10000
 trans:z.trans.length<=10000
 J6:z.J6.length<=10000
def OQ:ax ah:= #[I 0,.slice none 0 0,I 0,.slice none 0 0,I 0,.slice none 0 0,I 0,.slice none 0 0]
structure CzS (w:ae)(cs:ax ah)(W:ae):Prop where
 var:W.heap[w.heap.size]? =some (.cells cs 69 (0,0))
 res:W.heap[w.heap.size+1]? =some (.cells OQ 69 (0,0))
 up:ai w.heap.size w W
section
variable {w W W':ae}{cs:ax ah}
theorem CzS.lt (h:CzS w cs W):w.heap.size+1<W.heap.size:=(KY.1 h.res).1
theorem CzS.grow (h:CzS w cs W)(hb:ai W.heap.size W W'):CzS w cs W':=
 ⟨(hb.block _ (by have:=h.lt;omega)).trans h.var,(hb.block _ h.lt).trans h.res,JL h.up hb⟩
theorem CzS.store (h:CzS w cs W)(o:Nat)(v:ah):CzS w (cs.setIfInBounds o v) (W.setCell ⟨w.heap.size,o,none⟩ v):=
 ⟨bJ W _ o _ _ _ h.var,(aN W _ _ v (by show w.heap.size+1≠w.heap.size;omega)).trans h.res,h.up.setCell (p:=⟨w.heap.size,o,none⟩) (ay _) _⟩
theorem CzS.start (w:ae)(cs:ax ah):CzS w cs ((w.alloc (.cells cs 69)).alloc (.cells OQ 69)):=
 ⟨dJ w _ _,bW w _ _,JL (JM w _) (JM _ _)⟩
theorem CzS.row (h:CzS w cs W):Row W w.heap.size cs:=⟨by have:=h.lt;omega,fun i=>aC W _ i _ _ _ h.var⟩
end
theorem QV {w W:ae}{o:Nat}{v:ah}{lo g:Nat}{A:aj Addr}{cs:ag ah}(h:CX lo g W A cs)(hlo:w.heap.size+2<=lo):CX lo g (W.setCell ⟨w.heap.size,o,none⟩ v) A cs:=
 h.Kr (by simp[World.setCell]) fun k h1 _ _=>aN W _ k _ (by show k≠w.heap.size;omega)
def CzQ (w:ae)(z:Zn)(e:Ending)(w':ae):Prop:=∃s,e=.returned (.agg (JV z s))/\ZnX w.heap.size w.heap.size w' s z/\ai w.heap.size w w'
theorem ahM (z:Zn)(s:Zs):(JV z s)[1]? =some (.slice s.A z.cal.JQ.length s.a):=rfl
theorem ahN (z:Zn)(s:Zs):(JV z s)[3]? =some (.slice s.B z.cal.rules.length s.b):=rfl
theorem ahO (z:Zn)(s:Zs):(JV z s)[5]? =some (.slice s.C z.trans.length s.c):=rfl
theorem ahP (z:Zn)(s:Zs):(JV z s)[7]? =some (.slice s.D z.J6.length s.d):=rfl
attribute [local go_sem] ahM ahN ahO ahP
theorem U8 (z:Zn)(s:Zs)(w:ae)(hL:Qs z)(hA:N7 w w.heap.size s z):Calls Tryz.prog 49 #[.agg (JV z s)] w (CzQ w z):=by
 have HS:=JJ (CzS.start w (JV z s));have HL:=JJ hL;have HA:=JJ hA;clear hL hA;go_enter Tryz.func49,Tryz.ntmps49;go_wp2_with(with_reducible refine Kz 69 ?_;refine Ll rfl _ rfl OQ (by kernel_rfl) ?_);generalize (w.alloc (.cells (JV z s) 69)).alloc (.cells OQ 69)=W0 at HS⊢;have Uc:=HS;have c0:W0.cell? ⟨w.heap.size,1,none⟩=some (.slice s.A z.cal.JQ.length s.a):=Uc.out.row.2 1;have f0:∀i,W0.frozen? ⟨w.heap.size,i,none⟩=false:=fun i=>aP _ _ i _ _ Uc.out.var;refine(show Calls Tryz.prog _ _ W0 _ from anA s.A s.a z.cal.JQ.length (z.cal.JQ.map I) W0 (HA.out.JQ.keep Uc.out.up |>.more Uc.out.up.size) (by rw[aI];omega) (by intro u hu;obtain⟨q,_,rfl⟩:=fJ.1 hu;rfl) HL.out.JQ).mono ?_;rintro e w1 ⟨A1,a1,rfl,hown,hb⟩;have anb:=JJ (Uc.out.grow hb);have hr1:∀i,w1.cell? ⟨w.heap.size,i,none⟩=_:=anb.out.row.2;have hf1:∀i,w1.frozen? ⟨w.heap.size,i,none⟩=false:=fun i=>aP _ _ i _ _ anb.out.var;have v1:w1.cell? ⟨w.heap.size,1,none⟩=some (.slice s.A z.cal.JQ.length s.a):=hr1 1;have hlt1:=Uc.out.lt;have n1:w1.cell? ⟨w.heap.size,3,none⟩=some (.slice s.B z.cal.rules.length s.b):=hr1 3;have afh:Hid (CX (w.heap.size+2) w.heap.size (w1.setCell ⟨w.heap.size,1,none⟩ (.slice A1 z.cal.JQ.length a1)) A1 (z.cal.JQ.map I)):=JJ (QV ((CX.Le hown (by omega)).lower (by omega)) (ay _));have RX:Hid (CzS w (JV z ⟨A1,a1,s.B,s.b,s.C,s.c,s.D,s.d⟩) (w1.setCell ⟨w.heap.size,1,none⟩ (.slice A1 z.cal.JQ.length a1))):=JJ (anb.out.store 1 (.slice A1 z.cal.JQ.length a1));clear hown hb hr1 c0 f0;go_wp2_with fail;generalize hW1:w1.setCell ⟨w.heap.size,1,none⟩ (.slice A1 z.cal.JQ.length a1)=W1 at RX afh⊢;have PT:=RX;have avr:=afh;have c1:W1.cell? ⟨w.heap.size,3,none⟩=some (.slice s.B z.cal.rules.length s.b):=PT.out.row.2 3;have f1:∀i,W1.frozen? ⟨w.heap.size,i,none⟩=false:=fun i=>aP _ _ i _ _ PT.out.var;clear v1 n1 hf1 hlt1 RX anb hW1 afh;refine(show Calls Tryz.prog _ _ W1 _ from anC s.B s.b z.cal.rules.length (z.cal.rules.flatMap Lr.cells) W1 (HA.out.rules.keep PT.out.up |>.more PT.out.up.size) (by rw[KW (s:=3) Lr.cells _ fun _ _=>rfl]) (ach Lr.cells _ fun x _=>aob x) HL.out.rules).mono ?_;rintro e w2 ⟨A2,a2,rfl,hown,hb⟩;have anc:=JJ (PT.out.grow hb);have hr2:∀i,w2.cell? ⟨w.heap.size,i,none⟩=_:=anc.out.row.2;have hf2:∀i,w2.frozen? ⟨w.heap.size,i,none⟩=false:=fun i=>aP _ _ i _ _ anc.out.var;have v2:w2.cell? ⟨w.heap.size,3,none⟩=some (.slice s.B z.cal.rules.length s.b):=hr2 3;have hlt2:=PT.out.lt;have n2:w2.cell? ⟨w.heap.size,5,none⟩=some (.slice s.C z.trans.length s.c):=hr2 5;have afi:=JJ (QV (o:=3) (v:=.slice A2 z.cal.rules.length a2) (avr.out.Kr hb.size fun k _ h2 _=>hb.block k h2) (ay _));have afk:Hid (CX (w.heap.size+2) w.heap.size (w2.setCell ⟨w.heap.size,3,none⟩ (.slice A2 z.cal.rules.length a2)) A2 (z.cal.rules.flatMap Lr.cells)):=JJ (QV ((CX.Le hown (by omega)).lower (by omega)) (ay _));have RX:Hid (CzS w (JV z ⟨A1,a1,A2,a2,s.C,s.c,s.D,s.d⟩) (w2.setCell ⟨w.heap.size,3,none⟩ (.slice A2 z.cal.rules.length a2))):=JJ (anc.out.store 3 (.slice A2 z.cal.rules.length a2));clear hown hb hr2 c1 f1;go_wp2_with fail;generalize hW2:w2.setCell ⟨w.heap.size,3,none⟩ (.slice A2 z.cal.rules.length a2)=W2 at RX afi afk⊢;have HS2:=RX;have avs:=afi;have avu:=afk;have c2:W2.cell? ⟨w.heap.size,5,none⟩=some (.slice s.C z.trans.length s.c):=HS2.out.row.2 5;have f2:∀i,W2.frozen? ⟨w.heap.size,i,none⟩=false:=fun i=>aP _ _ i _ _ HS2.out.var;clear v2 n2 hf2 hlt2 RX anc hW2 afi afk;refine(show Calls Tryz.prog _ _ W2 _ from anE s.C s.c z.trans.length (z.trans.flatMap Tr.cells) W2 (HA.out.trans.keep HS2.out.up |>.more HS2.out.up.size) (by rw[KW (s:=2) Tr.cells _ fun _ _=>rfl]) (ach Tr.cells _ fun x _=>WC x) HL.out.trans).mono ?_;rintro e w3 ⟨A3,a3,rfl,hown,hb⟩;have ane:=JJ (HS2.out.grow hb);have hr3:∀i,w3.cell? ⟨w.heap.size,i,none⟩=_:=ane.out.row.2;have hf3:∀i,w3.frozen? ⟨w.heap.size,i,none⟩=false:=fun i=>aP _ _ i _ _ ane.out.var;have v3:w3.cell? ⟨w.heap.size,5,none⟩=some (.slice s.C z.trans.length s.c):=hr3 5;have hlt3:=HS2.out.lt;have n3:w3.cell? ⟨w.heap.size,7,none⟩=some (.slice s.D z.J6.length s.d):=hr3 7
 have afj:=JJ (QV (o:=5) (v:=.slice A3 z.trans.length a3) (avs.out.Kr hb.size fun k _ h2 _=>hb.block k h2) (ay _));have afl:=JJ (QV (o:=5) (v:=.slice A3 z.trans.length a3) (avu.out.Kr hb.size fun k _ h2 _=>hb.block k h2) (ay _));have afm:Hid (CX (w.heap.size+2) w.heap.size (w3.setCell ⟨w.heap.size,5,none⟩ (.slice A3 z.trans.length a3)) A3 (z.trans.flatMap Tr.cells)):=JJ (QV ((CX.Le hown (by omega)).lower (by omega)) (ay _));have RX:Hid (CzS w (JV z ⟨A1,a1,A2,a2,A3,a3,s.D,s.d⟩) (w3.setCell ⟨w.heap.size,5,none⟩ (.slice A3 z.trans.length a3))):=JJ (ane.out.store 5 (.slice A3 z.trans.length a3));clear hown hb hr3 c2 f2;go_wp2_with fail;generalize hW3:w3.setCell ⟨w.heap.size,5,none⟩ (.slice A3 z.trans.length a3)=W3 at RX afj afl afm⊢;have Qi:=RX;have avt:=afj;have avv:=afl;have avw:=afm;have c3:W3.cell? ⟨w.heap.size,7,none⟩=some (.slice s.D z.J6.length s.d):=Qi.out.row.2 7;have f3:∀i,W3.frozen? ⟨w.heap.size,i,none⟩=false:=fun i=>aP _ _ i _ _ Qi.out.var;clear v3 n3 hf3 hlt3 RX ane hW3 afj afl afm;refine(show Calls Tryz.prog _ _ W3 _ from anG s.D s.d z.J6.length (z.J6.flatMap Yr.cells) W3 (HA.out.J6.keep Qi.out.up |>.more Qi.out.up.size) (by rw[KW (s:=5) Yr.cells _ fun _ _=>rfl]) (ach Yr.cells _ fun x _=>agx x) HL.out.J6).mono ?_;rintro e w4 ⟨A4,a4,rfl,hown,hb⟩;have aqW:=JJ (Qi.out.grow hb);have hr4:∀i,w4.cell? ⟨w.heap.size,i,none⟩=_:=aqW.out.row.2;have hf4:∀i,w4.frozen? ⟨w.heap.size,i,none⟩=false:=fun i=>aP _ _ i _ _ aqW.out.var;have v4:w4.cell? ⟨w.heap.size,7,none⟩=some (.slice s.D z.J6.length s.d):=hr4 7;have hlt4:=Qi.out.lt;have arb:=JJ (QV (o:=7) (v:=.slice A4 z.J6.length a4) (avt.out.Kr hb.size fun k _ h2 _=>hb.block k h2) (ay _));have arc:=JJ (QV (o:=7) (v:=.slice A4 z.J6.length a4) (avv.out.Kr hb.size fun k _ h2 _=>hb.block k h2) (ay _));have ard:=JJ (QV (o:=7) (v:=.slice A4 z.J6.length a4) (avw.out.Kr hb.size fun k _ h2 _=>hb.block k h2) (ay _));have arf:Hid (CX (w.heap.size+2) w.heap.size (w4.setCell ⟨w.heap.size,7,none⟩ (.slice A4 z.J6.length a4)) A4 (z.J6.flatMap Yr.cells)):=JJ (QV ((CX.Le hown (by omega)).lower (by omega)) (ay _));have RX:Hid (CzS w (JV z ⟨A1,a1,A2,a2,A3,a3,A4,a4⟩) (w4.setCell ⟨w.heap.size,7,none⟩ (.slice A4 z.J6.length a4))):=JJ (aqW.out.store 7 (.slice A4 z.J6.length a4));clear hown hb hr4 c3 f3;go_wp2_with(first
  |(with_reducible refine Nb 69 ?_;refine KF rfl _ _ rfl w.heap.size rfl (JV z ⟨A1,a1,A2,a2,A3,a3,A4,a4⟩) RX.out.row _ cu rfl (QF _ _) ?_)
  |(with_reducible refine Lj 69 ?_;refine aB rfl _ _ _ rfl (w.heap.size+1) (JV z ⟨A1,a1,A2,a2,A3,a3,A4,a4⟩) rfl rfl 69 OQ RX.out.res (QF _ _) rfl (aaA _ _) ?_))
 refine aX (v:=.agg (JV z ⟨A1,a1,A2,a2,A3,a3,A4,a4⟩)) (dH rfl _ _ (w.heap.size+1) _ (JV z ⟨A1,a1,A2,a2,A3,a3,A4,a4⟩) (0,0) _ rfl (aQ _ _ _ _ _ _ RX.out.res) cu rfl (QF _ _)) rfl ?_;have hb:∀(W:ae) (cs:ax ah) (k:Nat),w.heap.size+2<=k->(W.setRow (w.heap.size+1) cs).heap[k]? =W.heap[k]? :=fun W cs k hk=>cZ _ _ k _ (by omega);have hX:∀ {A:aj Addr} {cs:ag ah} {W:ae} {rc:ax ah},CX (w.heap.size+2) w.heap.size W A cs->CX w.heap.size w.heap.size (W.setRow (w.heap.size+1) rc) A cs:=fun h=>(h.Kr (by simp[World.setRow]) fun k h1 _ _=>hb _ _ k h1).lower (by omega);exact⟨⟨A1,a1,A2,a2,A3,a3,A4,a4⟩,rfl,⟨hX arb.out,hX arc.out,hX ard.out,hX arf.out⟩,eH RX.out.up (bV _) _⟩
end
section
def CO (lo:Nat)(w:ae)(A:aj Addr)(cs:ag ah):Prop:=
 cs.length=0\/∃b off,A=some ⟨b,off,none⟩/\lo<=b/\b<w.heap.size/\∀j u,cs[j]? =some u->w.cell? ⟨b,off+j,none⟩=some u
structure ZnO (lo:Nat)(w:ae)(s:Zs)(z:Zn):Prop where
 JQ:CO lo w s.A (z.cal.JQ.map I)
 rules:CO lo w s.B (z.cal.rules.flatMap Lr.cells)
 trans:CO lo w s.C (z.trans.flatMap Tr.cells)
 J6:CO lo w s.D (z.J6.flatMap Yr.cells)
def CU (lo:Nat)(w:ae)(A:aj Addr)(n:Nat):Prop:=
 n=0\/∃b off,A=some ⟨b,off,none⟩/\lo<=b/\b<w.heap.size/\∀j,w.frozen? ⟨b,off+j,none⟩=false
structure XJ (lo:Nat)(w:ae)(A:aj Addr)(zs:ag L9):Prop where
 row:CO lo w A (KC zs)
 free:CU lo w A zs.length
 each:∀x∈zs,ZnO lo w x.s x.e.z
structure TbO (lo:Nat)(w:ae)(x:Kv):Prop where
 names:x.t.JX=x.zs.map (·.e)
 prev:x.t.prev.length=32
 Ku:x.t.Ku.length=32
 JX:XJ lo w x.A x.zs
section
variable {lo lo' g:Nat}{w w':ae}{A:aj Addr}{cs:ag ah}{s:Zs}{z:Zn}{zs:ag L9}{x:Kv}
theorem CX.own (h:CX lo g w A cs):CO lo w A cs:=h.imp id fun ⟨b,off,h1,h2,h3,_,h5⟩=>⟨b,off,h1,h2,h3,h5⟩
theorem CO.Kr (h:CO lo w A cs)(hs:w.heap.size<=w'.heap.size)(hb:∀k,lo<=k->k<w.heap.size->w'.heap[k]? =w.heap[k]?):CO lo w' A cs:=
 h.imp id fun ⟨b,off,h1,h2,h3,h5⟩=>⟨b,off,h1,h2,LK h3 hs,fun j u hu=>(bI (a:=⟨b,off+j,none⟩) (hb b h2 h3)).trans (h5 j u hu)⟩
theorem CO.lower (h:CO lo w A cs)(hl:lo'<=lo):CO lo' w A cs:=h.imp id fun ⟨b,off,h1,h2,h3,h5⟩=>⟨b,off,h1,by omega,h3,h5⟩
theorem CU.Kr {n:Nat}(h:CU lo w A n)(hs:w.heap.size<=w'.heap.size)(hb:∀k,lo<=k->k<w.heap.size->w'.heap[k]? =w.heap[k]?):CU lo w' A n:=
 h.imp id fun ⟨b,off,h1,h2,h3,h5⟩=>⟨b,off,h1,h2,LK h3 hs,fun j=>(World.frozen?_of_block (a:=⟨b,off+j,none⟩) (hb b h2 h3)).trans (h5 j)⟩
theorem CU.lower {n:Nat}(h:CU lo w A n)(hl:lo'<=lo):CU lo' w A n:=h.imp id fun ⟨b,off,h1,h2,h3,h5⟩=>⟨b,off,h1,by omega,h3,h5⟩
theorem CO.at (h:CO lo w A cs):JS w w.heap.size A cs:=h.imp id fun ⟨b,off,h1,_,h3,h5⟩=>⟨b,off,h1,h3,h5⟩
theorem ZnX.own (h:ZnX lo g w s z):ZnO lo w s z:=⟨h.JQ.own,h.rules.own,h.trans.own,h.J6.own⟩
theorem ZnO.Kr (h:ZnO lo w s z)(hs:w.heap.size<=w'.heap.size)(hb:∀k,lo<=k->k<w.heap.size->w'.heap[k]? =w.heap[k]?):ZnO lo w' s z:=⟨h.JQ.Kr hs hb,h.rules.Kr hs hb,h.trans.Kr hs hb,h.J6.Kr hs hb⟩
theorem ZnO.lower (h:ZnO lo w s z)(hl:lo'<=lo):ZnO lo' w s z:=⟨h.JQ.lower hl,h.rules.lower hl,h.trans.lower hl,h.J6.lower hl⟩
theorem ZnO.at (h:ZnO lo w s z):N7 w w.heap.size s z:=⟨h.JQ.at,h.rules.at,h.trans.at,h.J6.at⟩
theorem XJ.Kr (h:XJ lo w A zs)(hs:w.heap.size<=w'.heap.size)(hb:∀k,lo<=k->k<w.heap.size->w'.heap[k]? =w.heap[k]?):XJ lo w' A zs:=⟨h.row.Kr hs hb,h.free.Kr hs hb,fun x hx=>(h.each x hx).Kr hs hb⟩
theorem XJ.lower (h:XJ lo w A zs)(hl:lo'<=lo):XJ lo' w A zs:=⟨h.row.lower hl,h.free.lower hl,fun x hx=>(h.each x hx).lower hl⟩
theorem XJ.at (h:XJ lo w A zs):O3 w w.heap.size A zs:=⟨h.row.at,fun x hx=>(h.each x hx).at⟩
theorem TbO.Kr (h:TbO lo w x)(hs:w.heap.size<=w'.heap.size)(hb:∀k,lo<=k->k<w.heap.size->w'.heap[k]? =w.heap[k]?):TbO lo w' x:=⟨h.names,h.prev,h.Ku,h.JX.Kr hs hb⟩
theorem TbO.lower (h:TbO lo w x)(hl:lo'<=lo):TbO lo' w x:=⟨h.names,h.prev,h.Ku,h.JX.lower hl⟩
theorem TbO.at (h:TbO lo w x):Ld w w.heap.size x:=⟨h.names,h.prev,h.Ku,h.JX.at⟩
theorem CO.Le {e size n c:Nat}(h:w.ownsRow lo e size (.slice A n c) n cs):CO lo w A cs:=by
 rcases h.2 with ⟨hv,hn⟩|⟨b,cap,cur,hv,hb,hh,_⟩
 ·refine .inl ?_;rw[h.1,hn,gU]
 ·injection hv with h1 _ _;subst h1;exact .inr ⟨b,0,rfl,hb,(KY.1 hh).1,fun j u hu=>by rw[aT,<-addr_add];exact h.cells (g:=b) rfl j u hu⟩
theorem CU.Le {e size n c:Nat}(h:w.ownsRow lo e size (.slice A n c) n cs):CU lo w A n:=by
 rcases h.2 with ⟨_,hn⟩|⟨b,cap,cur,hv,hb,hh,_⟩
 ·exact .inl hn
 ·injection hv with h1 _ _;subst h1;exact .inr ⟨b,0,rfl,hb,(KY.1 hh).1,fun j=>aP w b _ _ _ hh⟩
end
def ClV (w:ae)(x:Kv)(e:Ending)(w':ae):Prop:=
 ∃y:Kv,y.t=x.t/\y.zs.map (·.e)=x.zs.map (·.e)/\e=.returned (.agg (JK y.t (.slice y.A y.zs.length y.c)))/\TbO w.heap.size w' y/\ai w.heap.size w w'
def atT (w:ae)(t:Tb)(g n c:Nat)(zs:ag L9)(i:ah)(wr:ae):Prop:=
 ∃(k:Nat) (ys:ag L9),k<=n/\i=.int .i64 k/\ys.length=k/\ys.map (·.e)=(zs.take k).map (·.e)/\ClS w t (.slice (some ⟨g,0,none⟩) n c) wr/\
  wr.ownsRow (w.heap.size+2) 76 9 (.slice (some ⟨g,0,none⟩) n c) n (KC (ys++zs.drop k))/\∀y∈ys,ZnX (w.heap.size+2) g wr y.s y.e.z
attribute [local go_sem] NT NU OH LD
theorem adO (t:Tb)(A0:aj Addr)(c0:Nat)(hz:t.JX= [])(h32:t.prev.length=32)(hm:t.Ku.length=32)(w:ae):Calls Tryz.prog 36 #[.agg (JK t (.slice A0 0 c0))] w (ClV w ⟨t,A0,c0,[]⟩):=by
 have HS:=JJ (ClS.start w t (.slice A0 0 c0));have L6:Hid (∀v,(Tryz.prog.info? 26).map (·.size)=some (JK t v).size):=JJ fun v=>Ky t v h32 hm;have SL:Hid (∀v,Tryz.zeroCells26.size=(JK t v).size):=JJ fun v=>(by rw[Kq _ _ h32 hm];kernel_rfl);have H3:Hid (t.JX= []/\t.prev.length=32/\t.Ku.length=32):=JJ ⟨hz,h32,hm⟩;clear hz h32 hm;go_enter Tryz.func36,Tryz.ntmps36;go_wp2_with fail;generalize (w.alloc (.cells (JK t (.slice A0 0 c0)) 26)).alloc (.cells Tryz.zeroCells26 26)=W1 at HS⊢;have hl0:=HS.out.lt;refine(show Calls Tryz.prog _ _ W1 _ from agZ A0 c0 0 [] W1 .nil rfl (fun _ h=>nomatch h) (by omega)).mono ?_;rintro e w2 ⟨A,c,rfl,hown,hb2⟩;have HS2:=JJ (HS.out.grow hb2);have hr2:=HS2.out.row.2;have hf2:∀i,w2.frozen? ⟨w.heap.size,i,none⟩=false:=fun i=>aP _ _ i _ _ HS2.out.var;have Qi:=JJ (HS2.out.store (.slice A 0 c));clear hown hb2 HS hl0;go_wp2_with fail;generalize w2.setCell ⟨w.heap.size,3,none⟩ (.slice A 0 c)=w3 at Qi⊢;clear hr2 hf2
 go_loopw [11] (fun i wr=>i=.int .i64 0/\ClS w t (.slice A 0 c) wr) (fun _ _=>0)
 case atStart=>exact⟨rfl,Qi.out⟩
 case round=>
  obtain⟨rfl,hs⟩:=hrel;have HC:=JJ hs;clear hs Qi;go_wp2_with(first
   |(with_reducible refine Nb 26 ?_;refine KF rfl _ _ rfl w.heap.size rfl (JK t (.slice A 0 c)) HC.out.row _ az rfl (L6.out _) ?_)
   |(with_reducible refine Lj 26 ?_;refine aB rfl _ _ _ rfl (w.heap.size+1) (JK t (.slice A 0 c)) rfl rfl 26 Tryz.zeroCells26 HC.out.res (L6.out _) (SL.out _) (J9 _ _ _ _) ?_))
  refine aX (v:=.agg (JK t (.slice A 0 c))) (dH rfl _ _ (w.heap.size+1) _ (JK t (.slice A 0 c)) (0,0) _ rfl (aQ _ _ _ _ _ _ HC.out.res) az rfl (L6.out _)) rfl ?_;exact⟨⟨t,A,c,[]⟩,rfl,rfl,rfl,⟨H3.out.1,H3.out.2.1,H3.out.2.2,.inl rfl,.inl rfl,fun _ hx=>nomatch hx⟩,eH HC.out.up (bV _) _⟩
theorem adN (t:Tb)(A0:aj Addr)(c0 n:Nat)(zs:ag L9)(w:ae)(hz:∀x∈zs,Qs x.e.z)(hn:zs.length=n)(hn0:0<n)(hn1:n<=1000)(h32:t.prev.length=32)(hm:t.Ku.length=32)(hzz:t.JX=zs.map (·.e))
  (hA:O3 w w.heap.size A0 zs):
  Calls Tryz.prog 36 #[.agg (JK t (.slice A0 n c0))] w (ClV w ⟨t,A0,c0,zs⟩):=by
 have HS:=JJ (ClS.start w t (.slice A0 n c0));have L6:Hid (∀v,(Tryz.prog.info? 26).map (·.size)=some (JK t v).size):=JJ fun v=>Ky t v h32 hm;have SL:Hid (∀v,Tryz.zeroCells26.size=(JK t v).size):=JJ fun v=>(by rw[Kq _ _ h32 hm];kernel_rfl);have HZ:=JJ hz;have HN:=JJ hn;have HA:=JJ hA;have H3:Hid (t.JX=zs.map (·.e)/\t.prev.length=32/\t.Ku.length=32):=JJ ⟨hzz,h32,hm⟩;clear hz hn hA hzz h32 hm;go_enter Tryz.func36,Tryz.ntmps36;go_wp2_with fail;generalize (w.alloc (.cells (JK t (.slice A0 n c0)) 26)).alloc (.cells Tryz.zeroCells26 26)=W1 at HS⊢;have hl0:=HS.out.lt;refine(show Calls Tryz.prog _ _ W1 _ from agZ A0 c0 n (KC zs) W1 ((HA.out.row.keep HS.out.up).more HS.out.up.size) (by rw[MB,HN.out]) (aay zs) (by omega)).mono ?_;rintro e w2 ⟨A',c,rfl,hown,hb2⟩;obtain⟨g,c',hv,_⟩:=LW hown hn0;injection hv with hv1 _ hv3;subst hv1 hv3;have HS2:=JJ (HS.out.grow hb2);have hr2:=HS2.out.row.2;have hf2:∀i,w2.frozen? ⟨w.heap.size,i,none⟩=false:=fun i=>aP _ _ i _ _ HS2.out.var;have hg1:=Qx hown;have Qi:=JJ (HS2.out.store (.slice (some ⟨g,0,none⟩) n c));have VJ:=JJ (Nl (u:=.slice (some ⟨g,0,none⟩) n c) (p:=⟨w.heap.size,3,none⟩) (KD hown (base':=w.heap.size+2) (by omega)) (by intro h;injection h with h;simp only at h;omega));have hg2:w.heap.size+2<=g:=by omega
 clear hown hb2 HS hl0 hg1;go_wp2_with fail;generalize w2.setCell ⟨w.heap.size,3,none⟩ (.slice (some ⟨g,0,none⟩) n c)=w3 at Qi VJ⊢;clear hr2 hf2
 go_loopw [11] (fun i wr=>atT w t g n c zs i wr) (fun i _=>n - (intOf i).toNat)
 case atStart=>exact⟨0,[],aG _,rfl,rfl,rfl,Qi.out,VJ.out,fun _ h=>nomatch h⟩
 case round=>
  obtain⟨k,ys,hk,rfl,hyl,hye,hcs,hown,hym⟩:=hrel;have HC:=JJ hcs;have HO:=JJ hown;have HYE:=JJ hye;have HYM:=JJ hym;have SN:=JJ hyl;clear hcs hown hye hym hyl Qi VJ;by_cases hlt:k<n
  ·have hkz:k<zs.length:=by rw[HN.out];exact hlt
   obtain⟨x,hx⟩:∃x,zs[k]? =some x:=⟨_,KL hkz⟩;have hd:zs.drop k=x::zs.drop (k+1):=by
    rw[eF hkz];rw[KL hkz] at hx;injection hx with hx;rw[hx]
   have hown2:=HO.out;rw[hd] at hown2;have SI:=JJ hown2;have hxm:=LQ hx;have hfl:=HZ.out x hxm;have cc:∀j u,x.cells[j]? =some u->wr.cell? ⟨g,k*9+j,none⟩=some u:=fun j u hu=>by
    have hj:j<9:=(KY.1 hu).1;refine Vf hown2 _ _ ?_;rw[Tu _ k j x (by rw[bH (by have:=SN.out;omega),SN.out];simp) hj];exact hu
   have hwr:g<wr.heap.size:=(Qx hown2).2;have fz:∀j,wr.frozen? ⟨g,j,none⟩=false:=ZZ hown2;have a3:wr.cell? ⟨w.heap.size,3,none⟩=some (.slice (some ⟨g,0,none⟩) n c):=(HC.out.row.2 3).trans rfl;have z0:wr.cell? ⟨g,k*9+1,none⟩=some (I x.e.z.cal.KI):=cc 1 _ rfl;have z1:wr.cell? ⟨g,k*9+2,none⟩=some (.slice x.s.A x.e.z.cal.JQ.length x.s.a):=cc 2 _ rfl;have z2:wr.cell? ⟨g,k*9+3,none⟩=some (I x.e.z.cal.Lm):=cc 3 _ rfl;have z3:wr.cell? ⟨g,k*9+4,none⟩=some (.slice x.s.B x.e.z.cal.rules.length x.s.b):=cc 4 _ rfl;have z4:wr.cell? ⟨g,k*9+5,none⟩=some (I x.e.z.start):=cc 5 _ rfl;have z5:wr.cell? ⟨g,k*9+6,none⟩=some (.slice x.s.C x.e.z.trans.length x.s.c):=cc 6 _ rfl;have z6:wr.cell? ⟨g,k*9+7,none⟩=some (I x.e.z.hor):=cc 7 _ rfl;have z7:wr.cell? ⟨g,k*9+8,none⟩=some (.slice x.s.D x.e.z.J6.length x.s.d):=cc 8 _ rfl;have HCZ:Hid (∀W,ai wr.heap.size wr W->Calls Tryz.prog 49 #[.agg #[I x.e.z.cal.KI,.slice x.s.A x.e.z.cal.JQ.length x.s.a,I x.e.z.cal.Lm,.slice x.s.B x.e.z.cal.rules.length x.s.b,I x.e.z.start,.slice x.s.C x.e.z.trans.length x.s.c,I x.e.z.hor,.slice x.s.D x.e.z.J6.length x.s.d]] W (CzQ W x.e.z)):=
    JJ fun W hb=>U8 x.e.z x.s W hfl ((HA.out.each x hxm).grow (JL HC.out.up hb))
   have i0:(0:Int)<=(k:Int):=by omega
   have i1:(k:Int)<(n:Int):=by omega
   have hNg:w.heap.size<wr.heap.size:=by omega
   clear cc hkz hd hown2 hfl hxm;have HX:=JJ hx;clear hx;go_wp2_with fail;have hk9:k*9+1+8<=n*9:=by omega
   go_region_law (first|(go_simp;go_at_call 49;refine(HCZ.out _ (aW _ _).drew).mono ?_;rintro e w5 ⟨s5,rfl,hown5,hb5⟩;dsimp only[JV];have hs5:=hb5.size;have hc5:w5.cell? ⟨w.heap.size,3,none⟩=some (.slice (some ⟨g,0,none⟩) n c):=(hb5.cell (p:=⟨w.heap.size,3,none⟩) hNg).trans a3;have hz5:∀j,w5.cell? ⟨g,j,none⟩=wr.cell? ⟨g,j,none⟩:=fun j=>hb5.cell (p:=⟨g,j,none⟩) hwr;have hf5:∀j,w5.frozen? ⟨g,j,none⟩=false:=fun j=>(hb5.frozen (p:=⟨g,j,none⟩) hwr).trans (fz j);have HW5:=JJ hown5;have VI:=JJ hb5;clear hown5 hb5 hs5))
   all_goals
    have hO5:w5.ownsRow (w.heap.size+2) 76 9 (.slice (some ⟨g,0,none⟩) n c) n (KC (ys++x::zs.drop (k+1))):=MK SI.out fun j _ h2=>VI.out.block j h2;have hO6:=ad6 (JV x.e.z s5).toList (k*9+1) _ _ hO5;rw[<-SN.out,ac0 ys x _ _,SN.out] at hO6;have hC6:=(HC.out.drew.grow VI.out).puts g (k*9+1) (JV x.e.z s5).toList hg2;have hM6:∀y∈ys++ [(⟨x.e,s5⟩:L9)],ZnX (w.heap.size+2) g (w5.setCells g (k*9+1) (JV x.e.z s5).toList) y.s y.e.z:=by
     intro y hy;rcases dm.1 hy with hy|hy
     ·exact(HYM.out y hy).Kr (by rw[acB];exact VI.out.size) fun j _ hj hjg=>(Vh _ _ _ _ _ hjg).trans (VI.out.block j hj)
     ·rw[aY.1 hy];exact((HW5.out.off (g':=g) hwr).lower (by show w.heap.size+2<=wr.heap.size;have:=HC.out.lt;omega)).Kr (by rw[acB];exact ay _) fun j _ _ hjg=>Vh _ _ _ _ _ hjg
    have Xy:=JJ hO6;have Ug:=JJ hC6;have HM6:=JJ hM6;clear hO5 hO6 hC6 hM6 hc5 hz5 hf5;go_wp2_with fail;go_roundw
    case rel=>
     refine⟨k+1,ys++ [⟨x.e,s5⟩],by omega,by go_num,by rw[KN,SN.out];rfl,?_,Ug.out,by rw[aH];exact Xy.out,HM6.out⟩;rw[bY,HYE.out,ji,HX.out,bY];rfl
    case measure=>simp[intOf];omega
  ·have hkn:k=n:=by omega
   have WY:=JJ hkn;have hlt':¬(k:Int)<(n:Int):=by omega
   clear hkn hlt;go_wp2_with(first
    |(with_reducible refine Nb 26 ?_;refine KF rfl _ _ rfl w.heap.size rfl (JK t (.slice (some ⟨g,0,none⟩) n c)) HC.out.row _ az rfl (L6.out _) ?_)
    |(with_reducible refine Lj 26 ?_;refine aB rfl _ _ _ rfl (w.heap.size+1) (JK t (.slice (some ⟨g,0,none⟩) n c)) rfl rfl 26 Tryz.zeroCells26 HC.out.res (L6.out _) (SL.out _) (J9 _ _ _ _) ?_))
   refine aX (v:=.agg (JK t (.slice (some ⟨g,0,none⟩) n c))) (dH rfl _ _ (w.heap.size+1) _ (JK t (.slice (some ⟨g,0,none⟩) n c)) (0,0) _ rfl (aQ _ _ _ _ _ _ HC.out.res) az rfl (L6.out _)) rfl ?_;have hd:ys++zs.drop k=ys:=by rw[dW (by rw[HN.out,WY.out];exact ay _),iq]
   have hrow:=HO.out;rw[hd] at hrow;have hyn:ys.length=n:=SN.out.trans WY.out;have hye:ys.map (·.e)=zs.map (·.e):=by rw[HYE.out,WY.out,aU (by rw[HN.out];exact ay _)]
   have hrow2:(wr.setRow (w.heap.size+1) (JK t (.slice (some ⟨g,0,none⟩) n c))).ownsRow (w.heap.size+2) 76 9 (.slice (some ⟨g,0,none⟩) n c) n (KC ys):=MK hrow fun j h1 _=>cZ _ _ j _ (by omega);refine⟨⟨t,some ⟨g,0,none⟩,c,ys⟩,rfl,hye,by rw[hyn],⟨H3.out.1.trans hye.symm,H3.out.2.1,H3.out.2.2,(CO.Le hrow2).lower (by omega),hyn.symm▸(CU.Le hrow2).lower (by omega),fun y hy=>?_⟩,eH HC.out.up (bV _) _⟩;exact((HYM.out y hy).Kr (by simp[World.setRow]) fun j h1 _ _=>cZ _ _ j _ (by omega)).own.lower (by omega)
theorem Ut (x:Kv)(n:Nat)(w:ae)(hn:x.zs.length=n)(hn1:n<=1000)(hl:∀y∈x.zs,Qs y.e.z)(h:Ld w w.heap.size x):
  Calls Tryz.prog 36 #[.agg (JK x.t (.slice x.A n x.c))] w (ClV w x):=by
 obtain⟨t,A,c,zs⟩:=x;by_cases h0:n=0
 ·subst h0;have hz:zs= []:=bu hn;subst hz;exact adO t A c h.names h.prev h.Ku w
 ·exact adN t A c n zs w hl hn (by omega) hn1 h.prev h.Ku h.names h.JX
end
theorem LY {P:Program}{ops:ax Oper}{Q:Exit->Act->ae->Prop}{rest:ag Oper}{a:Act}{w:ae}{d:aj Tmp}{t:TypeId}{pos:String}{af:ax Edge}{g:aj (Nat×Bool)}(ty:TypeId){x:ax (Nat×Operand)}(h:wpList P ops Q (⟨d,.build ty x,t,pos,af,g⟩::rest) a w):wpList P ops Q (⟨d,.build ty x,t,pos,af,g⟩::rest) a w:=h
theorem afI (ts:ag Kv)(pre:ag (El ts)):(Lu ts pre).1= -1\/∃i:Nat,i<ts.length/\(Lu ts pre).1=(i:Int):=by
 unfold Lu;have:∀(l:ag (El ts)) (st:Int×ag Bool),(st.1= -1\/∃i:Nat,i<ts.length/\st.1=(i:Int))->((l.foldl (fun st x=>Nw st x.1) st).1= -1\/∃i:Nat,i<ts.length/\(l.foldl (fun st x=>Nw st x.1) st).1=(i:Int)):=by
  intro l
  induction l with
  |nil=>intro st h;exact h
  |cons x l ih=>
   intro st h;rw[lC];refine ih _ ?_;unfold Nw;split
   ·exact h
   ·dsimp only;split
    ·exact .inr ⟨x.1.1,(MF.1 x.2).1,rfl⟩
    ·exact h
 exact this pre _ (.inl rfl)
theorem ZE {ts:ag Kv}{p:Int}{b:Bool}(h:TM ts=(p,b)):p<0\/∃i x,p=((i:Nat):Int)/\(b=true->ts[i]? =some x):=by
 unfold TM at h;split at h
 ·injection h with h1 h2;rcases afI ts (bkL ts ts.length) with h3|⟨i,hi,h3⟩
  ·exact .inl (by omega)
  ·exact .inr ⟨i,ts[i],by omega,fun _=>KL hi⟩
 ·injection h with h1 h2;subst h1 h2;exact .inr ⟨0,⟨⟨0,0,0,[],[],[]⟩,none,0,[]⟩,rfl,fun h=>nomatch h⟩
def TC (ts:ag Kv):Prop:=∀x∈ts,x.zs.length<=1000/\∀y∈x.zs,Qs y.e.z
def azQ (w:ae)(ts:ag Kv)(e:Ending)(w':ae):Prop:=
 ai w.heap.size w w'/\∃p b,TM ts=(p,b)/\((b=false/\e=.returned (.tuple #[.agg Tryz.zeroCells26,I 1]))\/(b=true/\p<0/\e=.returned (.tuple #[.agg Tryz.zeroCells26,I 4]))\/
  (b=true/\∃i x y,p=((i:Nat):Int)/\ts[i]? =some x/\y.t=x.t/\y.zs.map (·.e)=x.zs.map (·.e)/\e=.returned (.tuple #[.agg (JK y.t (.slice y.A y.zs.length y.c)),I 0])/\TbO w.heap.size w' y))
theorem Y6:(Tryz.prog.info? 26).map (·.size)=some Tryz.zeroCells26.size:=by kernel_rfl
theorem amu:Tryz.zeroCells26.all (·.oneCell')=true:=by kernel_rfl
theorem ams:(Tryz.prog.info? 26).map (fun i=>(i.zero,i.size))=some (some (.agg Tryz.zeroCells26),Tryz.zeroCells26.size):=by kernel_rfl
theorem ZU (A:aj Addr)(c n:Nat)(ts:ag Kv)(w:ae)(hn:ts.length=n)(hn1:n<=1000)(hl:TC ts)(h:LJ w w.heap.size A ts):
  Calls Tryz.prog 14 #[.slice A n c] w (azQ w ts):=by
 have HR0:=JJ (aF w (.cells Tryz.zeroCells26 26));have HB0:=JJ (JM w (.cells Tryz.zeroCells26 26));have HC:=JJ (X9 A c n ts (w.alloc (.cells Tryz.zeroCells26 26)) hn hn1 (h.grow (JM w _)));have HN:=JJ hn;have HL:=JJ hl;have HCH:=JJ h;clear hn hl h;go_enter Tryz.func14,Tryz.ntmps14;go_wp2_with(first
  |(with_reducible refine Kz 26 ?_;refine Ll rfl _ rfl Tryz.zeroCells26 ams ?_))
 refine HC.out.mono ?_;rintro e w1 ⟨p,b,rfl,hp,hb1⟩;have HR1:=JJ ((hb1.block _ (by simp)).trans HR0.out);have HB1:=JJ (JL HB0.out hb1);have HP:=JJ hp;have hrg:=ZE hp;clear hb1 hp HC HR0 HB0;cases b with
 |false=>
  clear hrg;go_wp2_with(first
   |((with_reducible refine LY 26 ?_);refine KE rfl _ rfl Tryz.zeroCells26 (by kernel_rfl) ?_)
   |((with_reducible refine Lj 26 ?_);refine aB rfl _ _ _ rfl w.heap.size Tryz.zeroCells26 rfl rfl 26 Tryz.zeroCells26 HR1.out Y6 rfl amu ?_))
  refine aX (v:=.tuple #[.agg Tryz.zeroCells26,I 1]) (Ko rfl _ _ w.heap.size _ Tryz.zeroCells26 (0,0) _ rfl (aQ _ _ _ _ _ _ HR1.out) az rfl Y6 _ rfl) rfl ?_;exact⟨eH HB1.out (ay _) _,p,false,HP.out,.inl ⟨rfl,rfl⟩⟩
 |true=>
  rcases hrg with hneg|⟨i,x,rfl,hx⟩
  ·go_wp2_with(first
    |((with_reducible refine LY 26 ?_);refine KE rfl _ rfl Tryz.zeroCells26 (by kernel_rfl) ?_)
    |((with_reducible refine Lj 26 ?_);refine aB rfl _ _ _ rfl w.heap.size Tryz.zeroCells26 rfl rfl 26 Tryz.zeroCells26 HR1.out Y6 rfl amu ?_))
   refine aX (v:=.tuple #[.agg Tryz.zeroCells26,I 4]) (Ko rfl _ _ w.heap.size _ Tryz.zeroCells26 (0,0) _ rfl (aQ _ _ _ _ _ _ HR1.out) az rfl Y6 _ rfl) rfl ?_;exact⟨eH HB1.out (ay _) _,p,true,HP.out,.inr (.inl ⟨rfl,hneg,rfl⟩)⟩
  ·have hx:=hx rfl;have hil:i<n:=by have h1:=(MF.1 hx).1;have:=HN.out;omega
   have hxm:=LQ hx;have HAT:Hid (Ld w1 w1.heap.size x):=JJ ((HCH.out.each x hxm).grow HB1.out);have h68:=(HCH.out.each x hxm).size;obtain⟨b,off,rfl,hbw,htab⟩:∃b off,A=some ⟨b,off,none⟩/\b<w.heap.size/\OC w b off ts:=by
    rcases OG HCH.out with h0|h0
    ·have:=HN.out;omega
    ·exact h0
   have HCX:Hid (w1.rangeAt b (off+i*68) x.cells):=JJ (JY (htab i x hx).1 HB1.out hbw);have L6:Hid ((Tryz.prog.info? 26).map (·.size)=some x.cells.length):=JJ (by rw[h68];kernel_rfl);have HX:=JJ hx;have HLX:=JJ (HL.out x hxm);have i0:(0:Int)<=(i:Int):=by omega
   have i1:(i:Int)<(n:Int):=by omega
   clear hx hxm h68 htab;go_wp2_with(with_reducible refine Nb 26 ?_;refine jM rfl _ _ rfl b (off+i*68) rfl x.cells _ HCX.out az rfl L6.out ?_);refine(show Calls Tryz.prog _ #[.agg x.cells.toArray] w1 _ from Ut x x.zs.length w1 rfl HLX.out.1 HLX.out.2 HAT.out).mono ?_;rintro e w2 ⟨y,hy1,hy2,rfl,hy3,hb2⟩;have HY:=JJ (show y.t=x.t/\y.zs.map (·.e)=x.zs.map (·.e)/\TbO w1.heap.size w2 y from⟨hy1,hy2,hy3⟩);have HR2:=JJ ((hb2.block _ (KY.1 HR1.out).1).trans HR1.out);have HB2:=JJ (JL HB1.out hb2);have hlt1:=(KY.1 HR1.out).1;have HSY:=JJ (Ky y.t (.slice y.A y.zs.length y.c) hy3.prev hy3.Ku);have HZY:Hid (Tryz.zeroCells26.size=(JK y.t (.slice y.A y.zs.length y.c)).size):=JJ (by rw[Kq _ _ hy3.prev hy3.Ku];kernel_rfl);clear hy1 hy2 hy3 hb2;go_wp2_with((with_reducible refine Lj 26 ?_);refine aB rfl _ _ _ rfl w.heap.size (JK y.t (.slice y.A y.zs.length y.c)) rfl rfl 26 Tryz.zeroCells26 HR2.out HSY.out HZY.out (J9 _ _ _ _) ?_);refine aX (v:=.tuple #[.agg (JK y.t (.slice y.A y.zs.length y.c)),I 0]) (Ko rfl _ _ w.heap.size _ (JK y.t (.slice y.A y.zs.length y.c)) (0,0) _ rfl (aQ _ _ _ _ _ _ HR2.out) az rfl HSY.out _ rfl) rfl ?_;refine⟨eH HB2.out (ay _) _,(i:Int),true,HP.out,.inr (.inr ⟨rfl,i,x,y,rfl,HX.out,HY.out.1,HY.out.2.1,rfl,?_⟩)⟩;exact(HY.out.2.2.Kr (by simp[World.setRow]) fun k h1 _=>cZ _ _ k _ (by omega)).lower (by omega)
end Go.Proofs.YtbaehbbonkljpaaGreatDoor
