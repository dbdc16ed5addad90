/- The texts Lc, Kj, Ld, Lea, in this order. -/
import Derived.Test.YtbaehbbonkljpaaGreatR00
import Derived.Test.YtbaehbbonkljpaaGreatR01
import Derived.Test.YtbaehbbonkljpaaGreatR05
import Derived.Test.YtbaehbbonkljpaaGreatR09
import Derived.Test.YtbaehbbonkljpaaGreatR15
import Derived.Test.YtbaehbbonkljpaaGreatR18
import Derived.Test.YtbaehbbonkljpaaGreatR26
import Derived.Test.YtbaehbbonkljpaaGreatR28
import Derived.Test.YtbaehbbonkljpaaGreatR34
set_option maxRecDepth 10000
set_option maxHeartbeats 8000000
namespace Go.Proofs.YtbaehbbonkljpaaGreat
open Go Go.RowKit
def uK (cs:Array Value) (o:Nat):List Value→Array Value
 | []=>cs
 |v::r=>uK (cs.setIfInBounds o v) (o+1) r
theorem Ep:∀(vs pre old:List Value),old.length=vs.length→uK (pre++old).toArray pre.length vs=(pre++vs).toArray
 | [],pre,old,h=>by
  have:old= []:=List.eq_nil_of_length_eq_zero h;simp [uK,this]
 |v::r,pre,old,h=>by
  obtain ⟨x,old',rfl⟩:∃x old',old=x::old':=by
   cases old with
   |nil=>simp at h
   |cons x o=>exact ⟨x,o,rfl⟩
  have h2:=Ep r (pre++ [v]) old' (by simpa using h);have e:(pre++x::old').toArray.setIfInBounds pre.length v=((pre++ [v])++old').toArray:=by simp
  unfold uK;rw [e];simpa using h2
theorem pG:∀(vs:List Value) (w:World) (b o:Nat) (cs:Array Value) (t:TypeId),w.heap[b]? =some (.cells cs t (0,0))→(w.setCells b o vs).heap[b]? =some (.cells (uK cs o vs) t (0,0))
 | [],_,_,_,_,_,h=>h
 |v::r,w,b,o,_,t,h=>pG r _ b (o+1) _ t (heap_setCell_same w b o _ _ v h)
theorem jf:∀(vs:List Value) (w:World) (b o k:Nat),k≠b→(w.setCells b o vs).heap[k]? =w.heap[k]?
 | [],_,_,_,_,_=>rfl
 |v::r,w,b,o,k,h=>(jf r _ b (o+1) k h).trans (heap_setCell_other w _ k v h)
theorem lC:∀(vs:List Value) (w:World) (b o:Nat),(w.setCells b o vs).heap.size=w.heap.size
 | [],_,_,_=>rfl
 |v::r,w,b,o=>(lC r _ b (o+1)).trans (by simp [World.setCell])
theorem kD {B b:Nat} {w0:World} (h:B≤b):∀(vs:List Value) (w:World) (o:Nat),Below B w0 w→Below B w0 (w.setCells b o vs)
 | [],_,_,hb=>hb
 |v::r,_,o,hb=>kD h r _ (o+1) (hb.setCell (p:=⟨b,o,none⟩) h v)
theorem Om (t:Tb) (v:Value):iW t v=([I t.bV,I t.version,I t.aO,v]++ay t.prev)++ay t.dQ:=by simp [iW]
theorem MI (t:Tb) (v:Value) (m:List UInt8) (hp:t.prev.length=32) (h1:t.dQ.length=32) (h2:m.length=32):uK (ah t v) 36 (ay m)=ah {t with dQ:=m} v:=by
 have h:=Ep (ay m) ([I t.bV,I t.version,I t.aO,v]++ay t.prev) (ay t.dQ) (by simp [ay,h1,h2]);have hl:([I t.bV,I t.version,I t.aO,v]++ay t.prev).length=36:=by simp [ay,hp]
 rw [hl] at h;unfold ah;rw [Om,Om];exact h
theorem pY (m:List UInt8) (h:m.length=32):(Tryz.prog.info? 24).map (·.size)=some (cD m).size:=by rw [kY,h];kernel_rfl
theorem Je (t:Tb) (h:Gy t) (hp:t.prev.length=32):0<(pJ t).length∧(pJ t).length≤400:=by
 have e:=NI rQ t.aG 103 t.aG.length (fun e he=>Yh e (h.aG e he).made (by obtain ⟨j,hj⟩:=List.getElem?_of_mem he;rw [h.names j e hj,Cb];omega));rw [List.take_length] at e;have h2:=h.num;unfold pJ;simp only [bH,List.length_cons,List.length_nil,aC,hp];omega
structure SlS (w:World) (ks ts:Array Value) (W:World):Prop where
 k:AV w.heap.size 24 ks W
 t:AV (w.heap.size+1) 39 ts W
 r:AV (w.heap.size+2) 39 (ah bz (.slice none 0 0)) W
 lo:Below w.heap.size w W
theorem SlS.start (w:World) (ks ts:Array Value):SlS w ks ts (((w.alloc (.cells ks 24)).alloc (.cells ts 39)).alloc (.cells (ah bz (.slice none 0 0)) 39)):=by
 obtain ⟨W,hW⟩:∃W,(w.alloc (.cells ks 24)).alloc (.cells ts 39)=W:=⟨_,rfl⟩;have hs:W.heap.size=w.heap.size+2:=by rw [←hW];simp
 have hb:Below w.heap.size w W:=by rw [←hW];exact ai (ag w _) (ag _ _)
 have h1:AV w.heap.size 24 ks W:=by rw [←hW];exact ⟨heap_alloc2_old w _ _⟩
 have h2:AV (w.heap.size+1) 39 ts W:=by rw [←hW];exact ⟨heap_alloc2_new w _ _⟩
 have h3:=AV.new W (ah bz (.slice none 0 0)) 39;rw [hs] at h3;rw [hW];exact ⟨h1.below (ag W _),h2.below (ag W _),h3,ai hb (ag W _)⟩
theorem SlS.grow {w W W':World} {ks ts:Array Value} (h:SlS w ks ts W) (hb:Below W.heap.size W W'):SlS w ks ts W':=⟨h.k.below hb,h.t.below hb,h.r.below hb,ai h.lo hb⟩
theorem AV.setQ {b:Nat} {t:TypeId} {cs:Array Value} {W:World} (h:AV b t cs W) (o:Nat) (vs:List Value):AV b t (uK cs o vs) (W.setCells b o vs):=⟨pG vs W b o cs t h.var⟩
theorem AV.WY {b g:Nat} {t:TypeId} {cs:Array Value} {W:World} (h:AV b t cs W) (hn:b≠g) (o:Nat) (vs:List Value):AV b t cs (W.setCells g o vs):=⟨(jf vs W g o b hn).trans h.var⟩
theorem AV.there {b:Nat} {t:TypeId} {cs:Array Value} {W:World} (h:AV b t cs W) (o n:Nat) (hn:o+n≤cs.size):W.there b o n:=fun j hj=>⟨by rw [h.cell (o+j),Array.getElem?_eq_getElem (by omega)];rfl,h.eY _⟩
def SealP (w:World) (t:Tb) (vz:Value) (e:Ending) (w':World):Prop:=
 ∃d:List UInt8,d.length=32∧e= .returned (.tuple #[.agg (ah {t with dQ:=d} vz), .int .i64 0])∧Below w.heap.size w w'
theorem Bz (key:List UInt8) (hk:key.length=32) (x:fH) (w:World) (hx:jB w w.heap.size x) (h:Gy x.t):
  Calls Tryz.prog 19 #[.agg (cD key), .agg (ah x.t (.slice x.A x.zs.length x.c))] w (SealP w x.t (.slice x.A x.zs.length x.c)):=by
 obtain ⟨t,A,c,zs⟩:=x;simp only at h ⊢;have wE:t.prev.length=32:=hx.prev;have Fj:t.dQ.length=32:=hx.dQ;obtain ⟨n,hn⟩:∃n,zs.length=n:=⟨_,rfl⟩;rw [hn];have qA:=ae hk;have CG:=ae wE;have zt:=ae (Je t h wE);have DF:Hid (∀W,Below w.heap.size w W→Calls Tryz.prog 7 #[.agg (ah t (.slice A n c))] W (OB W t)):=ae (fun W hb=>by rw [←hn];exact wH ⟨t,A,c,zs⟩ W ((hx.keep hb).more hb.size) h);have fG:Hid (∀v,(Tryz.prog.info? 39).map (·.size)=some (ah t v).size):=ae fun v=>bG t v wE Fj;have H0:=ae (SlS.start w (cD key) (ah t (.slice A n c)));have HTS:Hid ((ah t (.slice A n c)).size=68):=ae (bF t _ wE Fj);have HPUT:Hid (∀d:List UInt8,d.length=32→uK (ah t (.slice A n c)) 36 (ay d)=ah {t with dQ:=d} (.slice A n c)):=ae (fun d hd=>MI t _ d wE Fj hd);clear hx h hk wE Fj hn;go_enter Tryz.func19,Tryz.ntmps19;go_upto_region 1 with (first
  |((with_reducible refine bf 39 ?_);go_must (refine aI rfl _ rfl (ah bz (.slice none 0 0)) eF ?_)))
 rw [show w.heap.size+1+1=w.heap.size+2 from rfl];generalize ((w.alloc (.cells (cD key) 24)).alloc (.cells (ah t (.slice A n c)) 39)).alloc (.cells (ah bz (.slice none 0 0)) 39)=W0 at H0 ⊢;go_wp2_with ((with_reducible refine gz 39 ?_);go_must (refine bu rfl _ _ rfl (w.heap.size+1) rfl (ah t (.slice A n c)) H0.out.t.kz _ Tryz.underlying39 rfl (fG.out _) ?_));refine (DF.out W0 H0.out.lo).mono ?_;rintro e w1 ⟨A1,n1,c1,l1,rfl,o1,b1⟩;have H1:=ae (H0.out.grow b1);have OC:=ae l1;have mZ:=ae (az.dO o1);have hn0:0<n1:=by rw [←l1];exact zt.out.1
 have hn1:n1≤400:=by rw [←l1];exact zt.out.2
 clear l1 o1 b1 H0 DF;go_wp2_with ((with_reducible refine gz 24 ?_);go_must (refine bu rfl _ _ rfl w.heap.size rfl (cD key) H1.out.k.kz _ Tryz.underlying24 rfl (pY _ qA.out) ?_));refine (Xn key qA.out n1 c1 A1 (pJ t) w1 OC.out hn0 (by omega) mZ.out).mono ?_;rintro e w2 ⟨d,hd,rfl,hb2⟩;have H2:=ae (H1.out.grow hb2);have HD:=ae hd;have VR:=ae (pY d hd);have HTH:Hid (w2.there (w.heap.size+1) 36 (cD d).size):=ae (H2.out.t.there 36 _ (by rw [kY,hd,HTS.out];omega));have H3:Hid (SlS w (cD key) (ah {t with dQ:=d} (.slice A n c)) (w2.setCells (w.heap.size+1) 36 (cD d).toList)):=ae (by
  have h:=H2.out.t.setQ 36 (cD d).toList;rw [show uK _ 36 (cD d).toList=_ from HPUT.out d hd] at h;exact ⟨H2.out.k.WY (by omega) _ _,h,H2.out.r.WY (by omega) _ _,kD (Nat.le_succ _) _ _ _ H2.out.lo⟩)
 have qx:Hid ((Tryz.prog.info? 39).map (·.size)=some (ah {t with dQ:=d} (.slice A n c)).size):=ae (bG {t with dQ:=d} _ CG.out hd);have HE3:Hid ((ah bz (.slice none 0 0)).size=(ah {t with dQ:=d} (.slice A n c)).size):=ae ((bF bz _ rfl rfl).trans (bF {t with dQ:=d} _ CG.out hd).symm);clear hb2 hd H1 mZ;obtain ⟨W3,hW3⟩:∃W,w2.setCells (w.heap.size+1) 36 (cD d).toList=W:=⟨_,rfl⟩;rw [hW3] at H3;have HW3:=ae hW3;clear hW3;go_wp2_with (first
  |((with_reducible refine dS 24 ?_);go_must ((refine wpList_store_mid rfl _ _ _ rfl (w.heap.size+1) 36 (cD d) rfl rfl HTH.out VR.out (uX _) ?_);rw [HW3.out]))
  |((with_reducible refine gz 39 ?_);go_must (refine bu rfl _ _ rfl (w.heap.size+1) rfl (ah {t with dQ:=d} (.slice A n c)) H3.out.t.kz _ Tryz.underlying39 rfl qx.out ?_))
  |((with_reducible refine dS 39 ?_);go_must (refine wpList_store_row rfl _ _ _ rfl (w.heap.size+2) (ah {t with dQ:=d} (.slice A n c)) rfl rfl 39 (ah bz (.slice none 0 0)) H3.out.r.var qx.out HE3.out (aW _ _ _ _) ?_)))
 refine bodyPost_ret (v:= .tuple #[.agg (ah {t with dQ:=d} (.slice A n c)),I 0]) (aZ rfl _ _ (w.heap.size+2) _ (ah {t with dQ:=d} (.slice A n c)) (0,0) _ rfl (setRow_heap _ _ _ _ _ _ H3.out.r.var) Tryz.underlying39 rfl qx.out _ rfl) rfl ?_;exact ⟨d,HD.out,rfl,aB H3.out.lo (Nat.le_succ_of_le (Nat.le_succ _)) _⟩
theorem Tu (x:fH) (w:World) (hx:jB w w.heap.size x) (h:Gy x.t):
  Calls Tryz.prog 42 #[.agg (ah x.t (.slice x.A x.zs.length x.c))] w (DgP w):=by
 obtain ⟨t,A,c,zs⟩:=x;simp only at h ⊢;have wE:t.prev.length=32:=hx.prev;have Fj:t.dQ.length=32:=hx.dQ;obtain ⟨n,hn⟩:∃n,zs.length=n:=⟨_,rfl⟩;rw [hn];have CG:=ae wE;have yP:=ae Fj;have zt:=ae (Je t h wE);have DF:Hid (∀W,Below w.heap.size w W→Calls Tryz.prog 7 #[.agg (ah t (.slice A n c))] W (OB W t)):=ae (fun W hb=>by rw [←hn];exact wH ⟨t,A,c,zs⟩ W ((hx.keep hb).more hb.size) h);have fG:Hid (∀v,(Tryz.prog.info? 39).map (·.size)=some (ah t v).size):=ae fun v=>bG t v wE Fj;have H0:=ae (V2.start w 39 (ah t (.slice A n c)) 24 (cD d32));have VY:Hid ((Tryz.prog.info? 24).map (·.size)=some (ay t.dQ).length):=ae (by simp only [ay,List.length_map,Fj];kernel_rfl);clear hx h wE Fj hn;go_enter Tryz.func42,Tryz.ntmps42;go_upto_region 1 with (first
  |((with_reducible refine bf 24 ?_);go_must (refine aI rfl _ rfl (cD d32) sJ ?_)))
 generalize (w.alloc (.cells (ah t (.slice A n c)) 39)).alloc (.cells (cD d32) 24)=W0 at H0 ⊢;go_wp2_with ((with_reducible refine gz 39 ?_);go_must (refine bu rfl _ _ rfl w.heap.size rfl (ah t (.slice A n c)) H0.out.s.kz _ Tryz.underlying39 rfl (fG.out _) ?_));refine (DF.out W0 H0.out.lo).mono ?_;rintro e w1 ⟨A1,n1,c1,l1,rfl,o1,b1⟩;have H1:=ae (H0.out.grow b1);have OC:=ae l1;have G9:=ae o1;have hw0:=H0.out.r.lt;have hs1:W0.heap.size≤w1.heap.size:=b1.size;have hn0:0<n1:=by rw [←l1];exact zt.out.1
 have hn1:n1≤400:=by rw [←l1];exact zt.out.2
 have Vm:=ae (MH t (.slice A n c) (Row.lU H1.out.s.var) CG.out);clear l1 o1 b1 H0 DF;go_wp2_with ((with_reducible refine gz 24 ?_);go_must (refine dw rfl _ _ rfl w.heap.size 36 rfl (ay t.dQ) Vm.out _ Tryz.underlying24 rfl VY.out ?_));refine (xA t.dQ w1 yP.out).mono ?_;rintro e w2 ⟨A2,n2,c2,l2,rfl,o2,k2⟩;have hn2:n2=32:=by rw [←l2,yP.out]
 subst hn2;have H2:=ae (H1.out.grow k2.je);have rF:=ae (G9.out.below k2.je);have HC2:=ae (az.dO o2);have hs2:W0.heap.size≤w2.heap.size:=Nat.le_trans hs1 k2.size;clear o2 k2 l2 H1 G9 Vm;go_wp2_with (at_builtin;go_must (refine mg rfl _ _ rfl W0.heap.size n1 c1 A1 (pJ t) rfl rF.out _ A2 32 c2 t.dQ rfl yP.out (by omega) HC2.out (by omega) hs2 ?_));intro A3 c3 w3 o3 k3;have H3:=ae (H2.out.NL (k3.wG rF.out.base hs2) hw0);have qC:=ae o3;clear o3 k3 H2 rF HC2;go_wp2_with fail;refine (Uw (n1+32) c3 A3 (pJ t++t.dQ) w3 (by rw [bH,OC.out,yP.out]) (by omega) (by omega) (az.dO qC.out)).mono ?_;rintro e w4 ⟨d,hd,rfl,hb4⟩;have H4:=ae (H3.out.grow hb4);have HD:=ae hd;have Z5:Hid ((cD d32).size=(cD d).size):=ae (by rw [kY,kY,hd,zA]);clear H3 qC hb4 hd;go_wp2_with ((with_reducible refine dS 24 ?_);go_must (refine wpList_store_row rfl _ _ _ rfl (w.heap.size+1) (cD d) rfl rfl 24 (cD d32) H4.out.r.var (pY _ HD.out) Z5.out (uX _) ?_));refine bodyPost_ret (v:= .agg (cD d)) (results_cell_row rfl _ _ (w.heap.size+1) _ (cD d) (0,0) _ rfl (setRow_heap _ _ _ _ _ _ H4.out.r.var) Tryz.underlying24 rfl (pY _ HD.out)) rfl ?_;exact ⟨d,HD.out,rfl,aB H4.out.lo (Nat.le_succ _) _⟩
def rJ (lo:Nat) (A:Option Addr) (cs:List Value):Prop:=cs.length=0∨∃b off,A=some ⟨b,off,none⟩∧lo≤b
theorem LZ.low {lo lo' B g:Nat} {w:World} {A:Option Addr} {cs:List Value} (h:LZ lo B g w A cs) (hlo:lo'≤lo):rJ lo' A cs:=by
 rcases h with h|⟨b,off,h1,h0,_⟩
 ·exact .inl h
 ·exact .inr ⟨b,off,h1,Nat.le_trans hlo h0⟩
def Ht (lo:Nat) (s:Zs) (z:Zn):Prop:=rJ lo s.A (z.cal.aj.map I)∧rJ lo s.B (z.cal.rules.flatMap Lr.cells)∧rJ lo s.C (z.trans.flatMap Tr.cells)∧rJ lo s.D (z.ax.flatMap Yr.cells)
def Y7 (w:World) (z:Zn) (e:Ending) (w':World):Prop:=∃s,e= .returned (.agg (au z s))∧jy w' w'.heap.size s z∧Ht w.heap.size s z∧Below w.heap.size w w'
structure CV where
 x:DW
 G:Option Addr
 O:Option Addr
 gc:Nat
 oc:Nat
def CV.cells (v:CV):List Value:=(lu v.x v.G v.O v.gc v.oc).toList
structure EN (w:World) (B:Nat) (v:CV):Prop where
 gl:v.x.dU.length≤9223372036854775807
 ol:v.x.iy.length≤9223372036854775807
 g:az w B v.G (v.x.dU.map Extern.Stop.cell)
 o:az w B v.O (v.x.iy.map Extern.Stop.cell)
theorem EN.keep {w w':World} {B:Nat} {v:CV} (h:EN w B v) (hb:Below B w w'):EN w' B v:=⟨h.gl,h.ol,h.g.keep hb,h.o.keep hb⟩
theorem EN.more {w:World} {B B':Nat} {v:CV} (h:EN w B v) (hB:B≤B'):EN w B' v:=⟨h.gl,h.ol,h.g.more hB,h.o.more hB⟩
structure Hl where
 A:Option Addr
 c:Nat
 vs:List CV
 wd:UInt8
def Hl.cells (x:Hl):Array Value:= #[.slice x.A x.vs.length x.c,Extern.Stop.cell x.wd]
structure CS (w:World) (B:Nat) (x:Hl):Prop where
 len:x.vs.length≤9223372036854775807
 row:az w B x.A (x.vs.flatMap CV.cells)
 each:∀v∈x.vs,EN w B v
theorem CS.keep {w w':World} {B:Nat} {x:Hl} (h:CS w B x) (hb:Below B w w'):CS w' B x:=⟨h.len,h.row.keep hb,fun v hv=>(h.each v hv).keep hb⟩
theorem CS.more {w:World} {B B':Nat} {x:Hl} (h:CS w B x) (hB:B≤B'):CS w B' x:=⟨h.len,h.row.more hB,fun v hv=>(h.each v hv).more hB⟩
theorem LV.of {lo lo':Nat} {v:Value} {W:World} {A:Option Addr} {cs:List Value} (h:az W W.heap.size A cs) (h2:rJ lo' A cs) (hlo:lo≤lo') (hv:∀b,lo'≤b→some b≠v.ownBlock):LV lo v W A cs:=by
 rcases h with h|⟨b,off,e,hb,hc⟩
 ·exact .inl h
 ·rcases h2 with h2|⟨b2,wJ,e2,hl⟩
  ·exact .inl h2
  ·rw [e] at e2;injection e2 with e2;injection e2 with e3 e4;subst e3;exact .inr ⟨b,off,e,by omega,hb,hv b hl,hc⟩
theorem gJ.of {lo lo':Nat} {v:Value} {W:World} {s:Zs} {z:Zn} (h:jy W W.heap.size s z) (h2:Ht lo' s z) (hlo:lo≤lo') (hv:∀b,lo'≤b→some b≠v.ownBlock):gJ lo v W s z:=
 ⟨.of h.aj h2.1 hlo hv, .of h.rules h2.2.1 hlo hv, .of h.trans h2.2.2.1 hlo hv, .of h.ax h2.2.2.2 hlo hv⟩
structure nT (w:World) (ib:Array Value) (T:Tb) (k:Nat) (Az:Option Addr) (cz:Nat) (ys:List dB) (W:World):Prop where
 it:AV w.heap.size 66 ib W
 r:AV (w.heap.size+1) 39 (ah bz (.slice none 0 0)) W
 t:AV (w.heap.size+2) 39 (ah T (.slice Az k cz)) W
 lo:Below w.heap.size w W
 own:W.ownsRow (w.heap.size+3) 70 9 (.slice Az k cz) k (aV ys)
 mem:∀y∈ys,gJ (w.heap.size+3) (.slice Az k cz) W y.s y.e.z
section
variable {w W W':World} {ib:Array Value} {T:Tb} {k cz:Nat} {Az:Option Addr} {ys:List dB}
theorem nT.grow (h:nT w ib T k Az cz ys W) (hb:Below W.heap.size W W'):nT w ib T k Az cz ys W':=
 ⟨h.it.below hb,h.r.below hb,h.t.below hb,ai h.lo hb,own_below h.own hb,fun y hy=>(h.mem y hy).keep hb.size fun b _ h2 h3=>⟨hb.block b h2,h3⟩⟩
theorem nT.drew (h:nT w ib T k Az cz ys W):nT w ib T k Az cz ys W.drew:=h.grow ((Below.refl _ W).drew)
theorem nT.lt (h:nT w ib T k Az cz ys W):w.heap.size+2<W.heap.size:=h.t.lt
theorem nT.qh (h:nT w ib T k Az cz ys W):∀b,W.heap.size≤b→some b≠(Value.slice Az k cz).ownBlock:=fun b hb e=>by
 have:=World.ownsRow.lt h.own b e.symm;omega
theorem nT.add {Wb w6:World} {gg cap:Nat} {y:dB} (h:nT w ib T k Az cz ys W) (hy:gJ (w.heap.size+3) (.slice Az k cz) W y.s y.e.z) (Fb:Wb=W.alloc (.cells y.cells 70))
  (hown:w6.ownsRow (w.heap.size+3) 70 9 (.slice (some ⟨gg,0,none⟩) (k+1) cap) (k+1) (aV ys++y.cells.toList)) (hg:Wb.grownBy w6 (Value.slice Az k cz).ownBlock) (hat:(Value.slice Az k cz).ownBlock=some gg∨gg=Wb.heap.size):
  nT w ib T (k+1) (some ⟨gg,0,none⟩) cap (ys++ [y]) (w6.setCell ⟨w.heap.size+2,3,none⟩ (.slice (some ⟨gg,0,none⟩) (k+1) cap)):=by
 have hsb:Wb.heap.size=W.heap.size+1:=by rw [Fb];simp
 have hlt:=h.lt;have hs6:W.heap.size≤w6.heap.size:=by have:=hg.size;omega
 have hbl:∀b,b<W.heap.size→some b≠(Value.slice Az k cz).ownBlock→w6.heap[b]? =W.heap[b]? :=fun b hb hn=>
  (hg.block b (by omega) hn).trans (by rw [Fb];exact Below.heap_alloc W _ b hb)
 have hlow:∀b,b<w.heap.size+3→some b≠(Value.slice Az k cz).ownBlock:=dZ h.own;have hgg:=iV hown;have hset:∀b,b≠w.heap.size+2→(w6.setCell ⟨w.heap.size+2,3,none⟩ (.slice (some ⟨gg,0,none⟩) (k+1) cap)).heap[b]? =w6.heap[b]? :=fun b hb=>heap_setCell_other w6 ⟨w.heap.size+2,3,none⟩ b _ hb;have hsz:(w6.setCell ⟨w.heap.size+2,3,none⟩ (.slice (some ⟨gg,0,none⟩) (k+1) cap)).heap.size=w6.heap.size:=by simp [World.setCell]
 have hmm:∀b,w.heap.size+3≤b→b<W.heap.size→some b≠(Value.slice Az k cz).ownBlock→(w6.setCell ⟨w.heap.size+2,3,none⟩ (.slice (some ⟨gg,0,none⟩) (k+1) cap)).heap[b]? =W.heap[b]? ∧some b≠(Value.slice (some ⟨gg,0,none⟩) (k+1) cap).ownBlock:=fun b h1 h2 h3=>by
  refine ⟨(hset b (by omega)).trans (hbl b h2 h3),fun e=>?_⟩;have e2:b=gg:=by simpa [Value.ownBlock] using e
  rcases hat with e3|e3
  ·exact h3 (by rw [e2];exact e3.symm)
  ·omega
 refine ⟨⟨(hset _ (by omega)).trans ((hbl _ (by omega) (hlow _ (by omega))).trans h.it.var)⟩,⟨(hset _ (by omega)).trans ((hbl _ (by omega) (hlow _ (by omega))).trans h.r.var)⟩,?_,?_,?_,?_⟩
 ·have h1:AV (w.heap.size+2) 39 (ah T (.slice Az k cz)) w6:=⟨(hbl _ (by omega) (hlow _ (by omega))).trans h.t.var⟩;have h2:=h1.put 3 (.slice (some ⟨gg,0,none⟩) (k+1) cap);rw [oQ] at h2;exact h2
 ·have h1:Below w.heap.size w Wb:=by rw [Fb];exact ai h.lo (ag W _)
  have hob:Wb.ownsRow (w.heap.size+3) 70 9 (.slice Az k cz) k (aV ys):=by rw [Fb];exact own_below h.own (ag W _)
  exact (dm h1 (aK hob (by omega)) (by omega) hg).setCell (p:=⟨w.heap.size+2,3,none⟩) (show w.heap.size≤w.heap.size+2 by omega) _
 ·have h1:=bY (p:=⟨w.heap.size+2,3,none⟩) (u:= .slice (some ⟨gg,0,none⟩) (k+1) cap) hown (fun e=>absurd (show w.heap.size+2=gg by simpa [Value.ownBlock] using e) (by omega));have e:aV (ys++ [y])=aV ys++y.cells.toList:=by simp [aV]
  rw [e];exact h1
 ·intro y' hy';rcases List.mem_append.1 hy' with h1|h1
  ·exact (h.mem y' h1).keep (by rw [hsz];exact hs6) hmm
  ·obtain rfl:=List.mem_singleton.1 h1;exact hy.keep (by rw [hsz];exact hs6) hmm
theorem nT.tb (h:nT w ib T k Az cz ys W) (hp:T.prev.length=32) (hm:T.dQ.length=32):jB W W.heap.size ⟨{T with aG:=ys.map (·.e)},Az,cz,ys⟩:=
 ⟨rfl,hp,hm,⟨az.dO h.own,fun y hy=>(h.mem y hy).at⟩⟩
end
theorem jC (W:World) (bb:Nat) (x:Int) (h:W.heap[bb]? =some (.cells #[.int .u8 x] 5 (0,0))):(convert 22 9 (.slice (some ⟨bb,0,none⟩) 1 1)).run Tryz.prog W= .ok (.string ⟨#[UInt8.ofNat x.toNat]⟩) W:=by
 have e:(⟨#[UInt8.ofNat x.toNat]⟩:ByteArray)=strOfNums [x]:=rfl;rw [e];refine run_convert_bytes_arg _ _ _ Tryz.underlying22 Tryz.underlying5 bb 0 1 1 [x] rfl (fun i hi=>?_) _ Tryz.underlying9;have:i=0:=by omega
 subst this;exact cell_of_row W bb 0 _ _ _ h
theorem iK (k:Nat):(⟨#[122]⟩:ByteArray)++⟨#[UInt8.ofNat (97+(k:Int)).toNat]⟩=aS k:=by
 have e:(97+(k:Int)).toNat=97+k:=by omega
 rw [e];rfl
def wI (vs:List CV):List Ze:=(vs.take 3).mapIdx fun i v=>⟨aS i,jq v.x⟩
theorem LD (vs:List CV) (k:Nat) (v:CV) (hv:vs[k]? =some v):(vs.take (k+1)).mapIdx (fun i v=>(⟨aS i,jq v.x⟩:Ze))=(vs.take k).mapIdx (fun i v=>(⟨aS i,jq v.x⟩:Ze))++ [⟨aS k,jq v.x⟩]:=by
 have hk:=(iT.1 hv).1;have e:vs.take (k+1)=vs.take k++ [v]:=by
  rw [List.take_add_one,hv];rfl
 rw [e,List.mapIdx_append];simp [List.length_take,Nat.min_eq_left (Nat.le_of_lt hk)]
def eG (w:World) (zb zo m ic k:Nat) (v:CV) (W:World):Prop:=W.cell? ⟨w.heap.size,0,none⟩=some (.slice (some ⟨zb,zo,none⟩) m ic)∧W.rangeAt zb (zo+k*14) v.cells
theorem eG.of {w W:World} {zb zo m ic k:Nat} {v:CV} {x:Value} (hit:AV w.heap.size 66 #[.slice (some ⟨zb,zo,none⟩) m ic,x] W) (hlo:Below w.heap.size w W) (hr:w.rangeAt zb (zo+k*14) v.cells) (hb:zb<w.heap.size):eG w zb zo m ic k v W:=
 ⟨hit.cell 0,aU hr hlo hb⟩
theorem gJ.grow {lo:Nat} {v:Value} {W W':World} {s:Zs} {z:Zn} (h:gJ lo v W s z) (hb:Below W.heap.size W W'):gJ lo v W' s z:=h.keep hb.size fun b _ h2 h3=>⟨hb.block b h2,h3⟩
theorem nT.start (w:World) (ib:Array Value) (T:Tb) (z:Array Value):nT w ib T 0 none 0 [] ((((w.alloc (.cells ib 66)).alloc (.cells (ah bz (.slice none 0 0)) 39)).alloc (.cells z 39)).setRow (w.heap.size+2) (ah T (.slice none 0 0))):=by
 obtain ⟨W,hW⟩:∃W,(w.alloc (.cells ib 66)).alloc (.cells (ah bz (.slice none 0 0)) 39)=W:=⟨_,rfl⟩;have hs:W.heap.size=w.heap.size+2:=by rw [←hW];simp
 have hb:Below w.heap.size w W:=by rw [←hW];exact ai (ag w _) (ag _ _)
 have h1:AV w.heap.size 66 ib W:=by rw [←hW];exact ⟨heap_alloc2_old w _ _⟩
 have h2:AV (w.heap.size+1) 39 (ah bz (.slice none 0 0)) W:=by rw [←hW];exact ⟨heap_alloc2_new w _ _⟩
 have h3:=AV.new W z 39;rw [hs] at h3;rw [hW];have hb2:=ag W (.cells z 39);exact ⟨(h1.below hb2).qO (by omega) _,(h2.below hb2).qO (by omega) _,h3.oO _,aB (ai hb hb2) (by omega) _,World.ownsRow_nil _ _ _ _,fun _ h=>nomatch h⟩
theorem nT.mid {w W w6:World} {ib:Array Value} {T:Tb} {k cz:Nat} {Az:Option Addr} {ys:List dB} (h:nT w ib T k Az cz ys W) (o:Obj) (hg:(W.alloc o).grownBy w6 (Value.slice Az k cz).ownBlock):AV w.heap.size 66 ib w6∧AV (w.heap.size+2) 39 (ah T (.slice Az k cz)) w6∧Below w.heap.size w w6:=by
 have hlt:=h.lt;have hbl:∀b,b<W.heap.size→some b≠(Value.slice Az k cz).ownBlock→w6.heap[b]? =W.heap[b]? :=fun b hb hn=>
  (hg.block b (by simp;omega) hn).trans (Below.heap_alloc W _ b hb)
 have hlow:∀b,b<w.heap.size+3→some b≠(Value.slice Az k cz).ownBlock:=dZ h.own;exact ⟨⟨(hbl _ (by omega) (hlow _ (by omega))).trans h.it.var⟩,⟨(hbl _ (by omega) (hlow _ (by omega))).trans h.t.var⟩,dm (ai h.lo (ag W o)) (aK (own_below h.own (ag W o)) (by omega)) (by simp;omega) hg⟩
theorem wK {w w':World} {lo e size n:Nat} {v:Value} {xs:List Value} (h:w.ownsRow lo e size v n xs) (_hs:w.heap.size≤w'.heap.size) (hb:∀b,lo≤b→b<w.heap.size→w'.heap[b]? =w.heap[b]?):w'.ownsRow lo e size v n xs:=by
 refine ⟨h.1,?_⟩;rcases h.2 with h2|⟨g,cap,cur,h1,h2,h3,h4⟩
 ·exact .inl h2
 ·exact .inr ⟨g,cap,cur,h1,h2,(hb g h2 (bK.1 h3).1).trans h3,h4⟩
theorem IU:∀(vs pre old suf:List Value),old.length=vs.length→uK (pre++old++suf).toArray pre.length vs=(pre++vs++suf).toArray
 | [],pre,old,suf,h=>by
  have:old= []:=List.eq_nil_of_length_eq_zero h;simp [uK,this]
 |v::r,pre,old,suf,h=>by
  obtain ⟨x,old',rfl⟩:∃x old',old=x::old':=by
   cases old with
   |nil=>simp at h
   |cons x o=>exact ⟨x,o,rfl⟩
  have h2:=IU r (pre++ [v]) old' suf (by simpa using h);have e:(pre++x::old'++suf).toArray.setIfInBounds pre.length v=((pre++ [v])++old'++suf).toArray:=by simp
  unfold uK;rw [e];simpa using h2
theorem Jg (t:Tb) (v:Value) (m:List UInt8) (h1:t.prev.length=32) (h2:m.length=32):uK (ah t v) 4 (ay m)=ah {t with prev:=m} v:=by
 have h:=IU (ay m) [I t.bV,I t.version,I t.aO,v] (ay t.prev) (ay t.dQ) (by simp [ay,h1,h2]);have e1:ah t v=([I t.bV,I t.version,I t.aO,v]++ay t.prev++ay t.dQ).toArray:=by simp [ah,iW]
 have e2:ah {t with prev:=m} v=([I t.bV,I t.version,I t.aO,v]++ay m++ay t.dQ).toArray:=by simp [ah,iW]
 rw [e1,e2];exact h
theorem nT.prev {w W:World} {ib:Array Value} {T:Tb} {k cz:Nat} {Az:Option Addr} {ys:List dB} (h:nT w ib T k Az cz ys W) (hp:T.prev.length=32) (d:List UInt8) (hd:d.length=32):
  nT w ib {T with prev:=d} k Az cz ys (W.setCells (w.heap.size+2) 4 (cD d).toList):=by
 have ho:∀b,b≠w.heap.size+2→(W.setCells (w.heap.size+2) 4 (cD d).toList).heap[b]? =W.heap[b]? :=fun b hb=>jf _ _ _ _ b hb;have hs:(W.setCells (w.heap.size+2) 4 (cD d).toList).heap.size=W.heap.size:=lC _ _ _ _;have ht:=h.t.setQ 4 (cD d).toList;rw [show uK _ 4 (cD d).toList=_ from Jg T _ d hp hd] at ht;refine ⟨h.it.WY (by omega) _ _,h.r.WY (by omega) _ _,ht,kD (by omega) _ _ _ h.lo,?_,fun y hy=>(h.mem y hy).keep (by rw [hs];omega) fun b h1 h2 h3=>⟨ho b (by omega),h3⟩⟩;exact wK h.own (by rw [hs];omega) fun b h1 _=>ho b (by omega)
theorem nT.fin {w W:World} {ib:Array Value} {T:Tb} {k cz:Nat} {Az:Option Addr} {ys:List dB} (h:nT w ib T k Az cz ys W) (hp:T.prev.length=32) (hm:T.dQ.length=32) (cs:Array Value):
  jB (W.setRow (w.heap.size+1) cs) (W.setRow (w.heap.size+1) cs).heap.size ⟨{T with aG:=ys.map (·.e)},Az,cz,ys⟩∧Below w.heap.size w (W.setRow (w.heap.size+1) cs):=by
 have ho:∀b,b≠w.heap.size+1→(W.setRow (w.heap.size+1) cs).heap[b]? =W.heap[b]? :=fun b hb=>setRow_other _ _ b _ hb;have hs:(W.setRow (w.heap.size+1) cs).heap.size=W.heap.size:=by simp [World.setRow]
 have h1:nT w ib T k Az cz ys W:=h;refine ⟨⟨rfl,hp,hm,⟨az.dO (wK h.own (by rw [hs];omega) fun b h1 _=>ho b (by omega)),fun y hy=>((h.mem y hy).keep (v':= .slice Az k cz) (by rw [hs];omega) fun b h1 h2 h3=>⟨ho b (by omega),h3⟩).at⟩⟩,aB h.lo (Nat.le_succ _) _⟩
theorem jW (y:dB):∀u∈y.cells.toList,u.oneCell'=true:=by
 have h:=BV [y];simpa [aV] using h
def uO (lo:Nat) (y:fH):Prop:=rJ lo y.A (aV y.zs)∧∀z∈y.zs,Ht lo z.s z.e.z
theorem LV.low {lo lo':Nat} {v:Value} {W:World} {A:Option Addr} {cs:List Value} (h:LV lo v W A cs) (hl:lo'≤lo):rJ lo' A cs:=by
 rcases h with h|⟨b,off,h1,h2,_⟩
 ·exact .inl h
 ·exact .inr ⟨b,off,h1,Nat.le_trans hl h2⟩
theorem nT.low {w W:World} {ib:Array Value} {T T':Tb} {k cz:Nat} {Az:Option Addr} {ys:List dB} (h:nT w ib T k Az cz ys W):uO w.heap.size ⟨T',Az,cz,ys⟩:=by
 refine ⟨?_,fun y hy=>?_⟩
 ·rcases h.own.2 with ⟨hv,hn⟩|⟨g,cap,cur,hv,hg,_⟩
  ·refine .inl ?_;show (aV ys).length=0;rw [h.own.1,hn,Nat.zero_mul]
  ·injection hv with h1 _ _;exact .inr ⟨g,0,h1,by omega⟩
 ·obtain ⟨h1,h2,h3,h4⟩:=h.mem y hy;exact ⟨h1.low (by omega),h2.low (by omega),h3.low (by omega),h4.low (by omega)⟩
def Y8 (w:World) (n:Nat) (Ci:UInt8) (x:Hl) (e:Ending) (w':World):Prop:=
 ∃y:fH,e= .returned (.agg (ah y.t (.slice y.A y.zs.length y.c)))∧jB w' w'.heap.size y∧y.t.bV=(Ci.toNat:Int)%16∧y.t.version=(n:Int)+1∧y.t.aO=(x.wd.toNat:Int)%((n:Int)+1)∧(n=0→y.t.prev=bU)∧y.t.aG=wI x.vs∧uO w.heap.size y∧Below w.heap.size w w'
end Go.Proofs.YtbaehbbonkljpaaGreat
