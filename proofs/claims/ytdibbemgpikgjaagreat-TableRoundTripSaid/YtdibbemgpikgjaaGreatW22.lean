/- The texts Lc, Kj, in this order. -/
import Derived.Test.YtdibbemgpikgjaaGreatW00
import Derived.Test.YtdibbemgpikgjaaGreatW19
import Derived.Test.YtdibbemgpikgjaaGreatW21
set_option maxRecDepth 10000
set_option maxHeartbeats 8000000
namespace Go.Proofs.YtdibbemgpikgjaaGreat
open Go Go.RowKit
def xN (cs:Array Value) (o:Nat):List Value→Array Value
 | []=>cs
 |v::r=>xN (cs.setIfInBounds o v) (o+1) r
theorem FX:∀(vs pre old:List Value),old.length=vs.length→xN (pre++old).toArray pre.length vs=(pre++vs).toArray
 | [],pre,old,h=>by
  have:old= []:=List.eq_nil_of_length_eq_zero h;simp [xN,this]
 |v::r,pre,old,h=>by
  obtain ⟨x,old',rfl⟩:∃x old',old=x::old':=by
   cases old with
   |nil=>simp at h
   |cons x o=>exact ⟨x,o,rfl⟩
  have h2:=FX r (pre++ [v]) old' (by simpa using h);have e:(pre++x::old').toArray.setIfInBounds pre.length v=((pre++ [v])++old').toArray:=by simp
  unfold xN;rw [e];simpa using h2
theorem nG:∀(vs:List Value) (w:World) (b o:Nat) (cs:Array Value) (t:TypeId),w.heap[b]? =some (.cells cs t (0,0))→(w.setCells b o vs).heap[b]? =some (.cells (xN cs o vs) t (0,0))
 | [],_,_,_,_,_,h=>h
 |v::r,w,b,o,_,t,h=>nG r _ b (o+1) _ t (heap_setCell_same w b o _ _ v h)
theorem nY:∀(vs:List Value) (w:World) (b o k:Nat),k≠b→(w.setCells b o vs).heap[k]? =w.heap[k]?
 | [],_,_,_,_,_=>rfl
 |v::r,w,b,o,k,h=>(nY r _ b (o+1) k h).trans (heap_setCell_other w _ k v h)
theorem uz:∀(vs:List Value) (w:World) (b o:Nat),(w.setCells b o vs).heap.size=w.heap.size
 | [],_,_,_=>rfl
 |v::r,w,b,o=>(uz r _ b (o+1)).trans (by simp [World.setCell])
theorem jv {B b:Nat} {w0:World} (h:B≤b):∀(vs:List Value) (w:World) (o:Nat),Below B w0 w→Below B w0 (w.setCells b o vs)
 | [],_,_,hb=>hb
 |v::r,_,o,hb=>jv h r _ (o+1) (hb.setCell (p:=⟨b,o,none⟩) h v)
theorem O9 (t:Tb) (v:Value):kV t v=([I t.bC,I t.version,I t.aH,v]++au t.prev)++au t.bJ:=by simp [kV]
theorem wO (t:Tb) (v:Value) (m:List UInt8) (hp:t.prev.length=32) (h1:t.bJ.length=32) (h2:m.length=32):xN (ai t v) 36 (au m)=ai {t with bJ:=m} v:=by
 have h:=FX (au m) ([I t.bC,I t.version,I t.aH,v]++au t.prev) (au t.bJ) (by simp [au,h1,h2]);have hl:([I t.bC,I t.version,I t.aH,v]++au t.prev).length=36:=by simp [au,hp]
 rw [hl] at h;unfold ai;rw [O9,O9];exact h
theorem eP:(Tryz.prog.info? 32).map (fun i=>(i.zero,i.size))=some (some (.agg (ai bn (.slice none 0 0))),(ai bn (.slice none 0 0)).size):=by kernel_rfl
theorem mX (m:List UInt8) (h:m.length=32):(Tryz.prog.info? 24).map (·.size)=some (cD m).size:=by rw [kK,h];kernel_rfl
theorem JX (t:Tb) (h:IB t) (hp:t.prev.length=32):0<(EH t).length∧(EH t).length≤400:=by
 have e:=OD AX t.aK 103 t.aK.length (fun e he=>Pz e (h.aK e he).made (by obtain ⟨j,hj⟩:=List.getElem?_of_mem he;rw [h.names j e hj,sF];omega));rw [List.take_length] at e;have h2:=h.num;unfold EH;simp only [bF,List.length_cons,List.length_nil,aA,hp];omega
structure SlS (w:World) (ks ts:Array Value) (W:World):Prop where
 k:AV w.heap.size 24 ks W
 t:AV (w.heap.size+1) 32 ts W
 r:AV (w.heap.size+2) 32 (ai bn (.slice none 0 0)) W
 lo:Below w.heap.size w W
theorem SlS.start (w:World) (ks ts:Array Value):SlS w ks ts (((w.alloc (.cells ks 24)).alloc (.cells ts 32)).alloc (.cells (ai bn (.slice none 0 0)) 32)):=by
 obtain ⟨W,hW⟩:∃W,(w.alloc (.cells ks 24)).alloc (.cells ts 32)=W:=⟨_,rfl⟩;have hs:W.heap.size=w.heap.size+2:=by rw [←hW];simp
 have hb:Below w.heap.size w W:=by rw [←hW];exact ah (ag w _) (ag _ _)
 have h1:AV w.heap.size 24 ks W:=by rw [←hW];exact ⟨heap_alloc2_old w _ _⟩
 have h2:AV (w.heap.size+1) 32 ts W:=by rw [←hW];exact ⟨heap_alloc2_new w _ _⟩
 have h3:=AV.new W (ai bn (.slice none 0 0)) 32;rw [hs] at h3;rw [hW];exact ⟨h1.below (ag W _),h2.below (ag W _),h3,ah hb (ag W _)⟩
theorem SlS.grow {w W W':World} {ks ts:Array Value} (h:SlS w ks ts W) (hb:Below W.heap.size W W'):SlS w ks ts W':=⟨h.k.below hb,h.t.below hb,h.r.below hb,ah h.lo hb⟩
theorem AV.setQ {b:Nat} {t:TypeId} {cs:Array Value} {W:World} (h:AV b t cs W) (o:Nat) (vs:List Value):AV b t (xN cs o vs) (W.setCells b o vs):=⟨nG vs W b o cs t h.var⟩
theorem AV.WV {b g:Nat} {t:TypeId} {cs:Array Value} {W:World} (h:AV b t cs W) (hn:b≠g) (o:Nat) (vs:List Value):AV b t cs (W.setCells g o vs):=⟨(nY vs W g o b hn).trans h.var⟩
theorem AV.there {b:Nat} {t:TypeId} {cs:Array Value} {W:World} (h:AV b t cs W) (o n:Nat) (hn:o+n≤cs.size):W.there b o n:=fun j hj=>⟨by rw [h.cell (o+j),Array.getElem?_eq_getElem (by omega)];rfl,h.gG _⟩
def SealP (w:World) (t:Tb) (vz:Value) (e:Ending) (w':World):Prop:=
 ∃d:List UInt8,d.length=32∧e= .returned (.tuple #[.agg (ai {t with bJ:=d} vz), .int .i64 0])∧Below w.heap.size w w'
theorem Dx (key:List UInt8) (hk:key.length=32) (x:fH) (w:World) (hx:lS w w.heap.size x) (h:IB x.t):
  Calls Tryz.prog 24 #[.agg (cD key), .agg (ai x.t (.slice x.A x.zs.length x.c))] w (SealP w x.t (.slice x.A x.zs.length x.c)):=by
 obtain ⟨t,A,c,zs⟩:=x;simp only at h ⊢;have vH:t.prev.length=32:=hx.prev;have GR:t.bJ.length=32:=hx.bJ;obtain ⟨n,hn⟩:∃n,zs.length=n:=⟨_,rfl⟩;rw [hn];have rD:=ae hk;have Ee:=ae vH;have BJ:=ae (JX t h vH);have Bz:Hid (∀W,Below w.heap.size w W→Calls Tryz.prog 44 #[.agg (ai t (.slice A n c))] W (ZE W t)):=ae (fun W hb=>by rw [←hn];exact Fh ⟨t,A,c,zs⟩ W ((hx.keep hb).more hb.size) h);have dR:Hid (∀v,(Tryz.prog.info? 32).map (·.size)=some (ai t v).size):=ae fun v=>bP t v vH GR;have H0:=ae (SlS.start w (cD key) (ai t (.slice A n c)));have Gm:Hid ((ai t (.slice A n c)).size=68):=ae (aZ t _ vH GR);have HPUT:Hid (∀d:List UInt8,d.length=32→xN (ai t (.slice A n c)) 36 (au d)=ai {t with bJ:=d} (.slice A n c)):=ae (fun d hd=>wO t _ d vH GR hd);clear hx h hk vH GR hn;go_enter Tryz.func24,Tryz.ntmps24;go_upto_region 1 with (first
  |((with_reducible refine bu 32 ?_);go_must (refine aN rfl _ rfl (ai bn (.slice none 0 0)) eP ?_)))
 rw [show w.heap.size+1+1=w.heap.size+2 from rfl];generalize ((w.alloc (.cells (cD key) 24)).alloc (.cells (ai t (.slice A n c)) 32)).alloc (.cells (ai bn (.slice none 0 0)) 32)=W0 at H0 ⊢;go_wp2_with ((with_reducible refine jy 32 ?_);go_must (refine bG rfl _ _ rfl (w.heap.size+1) rfl (ai t (.slice A n c)) H0.out.t.lu _ Tryz.underlying32 rfl (dR.out _) ?_));refine (Bz.out W0 H0.out.lo).mono ?_;rintro e w1 ⟨A1,n1,c1,l1,rfl,o1,b1⟩;have H1:=ae (H0.out.grow b1);have PH:=ae l1;have jO:=ae (aB.fA o1);have hn0:0<n1:=by rw [←l1];exact BJ.out.1
 have hn1:n1≤400:=by rw [←l1];exact BJ.out.2
 clear l1 o1 b1 H0 Bz;go_wp2_with ((with_reducible refine jy 24 ?_);go_must (refine bG rfl _ _ rfl w.heap.size rfl (cD key) H1.out.k.lu _ Tryz.underlying24 rfl (mX _ rD.out) ?_));refine (Xj key rD.out n1 c1 A1 (EH t) w1 PH.out hn0 (by omega) jO.out).mono ?_;rintro e w2 ⟨d,hd,rfl,hb2⟩;have H2:=ae (H1.out.grow hb2);have HD:=ae hd;have Io:=ae (mX d hd);have HTH:Hid (w2.there (w.heap.size+1) 36 (cD d).size):=ae (H2.out.t.there 36 _ (by rw [kK,hd,Gm.out];omega));have H3:Hid (SlS w (cD key) (ai {t with bJ:=d} (.slice A n c)) (w2.setCells (w.heap.size+1) 36 (cD d).toList)):=ae (by
  have h:=H2.out.t.setQ 36 (cD d).toList;rw [show xN _ 36 (cD d).toList=_ from HPUT.out d hd] at h;exact ⟨H2.out.k.WV (by omega) _ _,h,H2.out.r.WV (by omega) _ _,jv (Nat.le_succ _) _ _ _ H2.out.lo⟩)
 have nS:Hid ((Tryz.prog.info? 32).map (·.size)=some (ai {t with bJ:=d} (.slice A n c)).size):=ae (bP {t with bJ:=d} _ Ee.out hd);have HE3:Hid ((ai bn (.slice none 0 0)).size=(ai {t with bJ:=d} (.slice A n c)).size):=ae ((aZ bn _ rfl rfl).trans (aZ {t with bJ:=d} _ Ee.out hd).symm);clear hb2 hd H1 jO;obtain ⟨W3,hW3⟩:∃W,w2.setCells (w.heap.size+1) 36 (cD d).toList=W:=⟨_,rfl⟩;rw [hW3] at H3;have HW3:=ae hW3;clear hW3;go_wp2_with (first
  |((with_reducible refine eQ 24 ?_);go_must ((refine wpList_store_mid rfl _ _ _ rfl (w.heap.size+1) 36 (cD d) rfl rfl HTH.out Io.out (rH _) ?_);rw [HW3.out]))
  |((with_reducible refine jy 32 ?_);go_must (refine bG rfl _ _ rfl (w.heap.size+1) rfl (ai {t with bJ:=d} (.slice A n c)) H3.out.t.lu _ Tryz.underlying32 rfl nS.out ?_))
  |((with_reducible refine eQ 32 ?_);go_must (refine wpList_store_row rfl _ _ _ rfl (w.heap.size+2) (ai {t with bJ:=d} (.slice A n c)) rfl rfl 32 (ai bn (.slice none 0 0)) H3.out.r.var nS.out HE3.out (aT _ _ _ _) ?_)))
 refine bodyPost_ret (v:= .tuple #[.agg (ai {t with bJ:=d} (.slice A n c)),I 0]) (bQ rfl _ _ (w.heap.size+2) _ (ai {t with bJ:=d} (.slice A n c)) (0,0) _ rfl (setRow_heap _ _ _ _ _ _ H3.out.r.var) Tryz.underlying32 rfl nS.out _ rfl) rfl ?_;exact ⟨d,HD.out,rfl,aC H3.out.lo (Nat.le_succ_of_le (Nat.le_succ _)) _⟩
theorem Uo (x:fH) (w:World) (hx:lS w w.heap.size x) (h:IB x.t):
  Calls Tryz.prog 47 #[.agg (ai x.t (.slice x.A x.zs.length x.c))] w (DgP w):=by
 obtain ⟨t,A,c,zs⟩:=x;simp only at h ⊢;have vH:t.prev.length=32:=hx.prev;have GR:t.bJ.length=32:=hx.bJ;obtain ⟨n,hn⟩:∃n,zs.length=n:=⟨_,rfl⟩;rw [hn];have Ee:=ae vH;have Ad:=ae GR;have BJ:=ae (JX t h vH);have Bz:Hid (∀W,Below w.heap.size w W→Calls Tryz.prog 44 #[.agg (ai t (.slice A n c))] W (ZE W t)):=ae (fun W hb=>by rw [←hn];exact Fh ⟨t,A,c,zs⟩ W ((hx.keep hb).more hb.size) h);have dR:Hid (∀v,(Tryz.prog.info? 32).map (·.size)=some (ai t v).size):=ae fun v=>bP t v vH GR;have H0:=ae (V2.start w 32 (ai t (.slice A n c)) 24 (cD d32));have KU:Hid ((Tryz.prog.info? 24).map (·.size)=some (au t.bJ).length):=ae (by simp only [au,List.length_map,GR];kernel_rfl);clear hx h vH GR hn;go_enter Tryz.func47,Tryz.ntmps47;go_upto_region 1 with (first
  |((with_reducible refine bu 24 ?_);go_must (refine aN rfl _ rfl (cD d32) uk ?_)))
 generalize (w.alloc (.cells (ai t (.slice A n c)) 32)).alloc (.cells (cD d32) 24)=W0 at H0 ⊢;go_wp2_with ((with_reducible refine jy 32 ?_);go_must (refine bG rfl _ _ rfl w.heap.size rfl (ai t (.slice A n c)) H0.out.s.lu _ Tryz.underlying32 rfl (dR.out _) ?_));refine (Bz.out W0 H0.out.lo).mono ?_;rintro e w1 ⟨A1,n1,c1,l1,rfl,o1,b1⟩;have H1:=ae (H0.out.grow b1);have PH:=ae l1;have VB:=ae o1;have hw0:=H0.out.r.lt;have hs1:W0.heap.size≤w1.heap.size:=b1.size;have hn0:0<n1:=by rw [←l1];exact BJ.out.1
 have hn1:n1≤400:=by rw [←l1];exact BJ.out.2
 have RD:=ae (Ho t (.slice A n c) (Row.kF H1.out.s.var) Ee.out);clear l1 o1 b1 H0 Bz;go_wp2_with ((with_reducible refine jy 24 ?_);go_must (refine bU rfl _ _ rfl w.heap.size 36 rfl (au t.bJ) RD.out _ Tryz.underlying24 rfl KU.out ?_));refine (yQ t.bJ w1 Ad.out).mono ?_;rintro e w2 ⟨A2,n2,c2,l2,rfl,o2,k2⟩;have hn2:n2=32:=by rw [←l2,Ad.out]
 subst hn2;have H2:=ae (H1.out.grow k2.jC);have mJ:=ae (VB.out.below k2.jC);have HC2:=ae (aB.fA o2);have hs2:W0.heap.size≤w2.heap.size:=Nat.le_trans hs1 k2.size;clear o2 k2 l2 H1 VB RD;go_wp2_with (at_builtin;go_must (refine nH rfl _ _ rfl W0.heap.size n1 c1 A1 (EH t) rfl mJ.out _ A2 32 c2 t.bJ rfl Ad.out (by omega) HC2.out (by omega) hs2 ?_));intro A3 c3 w3 o3 k3;have H3:=ae (H2.out.OH (k3.xE mJ.out.base hs2) hw0);have mV:=ae o3;clear o3 k3 H2 mJ HC2;go_wp2_with fail;refine (UU (n1+32) c3 A3 (EH t++t.bJ) w3 (by rw [bF,PH.out,Ad.out]) (by omega) (by omega) (aB.fA mV.out)).mono ?_;rintro e w4 ⟨d,hd,rfl,hb4⟩;have H4:=ae (H3.out.grow hb4);have HD:=ae hd;have ZY:Hid ((cD d32).size=(cD d).size):=ae (by rw [kK,kK,hd,Ba]);clear H3 mV hb4 hd;go_wp2_with ((with_reducible refine eQ 24 ?_);go_must (refine wpList_store_row rfl _ _ _ rfl (w.heap.size+1) (cD d) rfl rfl 24 (cD d32) H4.out.r.var (mX _ HD.out) ZY.out (rH _) ?_));refine bodyPost_ret (v:= .agg (cD d)) (results_cell_row rfl _ _ (w.heap.size+1) _ (cD d) (0,0) _ rfl (setRow_heap _ _ _ _ _ _ H4.out.r.var) Tryz.underlying24 rfl (mX _ HD.out)) rfl ?_;exact ⟨d,HD.out,rfl,aC H4.out.lo (Nat.le_succ _) _⟩
def sW (lo:Nat) (A:Option Addr) (cs:List Value):Prop:=cs.length=0∨∃b off,A=some ⟨b,off,none⟩∧lo≤b
theorem LZ.low {lo lo' B g:Nat} {w:World} {A:Option Addr} {cs:List Value} (h:LZ lo B g w A cs) (hlo:lo'≤lo):sW lo' A cs:=by
 rcases h with h|⟨b,off,h1,h0,_⟩
 ·exact .inl h
 ·exact .inr ⟨b,off,h1,Nat.le_trans hlo h0⟩
def I8 (lo:Nat) (s:Zs) (z:Zn):Prop:=sW lo s.A (z.cal.aj.map I)∧sW lo s.B (z.cal.rules.flatMap Lr.cells)∧sW lo s.C (z.trans.flatMap Tr.cells)∧sW lo s.D (z.az.flatMap Yr.cells)
def Y2 (w:World) (z:Zn) (e:Ending) (w':World):Prop:=∃s,e= .returned (.agg (ax z s))∧jR w' w'.heap.size s z∧I8 w.heap.size s z∧Below w.heap.size w w'
end Go.Proofs.YtdibbemgpikgjaaGreat
