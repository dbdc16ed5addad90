/- The texts Lc, Kj, in this order. -/
import Derived.Test.YtdibbemgpikgjaaGreatZ00
import Derived.Test.YtdibbemgpikgjaaGreatZ23
import Derived.Test.YtdibbemgpikgjaaGreatZ28
import Derived.Test.YtdibbemgpikgjaaGreatZ36
set_option maxRecDepth 10000
set_option maxHeartbeats 8000000
namespace Go.Proofs.YtdibbemgpikgjaaGreat
open Go Go.RowKit
def wH (cs:Array Value) (o:Nat):List Value→Array Value
 | []=>cs
 |v::r=>wH (cs.setIfInBounds o v) (o+1) r
theorem D7:∀(vs pre old:List Value),old.length=vs.length→wH (pre++old).toArray pre.length vs=(pre++vs).toArray
 | [],pre,old,h=>by
  have:old= []:=List.eq_nil_of_length_eq_zero h;simp [wH,this]
 |v::r,pre,old,h=>by
  obtain ⟨x,old',rfl⟩:∃x old',old=x::old':=by
   cases old with
   |nil=>simp at h
   |cons x o=>exact ⟨x,o,rfl⟩
  have h2:=D7 r (pre++ [v]) old' (by simpa using h);have e:(pre++x::old').toArray.setIfInBounds pre.length v=((pre++ [v])++old').toArray:=by simp
  unfold wH;rw [e];simpa using h2
theorem uA:∀(vs:List Value) (w:World) (b o:Nat) (cs:Array Value) (t:TypeId),w.heap[b]? =some (.cells cs t (0,0))→(w.setCells b o vs).heap[b]? =some (.cells (wH cs o vs) t (0,0))
 | [],_,_,_,_,_,h=>h
 |v::r,w,b,o,_,t,h=>uA r _ b (o+1) _ t (heap_setCell_same w b o _ _ v h)
theorem nH:∀(vs:List Value) (w:World) (b o k:Nat),k≠b→(w.setCells b o vs).heap[k]? =w.heap[k]?
 | [],_,_,_,_,_=>rfl
 |v::r,w,b,o,k,h=>(nH r _ b (o+1) k h).trans (heap_setCell_other w _ k v h)
theorem sG:∀(vs:List Value) (w:World) (b o:Nat),(w.setCells b o vs).heap.size=w.heap.size
 | [],_,_,_=>rfl
 |v::r,w,b,o=>(sG r _ b (o+1)).trans (by simp [World.setCell])
theorem nC {B b:Nat} {w0:World} (h:B≤b):∀(vs:List Value) (w:World) (o:Nat),Below B w0 w→Below B w0 (w.setCells b o vs)
 | [],_,_,hb=>hb
 |v::r,_,o,hb=>nC h r _ (o+1) (hb.setCell (p:=⟨b,o,none⟩) h v)
theorem MP (t:Tb) (v:Value):kK t v=([I t.bz,I t.version,I t.aJ,v]++az t.prev)++az t.bK:=by simp [kK]
theorem Kv (t:Tb) (v:Value) (m:List UInt8) (hp:t.prev.length=32) (h1:t.bK.length=32) (h2:m.length=32):wH (ai t v) 36 (az m)=ai {t with bK:=m} v:=by
 have h:=D7 (az m) ([I t.bz,I t.version,I t.aJ,v]++az t.prev) (az t.bK) (by simp [az,h1,h2]);have hl:([I t.bz,I t.version,I t.aJ,v]++az t.prev).length=36:=by simp [az,hp]
 rw [hl] at h;unfold ai;rw [MP,MP];exact h
theorem fF:(Tryz.prog.info? 32).map (fun i=>(i.zero,i.size))=some (some (.agg (ai bQ (.slice none 0 0))),(ai bQ (.slice none 0 0)).size):=by kernel_rfl
theorem pV (m:List UInt8) (h:m.length=32):(Tryz.prog.info? 24).map (·.size)=some (cD m).size:=by rw [kY,h];kernel_rfl
theorem Ii (t:Tb) (h:Ey t) (hp:t.prev.length=32):0<(Dh t).length∧(Dh t).length≤400:=by
 have e:=LU zB t.aS 103 t.aS.length (fun e he=>Nc e (h.aS e he).made (by obtain ⟨j,hj⟩:=List.getElem?_of_mem he;rw [h.names j e hj,qP];omega));rw [List.take_length] at e;have h2:=h.num;unfold Dh;simp only [bJ,List.length_cons,List.length_nil,aA,hp];omega
structure Yl (w:World) (ks ts:Array Value) (W:World):Prop where
 k:AV w.heap.size 24 ks W
 t:AV (w.heap.size+1) 32 ts W
 r:AV (w.heap.size+2) 32 (ai bQ (.slice none 0 0)) W
 lo:Below w.heap.size w W
theorem Yl.start (w:World) (ks ts:Array Value):Yl w ks ts (((w.alloc (.cells ks 24)).alloc (.cells ts 32)).alloc (.cells (ai bQ (.slice none 0 0)) 32)):=by
 obtain ⟨W,hW⟩:∃W,(w.alloc (.cells ks 24)).alloc (.cells ts 32)=W:=⟨_,rfl⟩;have hs:W.heap.size=w.heap.size+2:=by rw [←hW];simp
 have hb:Below w.heap.size w W:=by rw [←hW];exact ah (ag w _) (ag _ _)
 have h1:AV w.heap.size 24 ks W:=by rw [←hW];exact ⟨heap_alloc2_old w _ _⟩
 have h2:AV (w.heap.size+1) 32 ts W:=by rw [←hW];exact ⟨heap_alloc2_new w _ _⟩
 have h3:=AV.new W (ai bQ (.slice none 0 0)) 32;rw [hs] at h3;rw [hW];exact ⟨h1.below (ag W _),h2.below (ag W _),h3,ah hb (ag W _)⟩
theorem Yl.grow {w W W':World} {ks ts:Array Value} (h:Yl w ks ts W) (hb:Below W.heap.size W W'):Yl w ks ts W':=⟨h.k.below hb,h.t.below hb,h.r.below hb,ah h.lo hb⟩
theorem AV.setQ {b:Nat} {t:TypeId} {cs:Array Value} {W:World} (h:AV b t cs W) (o:Nat) (vs:List Value):AV b t (wH cs o vs) (W.setCells b o vs):=⟨uA vs W b o cs t h.var⟩
theorem AV.UF {b g:Nat} {t:TypeId} {cs:Array Value} {W:World} (h:AV b t cs W) (hn:b≠g) (o:Nat) (vs:List Value):AV b t cs (W.setCells g o vs):=⟨(nH vs W g o b hn).trans h.var⟩
theorem AV.there {b:Nat} {t:TypeId} {cs:Array Value} {W:World} (h:AV b t cs W) (o n:Nat) (hn:o+n≤cs.size):W.there b o n:=fun j hj=>⟨by rw [h.cell (o+j),Array.getElem?_eq_getElem (by omega)];rfl,h.gm _⟩
def SealP (w:World) (t:Tb) (vz:Value) (e:Ending) (w':World):Prop:=
 ∃d:List UInt8,d.length=32∧e= .returned (.tuple #[.agg (ai {t with bK:=d} vz), .int .i64 0])∧Below w.heap.size w w'
theorem Bh (key:List UInt8) (hk:key.length=32) (x:eF) (w:World) (hx:kF w w.heap.size x) (h:Ey x.t):
  Calls Tryz.prog 24 #[.agg (cD key), .agg (ai x.t (.slice x.A x.zs.length x.c))] w (SealP w x.t (.slice x.A x.zs.length x.c)):=by
 obtain ⟨t,A,c,zs⟩:=x;simp only at h ⊢;have ui:t.prev.length=32:=hx.prev;have ER:t.bK.length=32:=hx.bK;obtain ⟨n,hn⟩:∃n,zs.length=n:=⟨_,rfl⟩;rw [hn];have qw:=ae hk;have Ce:=ae ui;have Ae:=ae (Ii t h ui);have yR:Hid (∀W,Below w.heap.size w W→Calls Tryz.prog 44 #[.agg (ai t (.slice A n c))] W (Xq W t)):=ae (fun W hb=>by rw [←hn];exact DJ ⟨t,A,c,zs⟩ W ((hx.keep hb).more hb.size) h);have dM:Hid (∀v,(Tryz.prog.info? 32).map (·.size)=some (ai t v).size):=ae fun v=>cu t v ui ER;have H0:=ae (Yl.start w (cD key) (ai t (.slice A n c)));have Et:Hid ((ai t (.slice A n c)).size=68):=ae (bG t _ ui ER);have HPUT:Hid (∀d:List UInt8,d.length=32→wH (ai t (.slice A n c)) 36 (az d)=ai {t with bK:=d} (.slice A n c)):=ae (fun d hd=>Kv t _ d ui ER hd);clear hx h hk ui ER hn;go_enter Tryz.func24,Tryz.ntmps24;go_upto_region 1 with (first
  |((with_reducible refine bn 32 ?_);go_must (refine aG rfl _ rfl (ai bQ (.slice none 0 0)) fF ?_)))
 rw [show w.heap.size+1+1=w.heap.size+2 from rfl];generalize ((w.alloc (.cells (cD key) 24)).alloc (.cells (ai t (.slice A n c)) 32)).alloc (.cells (ai bQ (.slice none 0 0)) 32)=W0 at H0 ⊢;go_wp2_with ((with_reducible refine fO 32 ?_);go_must (refine aW rfl _ _ rfl (w.heap.size+1) rfl (ai t (.slice A n c)) H0.out.t.jK _ Tryz.underlying32 rfl (dM.out _) ?_));refine (yR.out W0 H0.out.lo).mono ?_;rintro e w1 ⟨A1,n1,c1,l1,rfl,o1,b1⟩;have H1:=ae (H0.out.grow b1);have Nu:=ae l1;have jf:=ae (aB.dZ o1);have hn0:0<n1:=by rw [←l1];exact Ae.out.1
 have hn1:n1≤400:=by rw [←l1];exact Ae.out.2
 clear l1 o1 b1 H0 yR;go_wp2_with ((with_reducible refine fO 24 ?_);go_must (refine aW rfl _ _ rfl w.heap.size rfl (cD key) H1.out.k.jK _ Tryz.underlying24 rfl (pV _ qw.out) ?_));refine (UX key qw.out n1 c1 A1 (Dh t) w1 Nu.out hn0 (by omega) jf.out).mono ?_;rintro e w2 ⟨d,hd,rfl,hb2⟩;have H2:=ae (H1.out.grow hb2);have HD:=ae hd;have TI:=ae (pV d hd);have HTH:Hid (w2.there (w.heap.size+1) 36 (cD d).size):=ae (H2.out.t.there 36 _ (by rw [kY,hd,Et.out];omega));have H3:Hid (Yl w (cD key) (ai {t with bK:=d} (.slice A n c)) (w2.setCells (w.heap.size+1) 36 (cD d).toList)):=ae (by
  have h:=H2.out.t.setQ 36 (cD d).toList;rw [show wH _ 36 (cD d).toList=_ from HPUT.out d hd] at h;exact ⟨H2.out.k.UF (by omega) _ _,h,H2.out.r.UF (by omega) _ _,nC (Nat.le_succ _) _ _ _ H2.out.lo⟩)
 have mZ:Hid ((Tryz.prog.info? 32).map (·.size)=some (ai {t with bK:=d} (.slice A n c)).size):=ae (cu {t with bK:=d} _ Ce.out hd);have HE3:Hid ((ai bQ (.slice none 0 0)).size=(ai {t with bK:=d} (.slice A n c)).size):=ae ((bG bQ _ rfl rfl).trans (bG {t with bK:=d} _ Ce.out hd).symm);clear hb2 hd H1 jf;obtain ⟨W3,hW3⟩:∃W,w2.setCells (w.heap.size+1) 36 (cD d).toList=W:=⟨_,rfl⟩;rw [hW3] at H3;have HW3:=ae hW3;clear hW3;go_wp2_with (first
  |((with_reducible refine dO 24 ?_);go_must ((refine wpList_store_mid rfl _ _ _ rfl (w.heap.size+1) 36 (cD d) rfl rfl HTH.out TI.out (uK _) ?_);rw [HW3.out]))
  |((with_reducible refine fO 32 ?_);go_must (refine aW rfl _ _ rfl (w.heap.size+1) rfl (ai {t with bK:=d} (.slice A n c)) H3.out.t.jK _ Tryz.underlying32 rfl mZ.out ?_))
  |((with_reducible refine dO 32 ?_);go_must (refine wpList_store_row rfl _ _ _ rfl (w.heap.size+2) (ai {t with bK:=d} (.slice A n c)) rfl rfl 32 (ai bQ (.slice none 0 0)) H3.out.r.var mZ.out HE3.out (bf _ _ _ _) ?_)))
 refine bodyPost_ret (v:= .tuple #[.agg (ai {t with bK:=d} (.slice A n c)),I 0]) (bF rfl _ _ (w.heap.size+2) _ (ai {t with bK:=d} (.slice A n c)) (0,0) _ rfl (setRow_heap _ _ _ _ _ _ H3.out.r.var) Tryz.underlying32 rfl mZ.out _ rfl) rfl ?_;exact ⟨d,HD.out,rfl,aC H3.out.lo (Nat.le_succ_of_le (Nat.le_succ _)) _⟩
theorem QY (x:eF) (w:World) (hx:kF w w.heap.size x) (h:Ey x.t):
  Calls Tryz.prog 47 #[.agg (ai x.t (.slice x.A x.zs.length x.c))] w (DgP w):=by
 obtain ⟨t,A,c,zs⟩:=x;simp only at h ⊢;have ui:t.prev.length=32:=hx.prev;have ER:t.bK.length=32:=hx.bK;obtain ⟨n,hn⟩:∃n,zs.length=n:=⟨_,rfl⟩;rw [hn];have Ce:=ae ui;have yS:=ae ER;have Ae:=ae (Ii t h ui);have yR:Hid (∀W,Below w.heap.size w W→Calls Tryz.prog 44 #[.agg (ai t (.slice A n c))] W (Xq W t)):=ae (fun W hb=>by rw [←hn];exact DJ ⟨t,A,c,zs⟩ W ((hx.keep hb).more hb.size) h);have dM:Hid (∀v,(Tryz.prog.info? 32).map (·.size)=some (ai t v).size):=ae fun v=>cu t v ui ER;have H0:=ae (V2.start w 32 (ai t (.slice A n c)) 24 (cD d32));have O0:Hid ((Tryz.prog.info? 24).map (·.size)=some (az t.bK).length):=ae (by simp only [az,List.length_map,ER];kernel_rfl);clear hx h ui ER hn;go_enter Tryz.func47,Tryz.ntmps47;go_upto_region 1 with (first
  |((with_reducible refine bn 24 ?_);go_must (refine aG rfl _ rfl (cD d32) rU ?_)))
 generalize (w.alloc (.cells (ai t (.slice A n c)) 32)).alloc (.cells (cD d32) 24)=W0 at H0 ⊢;go_wp2_with ((with_reducible refine fO 32 ?_);go_must (refine aW rfl _ _ rfl w.heap.size rfl (ai t (.slice A n c)) H0.out.s.jK _ Tryz.underlying32 rfl (dM.out _) ?_));refine (yR.out W0 H0.out.lo).mono ?_;rintro e w1 ⟨A1,n1,c1,l1,rfl,o1,b1⟩;have H1:=ae (H0.out.grow b1);have Nu:=ae l1;have Lm:=ae o1;have hw0:=H0.out.r.lt;have hs1:W0.heap.size≤w1.heap.size:=b1.size;have hn0:0<n1:=by rw [←l1];exact Ae.out.1
 have hn1:n1≤400:=by rw [←l1];exact Ae.out.2
 have IY:=ae (Ku t (.slice A n c) (Row.lh H1.out.s.var) Ce.out);clear l1 o1 b1 H0 yR;go_wp2_with ((with_reducible refine fO 24 ?_);go_must (refine bC rfl _ _ rfl w.heap.size 36 rfl (az t.bK) IY.out _ Tryz.underlying24 rfl O0.out ?_));refine (xA t.bK w1 yS.out).mono ?_;rintro e w2 ⟨A2,n2,c2,l2,rfl,o2,k2⟩;have hn2:n2=32:=by rw [←l2,yS.out]
 subst hn2;have H2:=ae (H1.out.grow k2.jy);have kW:=ae (Lm.out.below k2.jy);have HC2:=ae (aB.dZ o2);have hs2:W0.heap.size≤w2.heap.size:=Nat.le_trans hs1 k2.size;clear o2 k2 l2 H1 Lm IY;go_wp2_with (at_builtin;go_must (refine mG rfl _ _ rfl W0.heap.size n1 c1 A1 (Dh t) rfl kW.out _ A2 32 c2 t.bK rfl yS.out (by omega) HC2.out (by omega) hs2 ?_));intro A3 c3 w3 o3 k3;have H3:=ae (H2.out.L6 (k3.vZ kW.out.base hs2) hw0);have nK:=ae o3;clear o3 k3 H2 kW HC2;go_wp2_with fail;refine (RH (n1+32) c3 A3 (Dh t++t.bK) w3 (by rw [bJ,Nu.out,yS.out]) (by omega) (by omega) (aB.dZ nK.out)).mono ?_;rintro e w4 ⟨d,hd,rfl,hb4⟩;have H4:=ae (H3.out.grow hb4);have HD:=ae hd;have XB:Hid ((cD d32).size=(cD d).size):=ae (by rw [kY,kY,hd,zH]);clear H3 nK hb4 hd;go_wp2_with ((with_reducible refine dO 24 ?_);go_must (refine wpList_store_row rfl _ _ _ rfl (w.heap.size+1) (cD d) rfl rfl 24 (cD d32) H4.out.r.var (pV _ HD.out) XB.out (uK _) ?_));refine bodyPost_ret (v:= .agg (cD d)) (results_cell_row rfl _ _ (w.heap.size+1) _ (cD d) (0,0) _ rfl (setRow_heap _ _ _ _ _ _ H4.out.r.var) Tryz.underlying24 rfl (pV _ HD.out)) rfl ?_;exact ⟨d,HD.out,rfl,aC H4.out.lo (Nat.le_succ _) _⟩
def rq (lo:Nat) (A:Option Addr) (cs:List Value):Prop:=cs.length=0∨∃b off,A=some ⟨b,off,none⟩∧lo≤b
theorem LZ.low {lo lo' B g:Nat} {w:World} {A:Option Addr} {cs:List Value} (h:LZ lo B g w A cs) (hlo:lo'≤lo):rq lo' A cs:=by
 rcases h with h|⟨b,off,h1,h0,_⟩
 ·exact .inl h
 ·exact .inr ⟨b,off,h1,Nat.le_trans hlo h0⟩
def Gw (lo:Nat) (s:Zs) (z:Zn):Prop:=rq lo s.A (z.cal.au.map I)∧rq lo s.B (z.cal.rules.flatMap Lr.cells)∧rq lo s.C (z.trans.flatMap Tr.cells)∧rq lo s.D (z.ay.flatMap Yr.cells)
def WC (w:World) (z:Zn) (e:Ending) (w':World):Prop:=∃s,e= .returned (.agg (aj z s))∧gW w' w'.heap.size s z∧Gw w.heap.size s z∧Below w.heap.size w w'
end Go.Proofs.YtdibbemgpikgjaaGreat
