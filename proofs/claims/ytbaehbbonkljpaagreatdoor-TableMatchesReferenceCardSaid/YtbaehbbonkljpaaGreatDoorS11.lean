/- The texts Kg, Kh, in this order. -/
import Derived.Test.YtbaehbbonkljpaaGreatDoorS00
import Derived.Test.YtbaehbbonkljpaaGreatDoorS08
import Derived.Test.YtbaehbbonkljpaaGreatDoorS10
set_option maxRecDepth 10000
set_option maxHeartbeats 8000000
namespace Go.Proofs.YtbaehbbonkljpaaGreatDoor
open Go Go.RowKit
def someL:List Int:= [0,60,120, -90,30,1080, -1080,90]
def nU (n:Nat):Int:=someL.getD (n%8) 0
theorem CP (n:Nat): -1080<=nU n/\nU n<=1080:=by
 have h:n%8<8:=Nat.mod_lt _ (by omega);unfold nU;generalize n%8=k at h
 match k,h with
 |0,_=>decide
 |1,_=>decide
 |2,_=>decide
 |3,_=>decide
 |4,_=>decide
 |5,_=>decide
 |6,_=>decide
 |7,_=>decide
theorem xK (n:Nat) (w:World) (hn:n<256):Calls Tryz.prog 62 #[.int .u8 n] w (Gives (I (nU n)) w):=by
 have hm:Int.tmod (n:Int) 8=((n%8:Nat):Int):=by rw [Int.tmod_eq_emod_of_nonneg (by omega)];omega
 have h:n%8<8:=Nat.mod_lt _ (by omega);have HS:Hid (nU n=someL.getD (n%8) 0):=ae rfl;obtain ⟨V,hV⟩:∃v,nU n=v:=⟨_,rfl⟩;rw [hV] at HS ⊢;clear hV;generalize n%8=k at hm h HS;have hk:k=0\/k=1\/k=2\/k=3\/k=4\/k=5\/k=6\/k=7:=by omega
 rcases hk with rfl|rfl|rfl|rfl|rfl|rfl|rfl|rfl
 all_goals
  push_cast at hm
  go_enter Tryz.func62,Tryz.ntmps62;go_wp2_with fail;go_ret;exact ⟨by rw [HS.out];rfl,ag w _⟩
structure EI where
 st:UInt8
 dS:List UInt8
 iI:List UInt8
 bh:UInt8
 a0:UInt8
 a1:UInt8
 a2:UInt8
 a3:UInt8
 b0:UInt8
 b1:UInt8
 b2:UInt8
 b3:UInt8
 cal:UInt8
 rules:Bool
def xm (dS:List UInt8):Nat->Int
 |0=>0
 |k+1=>xm dS k+2160+20*((dS[k]?.getD 0).toNat:Int)
def mF (dS iI:List UInt8):Nat->List Tr
 |0=> []
 |k+1=>mF dS iI k++ [⟨xm dS (k+1),nU (iI[k]?.getD 0).toNat⟩]
def mD (x:EI):Nat:=Nat.min (Nat.min x.dS.length x.iI.length) 3
def uq (n:UInt8):Cal:=if n.toNat%2=1 then ⟨5,[7,8],1,[⟨2,((n.toNat / 2%2:Nat):Int),true⟩]⟩ else ⟨2,[7,6], -1,[]⟩
def qi (k:Int) (a b c d:UInt8):Yr:=⟨1+k,if d.toNat%2=1 then 5 else 1,((a.toNat%3:Nat):Int),((b.toNat*5:Nat):Int),nU (c.toNat%5)⟩
def NU (x:EI):Zn:=⟨uq x.cal,nU x.st.toNat,mF x.dS x.iI (mD x),xm x.dS (mD x)+2160+20*(x.bh.toNat:Int),[]⟩
def Y4 (x:EI):Zn:= {NU x with aH:= [qi 0 x.a0 x.a1 x.a2 x.a3,qi 1 x.b0 x.b1 x.b2 x.b3]}
def jv (x:EI):Zn:=if x.rules=true/\vg (Y4 x)=0 then Y4 x else NU x
theorem uu (g o:List UInt8) (k:Nat):(mF g o k).length=k:=by
 induction k with
 |zero=>rfl
 |succ k ih=>simp [mF,ih]
theorem BZ (g o:List UInt8) (k:Nat):∀j,j<k->(mF g o k)[j]? =some ⟨xm g (j+1),nU (o[j]?.getD 0).toNat⟩:=by
 induction k with
 |zero=>intro j hj;omega
 |succ k ih=>
  intro j hj;unfold mF;rcases Nat.lt_succ_iff_lt_or_eq.1 hj with h|rfl
  ·rw [List.getElem?_append_left (by rw [uu];exact h)];exact ih j h
  ·rw [List.getElem?_append_right (by rw [uu];exact Nat.le_refl _),uu,Nat.sub_self];rfl
theorem fA (b:UInt8):b.toNat<256:=UInt8.toNat_lt b
theorem BC (g:List UInt8) (k:Nat):xm g k+2160<=xm g (k+1)/\xm g (k+1)<=xm g k+7260:=by
 have h:(g[k]?.getD 0).toNat<256:=fA _;rw [show xm g (k+1)=xm g k+2160+20*((g[k]?.getD 0).toNat:Int) from rfl];omega
theorem FZ (g:List UInt8):∀k:Nat,0<=xm g k/\xm g k<=7260*(k:Int):=by
 intro k
 induction k with
 |zero=>exact ⟨Int.le_refl _,by simp [xm]⟩
 |succ k ih=>have:=BC g k;omega
theorem SV (g:List UInt8) (j k:Nat) (h:j<=k):xm g j<=xm g k:=by
 induction k with
 |zero=>rw [Nat.le_zero.1 h];exact Int.le_refl _
 |succ k ih=>
  rcases Nat.lt_or_eq_of_le h with h|rfl
  ·have:=BC g k;have:=ih (by omega);omega
  ·exact Int.le_refl _
theorem OI (x:EI):mD x<=3/\mD x<=x.dS.length/\mD x<=x.iI.length:=by
 unfold mD;have h1:=Nat.min_le_right (Nat.min x.dS.length x.iI.length) 3;have h2:=Nat.min_le_left (Nat.min x.dS.length x.iI.length) 3;have h3:=Nat.min_le_left x.dS.length x.iI.length;have h4:=Nat.min_le_right x.dS.length x.iI.length;exact ⟨h1,Nat.le_trans h2 h3,Nat.le_trans h2 h4⟩
theorem mcal_S (n:UInt8):KN (uq n):=by
 unfold uq;split
 ·refine ⟨by simp,rfl,by simp,by simp,by simp,by simp,?_⟩;intro r hr;rw [List.mem_singleton.1 hr];have:n.toNat / 2%2<2:=Nat.mod_lt _ (by omega);exact ⟨rfl,by simp only;omega,by simp only;omega⟩
 ·exact ⟨by simp,rfl,by simp,by simp,by simp,by simp,by simp⟩
theorem myr_S (k:Int) (hk:k=0\/k=1) (a b c d:UInt8):YrS (qi k a b c d):=by
 have h1:a.toNat%3<3:=Nat.mod_lt _ (by omega);have h2:=fA b;refine ⟨by simp only [qi];omega,?_,by simp only [qi];omega,by simp only [qi];omega,CP _⟩;simp only [qi];split<;>omega
theorem VH (x:EI):Oj (NU x):=by
 have hc:=OI x;have hb:=FZ x.dS (mD x);have hy:=fA x.bh;have hl:(NU x).trans.length=mD x:=uu _ _ _;refine ⟨mcal_S _,CP _,?_,by rw [hl];exact hc.1,?_,?_, .inl rfl⟩
 ·show 0<=xm x.dS (mD x)+2160+20*(x.bh.toNat:Int)/\xm x.dS (mD x)+2160+20*(x.bh.toNat:Int)<=1000000;omega
 ·intro t ht;obtain ⟨j,hj⟩:=List.getElem?_of_mem ht;have hjl:j<mD x:=by rw [<-hl];exact (gQ.1 hj).1
  have h:=BZ x.dS x.iI (mD x) j hjl;have h':(NU x).trans[j]? =(mF x.dS x.iI (mD x))[j]? :=rfl;rw [h',h] at hj;injection hj with hj;subst hj;have h1:=FZ x.dS (j+1);have h2:=SV x.dS (j+1) (mD x) hjl;refine ⟨CP _,h1.1,?_⟩;show xm x.dS (j+1)<xm x.dS (mD x)+2160+20*(x.bh.toNat:Int);omega
 ·intro i hi;rw [hl] at hi;have h1:=BZ x.dS x.iI (mD x) i (by omega);have h2:=BZ x.dS x.iI (mD x) (i+1) hi;have e:(NU x).trans=mF x.dS x.iI (mD x):=rfl;unfold gU;rw [e,h1,h2];have:=BC x.dS (i+1);show xm x.dS (i+1)+2160<=xm x.dS (i+1+1);omega
theorem zn1_M (x:EI):Oj (Y4 x):=by
 have h:=VH x;exact ⟨h.cal,h.start,h.hor,h.QS,h.tr,h.gap, .inr ⟨_,_,rfl,myr_S 0 (.inl rfl) _ _ _ _,myr_S 1 (.inr rfl) _ _ _ _⟩⟩
theorem Ut (x:EI):Oj (jv x):=by
 unfold jv;split
 ·exact zn1_M x
 ·exact VH x
theorem Oj.len {z:Zn} (h:Oj z):jB z:=by
 have h1:=h.cal.mo;have h2:=h.cal.ru;have h3:=h.QS;refine ⟨by omega,by omega,by omega,?_⟩;rcases h.yr with e|⟨_,_,e,_,_⟩<;>rw [e]<;>simp
def lU (x:EI) (G O:Option Addr) (gc oc:Nat):Array Value:= #[Extern.Stop.cell x.st, .slice G x.dS.length gc, .slice O x.iI.length oc,Extern.Stop.cell x.bh,Extern.Stop.cell x.a0,Extern.Stop.cell x.a1,Extern.Stop.cell x.a2,Extern.Stop.cell x.a3,Extern.Stop.cell x.b0,Extern.Stop.cell x.b1,Extern.Stop.cell x.b2,Extern.Stop.cell x.b3,Extern.Stop.cell x.cal, .bool x.rules]
def LZ (lo B g:Nat) (w:World) (A:Option Addr) (cs:List Value):Prop:=
 cs.length=0\/∃b off,A=some ⟨b,off,none⟩/\lo<=b/\b<B/\b≠g/\∀j u,cs[j]? =some u->w.cell? ⟨b,off+j,none⟩=some u
theorem LZ.aK {lo B g:Nat} {w w':World} {A:Option Addr} {cs:List Value} (h:LZ lo B g w A cs) (hb:∀k,lo<=k->k<B->k≠g->w'.heap[k]? =w.heap[k]?):LZ lo B g w' A cs:=by
 rcases h with h|⟨b,off,h1,h0,h2,h4,h5⟩
 ·exact .inl h
 ·exact .inr ⟨b,off,h1,h0,h2,h4,fun j u hu=>(World.cell?_of_block (a:=⟨b,off+j,none⟩) (hb b h0 h2 h4)).trans (h5 j u hu)⟩
theorem LZ.more {lo B B' g:Nat} {w:World} {A:Option Addr} {cs:List Value} (h:LZ lo B g w A cs) (hB:B<=B'):LZ lo B' g w A cs:=by
 rcases h with h|⟨b,off,h1,h0,h2,h4,h5⟩
 ·exact .inl h
 ·exact .inr ⟨b,off,h1,h0,by omega,h4,h5⟩
theorem LZ.at {lo B g:Nat} {w:World} {A:Option Addr} {cs:List Value} (h:LZ lo B g w A cs) (hB:B<=w.heap.size):aA w w.heap.size A cs:=by
 rcases h with h|⟨b,off,h1,h0,h2,h4,h5⟩
 ·exact .inl h
 ·exact .inr ⟨b,off,h1,by omega,h5⟩
theorem LZ.nil {lo B g:Nat} {w:World} {A:Option Addr}:LZ lo B g w A []:= .inl rfl
theorem LZ.dR {lo g e size n c B base:Nat} {A:Option Addr} {w:World} {cs:List Value} (h:w.ownsRow base e size (.slice A n c) n cs) (h0:lo<=base) (hg:g<base) (hB:w.heap.size<=B):LZ lo B g w A cs:=by
 rcases h.2 with ⟨hv,hn⟩|⟨b,cap,cur,hv,hb,hh,_⟩
 ·refine .inl ?_;rw [h.1,hn,Nat.zero_mul]
 ·injection hv with h1 _ _;subst h1;have hl:=(bV.1 hh).1;exact .inr ⟨b,0,rfl,by omega,by omega,by omega,fun j u hu=>by rw [Nat.zero_add,<-addr_add];exact h.cells (g:=b) rfl j u hu⟩
structure MZ (w:World) (xs:Array Value) (zb B:Nat) (zs:Array Value) (A R C:Option Addr) (mo ru tr:List Value) (W:World):Prop where
 x:Row W w.heap.size xs
 res:W.heap[w.heap.size+1]? =some (.cells iH 69 (0,0))
 z:W.heap[zb]? =some (.cells zs 69 (0,0))
 lo:w.heap.size+2<=zb
 hi:zb<B
 sz:B<=W.heap.size
 up:Below w.heap.size w W
 mon:LZ (w.heap.size+2) B zb W A mo
 rul:LZ (w.heap.size+2) B zb W R ru
 trn:LZ (w.heap.size+2) B zb W C tr
section
variable {w W W':World} {xs zs:Array Value} {zb B:Nat} {A R C:Option Addr} {mo ru tr:List Value}
theorem MZ.step (h:MZ w xs zb B zs A R C mo ru tr W) (ho:W'.os=W.os) (ht:W'.tape=W.tape) (hu:W'.output=W.output) (hs:W.heap.size<=W'.heap.size) (hb:∀k,k<B->k≠zb->W'.heap[k]? =W.heap[k]?) {zs':Array Value} (hz:W'.heap[zb]? =some (.cells zs' 69 (0,0))):MZ w xs zb B zs' A R C mo ru tr W':=by
 have h1:=h.lo;have h2:=h.hi;refine ⟨⟨dP h.x.1 hs,fun i=>(World.cell?_of_block (a:=⟨w.heap.size,i,none⟩) (hb _ (by show w.heap.size<B;omega) (by show w.heap.size≠zb;omega))).trans (h.x.2 i)⟩,(hb _ (by omega) (by omega)).trans h.res,hz,h.lo,h.hi,Nat.le_trans h.sz hs,?_,h.mon.aK fun k _=>hb k,h.rul.aK fun k _=>hb k,h.trn.aK fun k _=>hb k⟩;exact ⟨ho.trans h.up.os,ht.trans h.up.tape,hu.trans h.up.output,Nat.le_trans h.up.size hs,fun k hk=>(hb k (by omega) (by omega)).trans (h.up.block k hk)⟩
theorem MZ.grow (h:MZ w xs zb B zs A R C mo ru tr W) (hb:Below W.heap.size W W'):MZ w xs zb B zs A R C mo ru tr W':=
 h.step hb.os hb.tape hb.output hb.size (fun k hk _=>hb.block k (dP hk h.sz)) ((hb.block _ (dP h.hi h.sz)).trans h.z)
theorem MZ.store (h:MZ w xs zb B zs A R C mo ru tr W) (o:Nat) (v:Value):MZ w xs zb B (zs.setIfInBounds o v) A R C mo ru tr (W.setCell ⟨zb,o,none⟩ v):=
 h.step (W':=W.setCell ⟨zb,o,none⟩ v) rfl rfl rfl (by simp [World.setCell]) (fun k _ hk=>heap_setCell_other W ⟨zb,o,none⟩ k v hk) (heap_setCell_same W zb o _ _ _ h.z)
theorem MZ.grown (h:MZ w xs zb B zs A R C mo ru tr W) {row:Option Nat} (hg:W.grownBy W' row) (hr:∀g,row=some g->B<=g):MZ w xs zb B zs A R C mo ru tr W':=
 have hh:=h.hi;have hz:=h.sz
 h.step hg.os hg.tape hg.output hg.size (fun k hk _=>hg.block k (by omega) (fun e=>by have:=hr k e.symm;omega)) ((hg.block _ (by omega) (fun e=>by have:=hr zb e.symm;omega)).trans h.z)
theorem MZ.drew (h:MZ w xs zb B zs A R C mo ru tr W):MZ w xs zb B zs A R C mo ru tr W.drew:=h.grow (Below.refl _ W).drew
theorem MZ.cell (h:MZ w xs zb B zs A R C mo ru tr W) (i:Nat):W.cell? ⟨zb,i,none⟩=zs[i]? :=cell_of_row _ _ i _ _ _ h.z
theorem MZ.fZ (h:MZ w xs zb B zs A R C mo ru tr W) (i:Nat):W.frozen? ⟨zb,i,none⟩=false:=frozen_of_row _ _ i _ _ h.z
theorem MZ.done (h:MZ w xs zb B zs A R C mo ru tr W) (vs:Array Value):aA (W.setRow (w.heap.size+1) vs) (W.setRow (w.heap.size+1) vs).heap.size A mo/\aA (W.setRow (w.heap.size+1) vs) (W.setRow (w.heap.size+1) vs).heap.size R ru/\aA (W.setRow (w.heap.size+1) vs) (W.setRow (w.heap.size+1) vs).heap.size C tr/\Below w.heap.size w (W.setRow (w.heap.size+1) vs):=by
 have e:∀k,w.heap.size+2<=k->k<B->k≠zb->(W.setRow (w.heap.size+1) vs).heap[k]? =W.heap[k]? :=fun k hk _ _=>setRow_other _ _ k _ (by omega);have hs:B<=(W.setRow (w.heap.size+1) vs).heap.size:=by simpa [World.setRow] using h.sz
 exact ⟨(h.mon.aK e).at hs,(h.rul.aK e).at hs,(h.trn.aK e).at hs,below_setRow h.up (by omega) _⟩
theorem MZ.zlt (h:MZ w xs zb B zs A R C mo ru tr W):zb<W.heap.size:=dP h.hi h.sz
end
section
variable {P:Program} {ops:Array Oper} {Q:Exit->Act->World->Prop} {a:Act} {w:World} {rest:List Oper} {d:Option Tmp} {t:TypeId} {pos:String} {af:Array Edge} {g:Option (Nat×Bool)}
theorem dW (ty:TypeId) {x y:Operand} (h:wpList P ops Q (⟨d, .store ty x y,t,pos,af,g⟩::rest) a w):wpList P ops Q (⟨d, .store ty x y,t,pos,af,g⟩::rest) a w:=h
theorem eF (ty:TypeId) {x:Operand} (h:wpList P ops Q (⟨d, .load ty x,t,pos,af,g⟩::rest) a w):wpList P ops Q (⟨d, .load ty x,t,pos,af,g⟩::rest) a w:=h
end
theorem P9 {B g:Nat} {w W:World} {cs:Array Value} (h:Below B w W) (hg:B<=g):Below B w (W.setRow g cs):=below_setRow h hg _
structure M0 (w:World) (xs:Array Value) (W:World):Prop where
 x:Row W w.heap.size xs
 res:W.heap[w.heap.size+1]? =some (.cells iH 69 (0,0))
 up:Below w.heap.size w W
theorem M0.start (w:World) (xs:Array Value) (t:TypeId):M0 w xs ((w.alloc (.cells xs t)).alloc (.cells iH 69)):=
 ⟨(Row.new w xs t).keep (ag _ _),heap_alloc2_new w _ _,ah (ag w _) (ag _ _)⟩
theorem M0.grow {w W W':World} {xs:Array Value} (h:M0 w xs W) (hb:Below W.heap.size W W'):M0 w xs W':=
 ⟨h.x.keep hb,(hb.block _ (lu h.res)).trans h.res,ah h.up hb⟩
theorem M0.zone {w W:World} {xs cs zs:Array Value} (h:M0 w xs W) (t:TypeId) (mo:List Value) (hmo:cs.toList=mo):
  MZ w xs (W.heap.size+1) (W.heap.size+2) zs (some ⟨W.heap.size,0,none⟩) none none mo [] [] (((W.alloc (.cells cs t)).alloc (.cells iH 69)).setRow (W.heap.size+1) zs):=by
 have hlt:=lu h.res;have hh:((W.alloc (.cells cs t)).alloc (.cells iH 69)).heap[W.heap.size+1]? =some (.cells iH 69 (0,0)):=heap_alloc2_new W _ _;have hb:Below W.heap.size W (((W.alloc (.cells cs t)).alloc (.cells iH 69)).setRow (W.heap.size+1) zs):=P9 (ah (ag W _) (ag _ _)) (by omega);refine ⟨h.x.keep hb,(hb.block _ hlt).trans h.res,setRow_heap _ _ _ _ _ _ hh,by omega,by omega,by simp [World.setRow],ah h.up hb,?_, .nil, .nil⟩;refine .inr ⟨W.heap.size,0,rfl,by omega,by omega,by omega,fun j u hu=>?_⟩;rw [Nat.zero_add];have h1:(((W.alloc (.cells cs t)).alloc (.cells iH 69)).setRow (W.heap.size+1) zs).heap[W.heap.size]? =some (.cells cs t (0,0)):=(setRow_other _ _ _ _ (by omega)).trans (heap_alloc2_old W _ _);rw [cell_of_row _ _ j _ _ _ h1,<-Array.getElem?_toList,hmo];exact hu
theorem MZ.relay {w W:World} {xs zs:Array Value} {zb B:Nat} {A R C:Option Addr} {mo ru:List Value} (h:MZ w xs zb B zs A R C mo ru [] W) (cs1 cs2:Array Value) (t1 t2:TypeId) (l1 l2:List Value) (e1:cs1.toList=l1) (e2:cs2.toList=l2):
  MZ w xs zb (W.heap.size+2) zs (some ⟨W.heap.size,0,none⟩) (some ⟨W.heap.size+1,0,none⟩) none l1 l2 [] ((W.alloc (.cells cs1 t1)).alloc (.cells cs2 t2)):=by
 have hb:Below W.heap.size W ((W.alloc (.cells cs1 t1)).alloc (.cells cs2 t2)):=ah (ag W _) (ag _ _);have hg:=h.grow hb;have hz:=h.zlt;have hlo:=h.lo;refine ⟨hg.x,hg.res,hg.z,hg.lo,by omega,by simp,hg.up, .inr ⟨W.heap.size,0,rfl,by omega,by omega,by omega,fun j u hu=>?_⟩, .inr ⟨W.heap.size+1,0,rfl,by omega,by omega,by omega,fun j u hu=>?_⟩, .nil⟩
 ·rw [Nat.zero_add,cell_of_row _ _ j _ _ _ (heap_alloc2_old W _ _),<-Array.getElem?_toList,e1];exact hu
 ·rw [Nat.zero_add,cell_of_row _ _ j _ _ _ (heap_alloc2_new W _ _),<-Array.getElem?_toList,e2];exact hu
theorem Ye (x:EI):mD x=x.dS.length\/mD x=x.iI.length\/mD x=3:=by
 have e:mD x=min (min x.dS.length x.iI.length) 3:=rfl;omega
def TlRel (w:World) (x:EI) (xs:Array Value) (zb B:Nat) (zs:Value->Array Value) (A R:Option Addr) (mo ru:List Value) (cnt:Nat) (a i:Value) (wr:World):Prop:=
 ∃(k cc:Nat) (C:Option Addr),k<=cnt/\a= .int .i64 (xm x.dS k)/\i= .int .i64 k/\iO B wr C k cc (mF x.dS x.iI k)/\MZ w xs zb B (zs (.slice C k cc)) A R none mo ru [] wr
theorem zf {w W:World} {A:Option Addr} {bs:List UInt8} (h:aA w w.heap.size A (bs.map Extern.Stop.cell)) (hb:Below w.heap.size w W) (h0:0<bs.length):∃b off,A=some ⟨b,off,none⟩/\b<w.heap.size/\∀k,k<bs.length->W.cell? ⟨b,off+k,none⟩=some (.int .u8 ((bs[k]?.getD 0).toNat:Int)):=by
 obtain ⟨b,off,e,hb1,hc⟩:=h.there (by rw [List.length_map];exact h0);refine ⟨b,off,e,hb1,fun k hk=>?_⟩;rw [hb.cell (p:=⟨b,off+k,none⟩) hb1];exact hc k _ (by rw [List.getElem?_map,bK hk];rfl)
theorem MW (g o:List UInt8) (k:Nat):(mF g o (k+1)).flatMap Tr.cells=(mF g o k).flatMap Tr.cells++ [I (xm g (k+1)),I (nU (o[k]?.getD 0).toNat)]:=by
 simp [mF,Tr.cells]
theorem iO.Z8 {lo n c zb o:Nat} {w:World} {A:Option Addr} {ts:List Tr} (h:iO lo w A n c ts) (hz:zb<lo) (v:Value):iO lo (w.setCell ⟨zb,o,none⟩ v) A n c ts:=ownsRow_setCell_below (a:=⟨zb,o,none⟩) h hz v
theorem own_base {w:World} {base e size n:Nat} {v:Value} {xs:List Value} (h:w.ownsRow base e size v n xs):∀g,v.ownBlock=some g->base<=g:=fun g hg=>(World.ownsRow.lt h g hg).1
theorem uw {v:Value} {b:Nat} (h:∀g,v.ownBlock=some g->g<b):some b≠v.ownBlock:=fun e=>by have:=h b e.symm;omega
theorem Row.grown {w w':World} {b:Nat} {cs:Array Value} {row:Option Nat} (h:Row w b cs) (hg:w.grownBy w' row) (hn:some b≠row):Row w' b cs:=
 ⟨dP h.1 hg.size,fun i=>(World.cell?_of_block (a:=⟨b,i,none⟩) (hg.block b h.1 hn)).trans (h.2 i)⟩
def xg (yv:Nat) (a b c d:Value) (w:World):Prop:=w.cell? ⟨yv,0,none⟩=some a/\w.cell? ⟨yv,1,none⟩=some b/\w.cell? ⟨yv,2,none⟩=some c/\w.cell? ⟨yv,3,none⟩=some d
theorem xg.of {yv:Nat} {a b c d:Value} {w:World} (h:Row w yv #[a,b,c,d]):xg yv a b c d w:=⟨h.2 0,h.2 1,h.2 2,h.2 3⟩
theorem MZ.next {w W:World} {xs zs:Array Value} {zb B n c:Nat} {A R C:Option Addr} {mo ru:List Value} {ts:List Tr} (h:MZ w xs zb B zs A R none mo ru [] W) (ho:iO B W C n c ts) (hl:w.heap.size+2<=B):MZ w xs zb W.heap.size zs A R C mo ru (ts.flatMap Tr.cells) W:=
 ⟨h.x,h.res,h.z,h.lo,h.zlt,Nat.le_refl _,h.up,h.mon.more h.sz,h.rul.more h.sz,LZ.dR ho hl h.hi (Nat.le_refl _)⟩
end Go.Proofs.YtbaehbbonkljpaaGreatDoor
