/- The texts Kg, Kh, Kq, Oa, Od, Se, Ue, Sf, in this order. -/
import Derived.Test.YtbaehbbonkljpaaGreatR00
import Derived.Test.YtbaehbbonkljpaaGreatR01
import Derived.Test.YtbaehbbonkljpaaGreatR04
import Derived.Test.YtbaehbbonkljpaaGreatR05
import Derived.Test.YtbaehbbonkljpaaGreatR09
import Derived.Test.YtbaehbbonkljpaaGreatR10
import Derived.Test.YtbaehbbonkljpaaGreatR12
import Derived.Test.YtbaehbbonkljpaaGreatR13
import Derived.Test.YtbaehbbonkljpaaGreatR15
import Derived.Test.YtbaehbbonkljpaaGreatR17
set_option maxRecDepth 10000
set_option maxHeartbeats 8000000
namespace Go.Proofs.YtbaehbbonkljpaaGreat
open Go Go.RowKit
def ZA:List Int:= [0,60,120, -90,30,1080, -1080,90]
def mM (n:Nat):Int:=ZA.getD (n%8) 0
theorem BA (n:Nat): -1080≤mM n∧mM n≤1080:=by
 have h:n%8<8:=Nat.mod_lt _ (by omega);unfold mM;generalize n%8=k at h
 match k,h with
 |0,_=>decide
 |1,_=>decide
 |2,_=>decide
 |3,_=>decide
 |4,_=>decide
 |5,_=>decide
 |6,_=>decide
 |7,_=>decide
theorem wO (n:Nat) (w:World) (hn:n<256):Calls Tryz.prog 61 #[.int .u8 n] w (Gives (I (mM n)) w):=by
 have hm:Int.tmod (n:Int) 8=((n%8:Nat):Int):=by rw [Int.tmod_eq_emod_of_nonneg (by omega)];omega
 have h:n%8<8:=Nat.mod_lt _ (by omega);have HS:Hid (mM n=ZA.getD (n%8) 0):=ae rfl;obtain ⟨V,hV⟩:∃v,mM n=v:=⟨_,rfl⟩;rw [hV] at HS ⊢;clear hV;generalize n%8=k at hm h HS;have hk:k=0∨k=1∨k=2∨k=3∨k=4∨k=5∨k=6∨k=7:=by omega
 rcases hk with rfl|rfl|rfl|rfl|rfl|rfl|rfl|rfl
 all_goals
  push_cast at hm
  go_enter Tryz.func61,Tryz.ntmps61;go_wp2_with fail;go_ret;exact ⟨by rw [HS.out];rfl,ag w _⟩
structure DW where
 st:UInt8
 dU:List UInt8
 iy:List UInt8
 bh:UInt8
 a0:UInt8
 a1:UInt8
 a2:UInt8
 a3:UInt8
 b0:UInt8
 b1:UInt8
 b2:UInt8
 b3:UInt8
 cal:UInt8
 rules:Bool
def vZ (dU:List UInt8):Nat→Int
 |0=>0
 |k+1=>vZ dU k+2160+20*((dU[k]?.getD 0).toNat:Int)
def lJ (dU iy:List UInt8):Nat→List Tr
 |0=> []
 |k+1=>lJ dU iy k++ [⟨vZ dU (k+1),mM (iy[k]?.getD 0).toNat⟩]
def lI (x:DW):Nat:=Nat.min (Nat.min x.dU.length x.iy.length) 3
def sO (n:UInt8):Cal:=if n.toNat%2=1 then ⟨5,[7,8],1,[⟨2,((n.toNat / 2%2:Nat):Int),true⟩]⟩ else ⟨2,[7,6], -1,[]⟩
def oJ (k:Int) (a b c d:UInt8):Yr:=⟨1+k,if d.toNat%2=1 then 5 else 1,((a.toNat%3:Nat):Int),((b.toNat*5:Nat):Int),mM (c.toNat%5)⟩
def MW (x:DW):Zn:=⟨sO x.cal,mM x.st.toNat,lJ x.dU x.iy (lI x),vZ x.dU (lI x)+2160+20*(x.bh.toNat:Int),[]⟩
def Ym (x:DW):Zn:= {MW x with ax:= [oJ 0 x.a0 x.a1 x.a2 x.a3,oJ 1 x.b0 x.b1 x.b2 x.b3]}
def jq (x:DW):Zn:=if x.rules=true∧uA (Ym x)=0 then Ym x else MW x
theorem sQ (g o:List UInt8) (k:Nat):(lJ g o k).length=k:=by
 induction k with
 |zero=>rfl
 |succ k ih=>simp [lJ,ih]
theorem AZ (g o:List UInt8) (k:Nat):∀j,j<k→(lJ g o k)[j]? =some ⟨vZ g (j+1),mM (o[j]?.getD 0).toNat⟩:=by
 induction k with
 |zero=>intro j hj;omega
 |succ k ih=>
  intro j hj;unfold lJ;rcases Nat.lt_succ_iff_lt_or_eq.1 hj with h|rfl
  ·rw [List.getElem?_append_left (by rw [sQ];exact h)];exact ih j h
  ·rw [List.getElem?_append_right (by rw [sQ];exact Nat.le_refl _),sQ,Nat.sub_self];rfl
theorem gy (b:UInt8):b.toNat<256:=UInt8.toNat_lt b
theorem Ad (g:List UInt8) (k:Nat):vZ g k+2160≤vZ g (k+1)∧vZ g (k+1)≤vZ g k+7260:=by
 have h:(g[k]?.getD 0).toNat<256:=gy _;rw [show vZ g (k+1)=vZ g k+2160+20*((g[k]?.getD 0).toNat:Int) from rfl];omega
theorem EO (g:List UInt8):∀k:Nat,0≤vZ g k∧vZ g k≤7260*(k:Int):=by
 intro k
 induction k with
 |zero=>exact ⟨Int.le_refl _,by simp [vZ]⟩
 |succ k ih=>have:=Ad g k;omega
theorem Ru (g:List UInt8) (j k:Nat) (h:j≤k):vZ g j≤vZ g k:=by
 induction k with
 |zero=>rw [Nat.le_zero.1 h];exact Int.le_refl _
 |succ k ih=>
  rcases Nat.lt_or_eq_of_le h with h|rfl
  ·have:=Ad g k;have:=ih (by omega);omega
  ·exact Int.le_refl _
theorem NT (x:DW):lI x≤3∧lI x≤x.dU.length∧lI x≤x.iy.length:=by
 unfold lI;have h1:=Nat.min_le_right (Nat.min x.dU.length x.iy.length) 3;have h2:=Nat.min_le_left (Nat.min x.dU.length x.iy.length) 3;have h3:=Nat.min_le_left x.dU.length x.iy.length;have h4:=Nat.min_le_right x.dU.length x.iy.length;exact ⟨h1,Nat.le_trans h2 h3,Nat.le_trans h2 h4⟩
theorem mcal_S (n:UInt8):ED (sO n):=by
 unfold sO;split
 ·refine ⟨by simp,rfl,by simp,by simp,by simp,by simp,?_⟩;intro r hr;rw [List.mem_singleton.1 hr];have:n.toNat / 2%2<2:=Nat.mod_lt _ (by omega);exact ⟨rfl,by simp only;omega,by simp only;omega⟩
 ·exact ⟨by simp,rfl,by simp,by simp,by simp,by simp,by simp⟩
theorem Zx (k:Int) (hk:k=0∨k=1) (a b c d:UInt8):YrS (oJ k a b c d):=by
 have h1:a.toNat%3<3:=Nat.mod_lt _ (by omega);have h2:=gy b;refine ⟨by simp only [oJ];omega,?_,by simp only [oJ];omega,by simp only [oJ];omega,BA _⟩;simp only [oJ];split<;>omega
theorem U7 (x:DW):Gz (MW x):=by
 have hc:=NT x;have hb:=EO x.dU (lI x);have hy:=gy x.bh;have hl:(MW x).trans.length=lI x:=sQ _ _ _;refine ⟨mcal_S _,BA _,?_,by rw [hl];exact hc.1,?_,?_, .inl rfl⟩
 ·show 0≤vZ x.dU (lI x)+2160+20*(x.bh.toNat:Int)∧vZ x.dU (lI x)+2160+20*(x.bh.toNat:Int)≤1000000;omega
 ·intro t ht;obtain ⟨j,hj⟩:=List.getElem?_of_mem ht;have hjl:j<lI x:=by rw [←hl];exact (iT.1 hj).1
  have h:=AZ x.dU x.iy (lI x) j hjl;have h':(MW x).trans[j]? =(lJ x.dU x.iy (lI x))[j]? :=rfl;rw [h',h] at hj;injection hj with hj;subst hj;have h1:=EO x.dU (j+1);have h2:=Ru x.dU (j+1) (lI x) hjl;refine ⟨BA _,h1.1,?_⟩;show vZ x.dU (j+1)<vZ x.dU (lI x)+2160+20*(x.bh.toNat:Int);omega
 ·intro i hi;rw [hl] at hi;have h1:=AZ x.dU x.iy (lI x) i (by omega);have h2:=AZ x.dU x.iy (lI x) (i+1) hi;have e:(MW x).trans=lJ x.dU x.iy (lI x):=rfl;unfold gG;rw [e,h1,h2];have:=Ad x.dU (i+1);show vZ x.dU (i+1)+2160≤vZ x.dU (i+1+1);omega
theorem zn1_M (x:DW):Gz (Ym x):=by
 have h:=U7 x;exact ⟨h.cal,h.start,h.hor,h.Oq,h.tr,h.gap, .inr ⟨_,_,rfl,Zx 0 (.inl rfl) _ _ _ _,Zx 1 (.inr rfl) _ _ _ _⟩⟩
theorem TD (x:DW):Gz (jq x):=by
 unfold jq;split
 ·exact zn1_M x
 ·exact U7 x
theorem Gz.len {z:Zn} (h:Gz z):ni z:=by
 have h1:=h.cal.mo;have h2:=h.cal.ru;have h3:=h.Oq;refine ⟨by omega,by omega,by omega,?_⟩;rcases h.yr with e|⟨_,_,e,_,_⟩<;>rw [e]<;>simp
def lu (x:DW) (G O:Option Addr) (gc oc:Nat):Array Value:= #[Extern.Stop.cell x.st, .slice G x.dU.length gc, .slice O x.iy.length oc,Extern.Stop.cell x.bh,Extern.Stop.cell x.a0,Extern.Stop.cell x.a1,Extern.Stop.cell x.a2,Extern.Stop.cell x.a3,Extern.Stop.cell x.b0,Extern.Stop.cell x.b1,Extern.Stop.cell x.b2,Extern.Stop.cell x.b3,Extern.Stop.cell x.cal, .bool x.rules]
def LZ (lo B g:Nat) (w:World) (A:Option Addr) (cs:List Value):Prop:=
 cs.length=0∨∃b off,A=some ⟨b,off,none⟩∧lo≤b∧b<B∧b≠g∧∀j u,cs[j]? =some u→w.cell? ⟨b,off+j,none⟩=some u
theorem LZ.aQ {lo B g:Nat} {w w':World} {A:Option Addr} {cs:List Value} (h:LZ lo B g w A cs) (hb:∀k,lo≤k→k<B→k≠g→w'.heap[k]? =w.heap[k]?):LZ lo B g w' A cs:=by
 rcases h with h|⟨b,off,h1,h0,h2,h4,h5⟩
 ·exact .inl h
 ·exact .inr ⟨b,off,h1,h0,h2,h4,fun j u hu=>(World.cell?_of_block (a:=⟨b,off+j,none⟩) (hb b h0 h2 h4)).trans (h5 j u hu)⟩
theorem LZ.more {lo B B' g:Nat} {w:World} {A:Option Addr} {cs:List Value} (h:LZ lo B g w A cs) (hB:B≤B'):LZ lo B' g w A cs:=by
 rcases h with h|⟨b,off,h1,h0,h2,h4,h5⟩
 ·exact .inl h
 ·exact .inr ⟨b,off,h1,h0,by omega,h4,h5⟩
theorem LZ.at {lo B g:Nat} {w:World} {A:Option Addr} {cs:List Value} (h:LZ lo B g w A cs) (hB:B≤w.heap.size):az w w.heap.size A cs:=by
 rcases h with h|⟨b,off,h1,h0,h2,h4,h5⟩
 ·exact .inl h
 ·exact .inr ⟨b,off,h1,by omega,h5⟩
theorem LZ.nil {lo B g:Nat} {w:World} {A:Option Addr}:LZ lo B g w A []:= .inl rfl
theorem LZ.dO {lo g e size n c B base:Nat} {A:Option Addr} {w:World} {cs:List Value} (h:w.ownsRow base e size (.slice A n c) n cs) (h0:lo≤base) (hg:g<base) (hB:w.heap.size≤B):LZ lo B g w A cs:=by
 rcases h.2 with ⟨hv,hn⟩|⟨b,cap,cur,hv,hb,hh,_⟩
 ·refine .inl ?_;rw [h.1,hn,Nat.zero_mul]
 ·injection hv with h1 _ _;subst h1;have hl:=(bK.1 hh).1;exact .inr ⟨b,0,rfl,by omega,by omega,by omega,fun j u hu=>by rw [Nat.zero_add,←addr_add];exact h.cells (g:=b) rfl j u hu⟩
structure MZ (w:World) (xs:Array Value) (zb B:Nat) (zs:Array Value) (A R C:Option Addr) (mo ru tr:List Value) (W:World):Prop where
 x:Row W w.heap.size xs
 res:W.heap[w.heap.size+1]? =some (.cells iF 54 (0,0))
 z:W.heap[zb]? =some (.cells zs 54 (0,0))
 lo:w.heap.size+2≤zb
 hi:zb<B
 sz:B≤W.heap.size
 up:Below w.heap.size w W
 mon:LZ (w.heap.size+2) B zb W A mo
 rul:LZ (w.heap.size+2) B zb W R ru
 trn:LZ (w.heap.size+2) B zb W C tr
section
variable {w W W':World} {xs zs:Array Value} {zb B:Nat} {A R C:Option Addr} {mo ru tr:List Value}
theorem MZ.step (h:MZ w xs zb B zs A R C mo ru tr W) (ho:W'.os=W.os) (ht:W'.tape=W.tape) (hu:W'.output=W.output) (hs:W.heap.size≤W'.heap.size) (hb:∀k,k<B→k≠zb→W'.heap[k]? =W.heap[k]?) {zs':Array Value} (hz:W'.heap[zb]? =some (.cells zs' 54 (0,0))):MZ w xs zb B zs' A R C mo ru tr W':=by
 have h1:=h.lo;have h2:=h.hi;refine ⟨⟨dW h.x.1 hs,fun i=>(World.cell?_of_block (a:=⟨w.heap.size,i,none⟩) (hb _ (by show w.heap.size<B;omega) (by show w.heap.size≠zb;omega))).trans (h.x.2 i)⟩,(hb _ (by omega) (by omega)).trans h.res,hz,h.lo,h.hi,Nat.le_trans h.sz hs,?_,h.mon.aQ fun k _=>hb k,h.rul.aQ fun k _=>hb k,h.trn.aQ fun k _=>hb k⟩;exact ⟨ho.trans h.up.os,ht.trans h.up.tape,hu.trans h.up.output,Nat.le_trans h.up.size hs,fun k hk=>(hb k (by omega) (by omega)).trans (h.up.block k hk)⟩
theorem MZ.grow (h:MZ w xs zb B zs A R C mo ru tr W) (hb:Below W.heap.size W W'):MZ w xs zb B zs A R C mo ru tr W':=
 h.step hb.os hb.tape hb.output hb.size (fun k hk _=>hb.block k (dW hk h.sz)) ((hb.block _ (dW h.hi h.sz)).trans h.z)
theorem MZ.store (h:MZ w xs zb B zs A R C mo ru tr W) (o:Nat) (v:Value):MZ w xs zb B (zs.setIfInBounds o v) A R C mo ru tr (W.setCell ⟨zb,o,none⟩ v):=
 h.step (W':=W.setCell ⟨zb,o,none⟩ v) rfl rfl rfl (by simp [World.setCell]) (fun k _ hk=>heap_setCell_other W ⟨zb,o,none⟩ k v hk) (heap_setCell_same W zb o _ _ _ h.z)
theorem MZ.grown (h:MZ w xs zb B zs A R C mo ru tr W) {row:Option Nat} (hg:W.grownBy W' row) (hr:∀g,row=some g→B≤g):MZ w xs zb B zs A R C mo ru tr W':=
 have hh:=h.hi;have hz:=h.sz
 h.step hg.os hg.tape hg.output hg.size (fun k hk _=>hg.block k (by omega) (fun e=>by have:=hr k e.symm;omega)) ((hg.block _ (by omega) (fun e=>by have:=hr zb e.symm;omega)).trans h.z)
theorem MZ.drew (h:MZ w xs zb B zs A R C mo ru tr W):MZ w xs zb B zs A R C mo ru tr W.drew:=h.grow (Below.refl _ W).drew
theorem MZ.cell (h:MZ w xs zb B zs A R C mo ru tr W) (i:Nat):W.cell? ⟨zb,i,none⟩=zs[i]? :=cell_of_row _ _ i _ _ _ h.z
theorem MZ.eY (h:MZ w xs zb B zs A R C mo ru tr W) (i:Nat):W.frozen? ⟨zb,i,none⟩=false:=frozen_of_row _ _ i _ _ h.z
theorem MZ.done (h:MZ w xs zb B zs A R C mo ru tr W) (vs:Array Value):az (W.setRow (w.heap.size+1) vs) (W.setRow (w.heap.size+1) vs).heap.size A mo∧az (W.setRow (w.heap.size+1) vs) (W.setRow (w.heap.size+1) vs).heap.size R ru∧az (W.setRow (w.heap.size+1) vs) (W.setRow (w.heap.size+1) vs).heap.size C tr∧Below w.heap.size w (W.setRow (w.heap.size+1) vs):=by
 have e:∀k,w.heap.size+2≤k→k<B→k≠zb→(W.setRow (w.heap.size+1) vs).heap[k]? =W.heap[k]? :=fun k hk _ _=>setRow_other _ _ k _ (by omega);have hs:B≤(W.setRow (w.heap.size+1) vs).heap.size:=by simpa [World.setRow] using h.sz
 exact ⟨(h.mon.aQ e).at hs,(h.rul.aQ e).at hs,(h.trn.aQ e).at hs,below_setRow h.up (by omega) _⟩
theorem MZ.ZG (h:MZ w xs zb B zs A R C mo ru tr W):zb<W.heap.size:=dW h.hi h.sz
end
section
variable {P:Program} {ops:Array Oper} {Q:Exit→Act→World→Prop} {a:Act} {w:World} {rest:List Oper} {d:Option Tmp} {t:TypeId} {pos:String} {af:Array Edge} {g:Option (Nat×Bool)}
theorem dS (ty:TypeId) {x y:Operand} (h:wpList P ops Q (⟨d, .store ty x y,t,pos,af,g⟩::rest) a w):wpList P ops Q (⟨d, .store ty x y,t,pos,af,g⟩::rest) a w:=h
theorem gz (ty:TypeId) {x:Operand} (h:wpList P ops Q (⟨d, .load ty x,t,pos,af,g⟩::rest) a w):wpList P ops Q (⟨d, .load ty x,t,pos,af,g⟩::rest) a w:=h
end
theorem O4 {B g:Nat} {w W:World} {cs:Array Value} (h:Below B w W) (hg:B≤g):Below B w (W.setRow g cs):=below_setRow h hg _
structure M0 (w:World) (xs:Array Value) (W:World):Prop where
 x:Row W w.heap.size xs
 res:W.heap[w.heap.size+1]? =some (.cells iF 54 (0,0))
 up:Below w.heap.size w W
theorem M0.start (w:World) (xs:Array Value) (t:TypeId):M0 w xs ((w.alloc (.cells xs t)).alloc (.cells iF 54)):=
 ⟨(Row.new w xs t).keep (ag _ _),heap_alloc2_new w _ _,ai (ag w _) (ag _ _)⟩
theorem M0.grow {w W W':World} {xs:Array Value} (h:M0 w xs W) (hb:Below W.heap.size W W'):M0 w xs W':=
 ⟨h.x.keep hb,(hb.block _ (kU h.res)).trans h.res,ai h.up hb⟩
theorem M0.zone {w W:World} {xs cs zs:Array Value} (h:M0 w xs W) (t:TypeId) (mo:List Value) (hmo:cs.toList=mo):
  MZ w xs (W.heap.size+1) (W.heap.size+2) zs (some ⟨W.heap.size,0,none⟩) none none mo [] [] (((W.alloc (.cells cs t)).alloc (.cells iF 54)).setRow (W.heap.size+1) zs):=by
 have hlt:=kU h.res;have hh:((W.alloc (.cells cs t)).alloc (.cells iF 54)).heap[W.heap.size+1]? =some (.cells iF 54 (0,0)):=heap_alloc2_new W _ _;have hb:Below W.heap.size W (((W.alloc (.cells cs t)).alloc (.cells iF 54)).setRow (W.heap.size+1) zs):=O4 (ai (ag W _) (ag _ _)) (by omega);refine ⟨h.x.keep hb,(hb.block _ hlt).trans h.res,setRow_heap _ _ _ _ _ _ hh,by omega,by omega,by simp [World.setRow],ai h.up hb,?_, .nil, .nil⟩;refine .inr ⟨W.heap.size,0,rfl,by omega,by omega,by omega,fun j u hu=>?_⟩;rw [Nat.zero_add];have h1:(((W.alloc (.cells cs t)).alloc (.cells iF 54)).setRow (W.heap.size+1) zs).heap[W.heap.size]? =some (.cells cs t (0,0)):=(setRow_other _ _ _ _ (by omega)).trans (heap_alloc2_old W _ _);rw [cell_of_row _ _ j _ _ _ h1,←Array.getElem?_toList,hmo];exact hu
theorem MZ.relay {w W:World} {xs zs:Array Value} {zb B:Nat} {A R C:Option Addr} {mo ru:List Value} (h:MZ w xs zb B zs A R C mo ru [] W) (cs1 cs2:Array Value) (t1 t2:TypeId) (l1 l2:List Value) (e1:cs1.toList=l1) (e2:cs2.toList=l2):
  MZ w xs zb (W.heap.size+2) zs (some ⟨W.heap.size,0,none⟩) (some ⟨W.heap.size+1,0,none⟩) none l1 l2 [] ((W.alloc (.cells cs1 t1)).alloc (.cells cs2 t2)):=by
 have hb:Below W.heap.size W ((W.alloc (.cells cs1 t1)).alloc (.cells cs2 t2)):=ai (ag W _) (ag _ _);have hg:=h.grow hb;have hz:=h.ZG;have hlo:=h.lo;refine ⟨hg.x,hg.res,hg.z,hg.lo,by omega,by simp,hg.up, .inr ⟨W.heap.size,0,rfl,by omega,by omega,by omega,fun j u hu=>?_⟩, .inr ⟨W.heap.size+1,0,rfl,by omega,by omega,by omega,fun j u hu=>?_⟩, .nil⟩
 ·rw [Nat.zero_add,cell_of_row _ _ j _ _ _ (heap_alloc2_old W _ _),←Array.getElem?_toList,e1];exact hu
 ·rw [Nat.zero_add,cell_of_row _ _ j _ _ _ (heap_alloc2_new W _ _),←Array.getElem?_toList,e2];exact hu
theorem Xy (x:DW):lI x=x.dU.length∨lI x=x.iy.length∨lI x=3:=by
 have e:lI x=min (min x.dU.length x.iy.length) 3:=rfl;omega
def TlRel (w:World) (x:DW) (xs:Array Value) (zb B:Nat) (zs:Value→Array Value) (A R:Option Addr) (mo ru:List Value) (cnt:Nat) (a i:Value) (wr:World):Prop:=
 ∃(k cc:Nat) (C:Option Addr),k≤cnt∧a= .int .i64 (vZ x.dU k)∧i= .int .i64 k∧iG B wr C k cc (lJ x.dU x.iy k)∧MZ w xs zb B (zs (.slice C k cc)) A R none mo ru [] wr
theorem xZ {w W:World} {A:Option Addr} {bs:List UInt8} (h:az w w.heap.size A (bs.map Extern.Stop.cell)) (hb:Below w.heap.size w W) (h0:0<bs.length):∃b off,A=some ⟨b,off,none⟩∧b<w.heap.size∧∀k,k<bs.length→W.cell? ⟨b,off+k,none⟩=some (.int .u8 ((bs[k]?.getD 0).toNat:Int)):=by
 obtain ⟨b,off,e,hb1,hc⟩:=h.there (by rw [List.length_map];exact h0);refine ⟨b,off,e,hb1,fun k hk=>?_⟩;rw [hb.cell (p:=⟨b,off+k,none⟩) hb1];exact hc k _ (by rw [List.getElem?_map,bZ hk];rfl)
theorem Lm (g o:List UInt8) (k:Nat):(lJ g o (k+1)).flatMap Tr.cells=(lJ g o k).flatMap Tr.cells++ [I (vZ g (k+1)),I (mM (o[k]?.getD 0).toNat)]:=by
 simp [lJ,Tr.cells]
theorem iG.Zf {lo n c zb o:Nat} {w:World} {A:Option Addr} {ts:List Tr} (h:iG lo w A n c ts) (hz:zb<lo) (v:Value):iG lo (w.setCell ⟨zb,o,none⟩ v) A n c ts:=ownsRow_setCell_below (a:=⟨zb,o,none⟩) h hz v
theorem own_base {w:World} {base e size n:Nat} {v:Value} {xs:List Value} (h:w.ownsRow base e size v n xs):∀g,v.ownBlock=some g→base≤g:=fun g hg=>(World.ownsRow.lt h g hg).1
theorem sS {v:Value} {b:Nat} (h:∀g,v.ownBlock=some g→g<b):some b≠v.ownBlock:=fun e=>by have:=h b e.symm;omega
theorem Row.grown {w w':World} {b:Nat} {cs:Array Value} {row:Option Nat} (h:Row w b cs) (hg:w.grownBy w' row) (hn:some b≠row):Row w' b cs:=
 ⟨dW h.1 hg.size,fun i=>(World.cell?_of_block (a:=⟨b,i,none⟩) (hg.block b h.1 hn)).trans (h.2 i)⟩
def vV (yv:Nat) (a b c d:Value) (w:World):Prop:=w.cell? ⟨yv,0,none⟩=some a∧w.cell? ⟨yv,1,none⟩=some b∧w.cell? ⟨yv,2,none⟩=some c∧w.cell? ⟨yv,3,none⟩=some d
theorem vV.of {yv:Nat} {a b c d:Value} {w:World} (h:Row w yv #[a,b,c,d]):vV yv a b c d w:=⟨h.2 0,h.2 1,h.2 2,h.2 3⟩
theorem MZ.next {w W:World} {xs zs:Array Value} {zb B n c:Nat} {A R C:Option Addr} {mo ru:List Value} {ts:List Tr} (h:MZ w xs zb B zs A R none mo ru [] W) (ho:iG B W C n c ts) (hl:w.heap.size+2≤B):MZ w xs zb W.heap.size zs A R C mo ru (ts.flatMap Tr.cells) W:=
 ⟨h.x,h.res,h.z,h.lo,h.ZG,Nat.le_refl _,h.up,h.mon.more h.sz,h.rul.more h.sz,LZ.dO ho hl h.hi (Nat.le_refl _)⟩
def aS (k:Nat):ByteArray:=⟨#[122,(97+k).toUInt8]⟩
theorem Cb (k:Nat):(aS k).size=2:=rfl
def Bl:Nat→ByteArray
 |0=>⟨#[]⟩
 |k+1=>aS k
theorem U9:∀k,k<3→(Op.bytesLess (aS k).toList (Bl k).toList=false∧((aS k).toList==(Bl k).toList)=false):=by decide+kernel
theorem ED.good {c:Cal} (hc:ED c):eH c:=by
 have h1:=hc.ep;have h2:=hc.mo;have h3:=hc.le;have h4:=hc.ru;refine ⟨by omega,by omega,by omega,by omega,hc.nl,fun m hm=>by have:=hc.all m hm;omega,?_⟩;have h5:=hc.rl;cases hr:c.rules with
 |nil=>rfl
 |cons r rs=>
  rw [hr] at h4 h5;have hn:rs= []:=by
   cases rs with
   |nil=>rfl
   |cons _ _=>simp at h4
  subst hn;obtain ⟨e1,e2,e3⟩:=h5 r List.mem_cons_self;unfold jO;rw [if_neg (by omega),e1];rfl
theorem Yx {z:Zn} (h:Gz z) (hy:z.ax= []):uA z=0:=by
 have e:rP z= []:=by
  unfold rP sU;rw [hy];simp only [List.mergeSort_nil]
 unfold uA;rw [if_neg (by have:=h.Oq;omega),if_pos];refine FH ⟨by have:=h.Oq;omega,h.cal.good,h.start,by have:=h.hor;omega,fun i hi=>?_, .inl hy,?_,?_⟩
 ·obtain ⟨h1,h2,h3⟩:=h.at_bd i hi;have h4:=h.hor;refine ⟨h1,by omega,h3,?_⟩;cases i with
  |zero=>exact .inl rfl
  |succ j=>
   have h5:=h.gap j hi;exact .inr (by rw [Nat.add_sub_cancel];omega)
 ·rw [e];rfl
 ·intro _ h2;rw [e] at h2;exact absurd rfl h2
structure ZnV0 (z:Zn):Prop where
 made:Gz z
 ok:uA z=0
theorem PD (x:DW):ZnV0 (jq x):=by
 refine ⟨TD x,?_⟩;unfold jq;split
 ·rename_i h;exact h.2
 ·exact Yx (U7 x) rfl
theorem Gz.z14 {z:Zn} (h:Gz z):Z14 z:=by
 obtain ⟨hc,hs,hh,hl,ht,_,hy⟩:=h;refine ⟨⟨⟨by have:=hc.ep;omega,by have:=hc.ep;omega⟩,by rw [hc.mo];omega,fun x hx=>⟨by have:=hc.all x hx;omega,by have:=hc.all x hx;omega⟩,⟨hc.le.1,by have:=hc.le;omega⟩,by have:=hc.ru;omega,fun r hr=>?_⟩,⟨by omega,by omega⟩,by omega,fun x hx=>?_,⟨by omega,by omega⟩,?_,fun y hm=>?_⟩
 ·obtain ⟨h1,h2,h3⟩:=hc.rl r hr;exact ⟨⟨by omega,by omega⟩,⟨by omega,by omega⟩⟩
 ·obtain ⟨⟨h1,h2⟩,h3,h4⟩:=ht x hx;exact ⟨⟨by omega,by omega⟩,⟨by omega,by omega⟩⟩
 ·rcases hy with h|⟨r0,r1,h,_,_⟩<;>rw [h]<;>simp
 ·have hS:YrS y:=by
   rcases hy with h|⟨r0,r1,h,h0,h1⟩
   ·rw [h] at hm;cases hm
   ·rw [h] at hm;rcases List.mem_cons.1 hm with rfl|hm
    ·exact h0
    ·rcases List.mem_cons.1 hm with rfl|hm
     ·exact h1
     ·cases hm
  exact ⟨by have:=hS.mo;constructor<;>omega,by have:=hS.wk;constructor<;>omega,by have:=hS.wd;constructor<;>omega,by have:=hS.mi;constructor<;>omega,by have:=hS.of;constructor<;>omega⟩
theorem U8 (z:Zn) (h:Gz z):(Gt z).length≤100:=by
 have g1:=eX (le · 1) z.cal.aj 1 z.cal.aj.length (fun _=>aC _ _);have g2:=eX TA z.cal.rules 5 z.cal.rules.length zD;have g3:=eX Uz z.trans 10 z.trans.length FX;have g4:=eX VG z.ax 7 z.ax.length Gn;rw [List.take_length] at g1 g2 g3 g4;have h1:=h.cal.mo;have h2:=h.cal.ru;have h3:=h.Oq;have h4:z.ax.length≤2:=by rcases h.yr with e|⟨r0,r1,e,_,_⟩<;>rw [e]<;>simp
 simp only [Gt,rq,bH,aC];omega
structure Gy (t:Tb):Prop where
 bV:0≤t.bV∧t.bV≤15
 version:1≤t.version∧t.version≤64
 aO:0≤t.aO∧t.aO<t.version
 first:t.version=1→t.prev=bU
 num:t.aG.length≤3
 aG:∀e∈t.aG,ZnV0 e.z
 names:∀k e,t.aG[k]? =some e→e.name=aS k
theorem uM (w:World) (r:List UInt8) (h:r.length=32):(Op.equalIn 10000 24 (.agg (r.map Extern.Stop.cell).toArray) (.agg (r.map Extern.Stop.cell).toArray)).run Tryz.prog w= .ok true w:=by
 rw [run_equalIn_bytes w 9998 24 5 32 Tryz.underlying24 Tryz.underlying5 (fun w=>FO w) r r h h,beq_self_eq_true]
attribute [local go_sem] iY iZ ja bC
structure TVr (w:World) (cs:Array Value) (A:Option Addr) (zs:List dB) (W:World):Prop where
 row:Row W w.heap.size cs
 mem:kH W w.heap.size A zs
 up:Below w.heap.size w W
theorem TVr.below {w W W':World} {cs:Array Value} {A:Option Addr} {zs:List dB} (h:TVr w cs A zs W) (hb:Below W.heap.size W W'):TVr w cs A zs W':=
 ⟨h.row.keep hb,h.mem.keep (hb.mono h.up.size),ai h.up hb⟩
end Go.Proofs.YtbaehbbonkljpaaGreat
namespace Go.Proofs.YtbaehbbonkljpaaGreat
open Go Go.RowKit
structure TbG (t:Tb):Prop where
 bV:0≤t.bV∧t.bV<16
 version:1≤t.version∧t.version≤64
 aO:0≤t.aO∧t.aO<t.version
 prev:t.prev.length=32
 dQ:t.dQ.length=32
 first:t.version=1→t.prev=bU
 num:t.aG.length≤128
 good:∀e∈t.aG,Gz e.z∧uA e.z=0
 short:∀e∈t.aG,e.name.size≤32
theorem kH.at {w:World} {B:Nat} {A:Option Addr} {zs:List dB} {k:Nat} {x:dB} (h:kH w B A zs) (hx:zs[k]? =some x):∃b off,A=some ⟨b,off,none⟩∧b<B∧w.rangeAt b (off+k*9) x.cells.toList:=by
 have hk:=(iT.1 hx).1;obtain ⟨b,off,e,hb,hc⟩:=h.row.there (by rw [fF];omega);exact ⟨b,off,e,hb,az.elem (s:=9) (f:=fun x:dB=>x.cells.toList) (fun _ _=>rfl) hc k x hx⟩
attribute [local go_sem] iY iZ ja bC
structure TG (w:World) (cs:Array Value) (A:Option Addr) (zs:List dB) (W:World):Prop where
 row:Row W w.heap.size cs
 mem:kH W w.heap.size A zs
 up:Below w.heap.size w W
theorem TG.below {w W W':World} {cs:Array Value} {A:Option Addr} {zs:List dB} (h:TG w cs A zs W) (hb:Below W.heap.size W W'):TG w cs A zs W':=
 ⟨h.row.keep hb,h.mem.keep (hb.mono h.up.size),ai h.up hb⟩
end Go.Proofs.YtbaehbbonkljpaaGreat
namespace Go.Proofs.YtbaehbbonkljpaaGreat
open Go Go.RowKit
attribute [local go_sem] kL kQ kM kR nZ og kJ kN kK kP
def JS (zs:List Ze):List UInt8:=zs.flatMap Qo
theorem Vd (zs:List Ze) (x:Ze):JS (zs++ [x])=JS zs++Qo x:=by simp [JS]
def WyRel (w:World) (g:Nat) (v:Value) (bs:List UInt8) (n:Nat) (zs:List Ze) (i:Value) (wr:World):Prop:=
 ∃k:Nat,k≤n∧i= .int .i64 k∧∃v',gQ wr g v' (bs++(le n 1++JS (zs.take k)))∧iE g v w v' wr
structure DY (g:Nat) (w:World) (A:Option Addr) (zs:List dB):Prop where
 row:zs.length=0∨∃zg zo,A=some ⟨zg,zo,none⟩∧zg<g∧(∀j u,(aV zs)[j]? =some u→w.cell? ⟨zg,zo+j,none⟩=some u)∧∀j,w.frozen? ⟨zg,zo+j,none⟩=false
 each:∀x∈zs,jy w g x.s x.e.z
theorem DY.keep {g:Nat} {w w':World} {A:Option Addr} {zs:List dB} (h:DY g w A zs) (hb:Below g w w'):DY g w' A zs:=
 ⟨h.row.elim .inl fun ⟨zg,zo,h1,h2,h3,h4⟩=> .inr ⟨zg,zo,h1,h2,fun j u hu=>(hb.cell (p:=⟨zg,zo+j,none⟩) h2).trans (h3 j u hu),fun j=>(hb.frozen (p:=⟨zg,zo+j,none⟩) h2).trans (h4 j)⟩,fun x hx=>(h.each x hx).keep hb⟩
theorem xx.low {lo:Nat} {w:World} {A:Option Addr} {zs:List dB} (h:xx lo w A zs):DY w.heap.size w A zs:=by
 refine ⟨?_,fun x hx=>(h.each x hx).at⟩;rcases h.free with h1|⟨b,off,h1,_,h2,h3⟩
 ·exact .inl h1
 ·rcases h.row with h4|⟨b',off',h4,_,_,h5⟩
  ·rw [fF] at h4;exact .inl (by omega)
  ·rw [h1] at h4;injection h4 with h4;injection h4 with e1 e2;subst e1 e2;exact .inr ⟨b,off,h1,h2,h5,h3⟩
def xe (t:Tb):List UInt8:=le t.bV 1++(le t.version 1++(le t.aO 1++(t.prev++(le t.aG.length 1++JS t.aG))))
attribute [local go_sem] iY iZ ja bC
end Go.Proofs.YtbaehbbonkljpaaGreat
namespace Go.Proofs.YtbaehbbonkljpaaGreat
open Go Go.RowKit
attribute [local go_sem] dI dM dJ dN fJ fK dG dK dH dL
def JU (lo g:Nat) (w:World) (A:Option Addr) (cs:List Value):Prop:=
 cs.length=0∨∃b off,A=some ⟨b,off,none⟩∧(lo≤b∧b<w.heap.size∧b≠g)∧∀j u,cs[j]? =some u→w.cell? ⟨b,off+j,none⟩=some u
theorem JU.of {lo g g':Nat} {w w':World} {A:Option Addr} {cs:List Value} (h:JU lo g w A cs) (hs:w.heap.size≤w'.heap.size) (hb:∀k,lo≤k→k<w.heap.size→k≠g→w'.heap[k]? =w.heap[k]? ∧k≠g'):JU lo g' w' A cs:=by
 rcases h with h|⟨b,off,h1,⟨h2,h3,h4⟩,h5⟩
 ·exact .inl h
 ·obtain ⟨e1,e2⟩:=hb b h2 h3 h4;exact .inr ⟨b,off,h1,⟨h2,by omega,e2⟩,fun j u hu=>(World.cell?_of_block (a:=⟨b,off+j,none⟩) e1).trans (h5 j u hu)⟩
theorem JU.own {lo B g e s n c:Nat} {w:World} {A:Option Addr} {cs:List Value} (h:w.ownsRow B e s (.slice A n c) n cs) (hl:lo≤B) (hg:g<B):JU lo g w A cs:=by
 by_cases h0:n=0
 ·refine .inl ?_;have:=h.1;rw [h0] at this;omega
 ·obtain ⟨b,cap,h1,h2⟩:=fM h (by omega);injection h1 with h1 _ _;subst h1;have h3:=iV h;refine .inr ⟨b,0,rfl,by omega,fun j u hu=>?_⟩;rw [Nat.zero_add];exact oq h j u hu
structure ZX (lo g:Nat) (w:World) (y:dB):Prop where
 aj:JU lo g w y.s.A (y.e.z.cal.aj.map I)
 rules:JU lo g w y.s.B (y.e.z.cal.rules.flatMap Lr.cells)
 trans:JU lo g w y.s.C (y.e.z.trans.flatMap Tr.cells)
 ax:JU lo g w y.s.D (y.e.z.ax.flatMap Yr.cells)
theorem ZX.of {lo g g':Nat} {w w':World} {y:dB} (h:ZX lo g w y) (hs:w.heap.size≤w'.heap.size) (hb:∀k,lo≤k→k<w.heap.size→k≠g→w'.heap[k]? =w.heap[k]? ∧k≠g'):ZX lo g' w' y:=
 ⟨h.aj.of hs hb,h.rules.of hs hb,h.trans.of hs hb,h.ax.of hs hb⟩
theorem JU.at {lo g:Nat} {w:World} {A:Option Addr} {cs:List Value} (h:JU lo g w A cs):az w w.heap.size A cs:=by
 rcases h with h|⟨b,off,h1,⟨_,h3,_⟩,h5⟩
 ·exact .inl h
 ·exact .inr ⟨b,off,h1,h3,h5⟩
theorem ZX.at {lo g:Nat} {w:World} {y:dB} (h:ZX lo g w y):jy w w.heap.size y.s y.e.z:=⟨h.aj.at,h.rules.at,h.trans.at,h.ax.at⟩
theorem JU.lower {lo lo' g:Nat} {w:World} {A:Option Addr} {cs:List Value} (h:JU lo g w A cs) (hl:lo'≤lo):JU lo' g w A cs:=by
 rcases h with h|⟨b,off,h1,⟨h2,h3,h4⟩,h5⟩
 ·exact .inl h
 ·exact .inr ⟨b,off,h1,⟨by omega,h3,h4⟩,h5⟩
theorem ZX.lower {lo lo' g:Nat} {w:World} {y:dB} (h:ZX lo g w y) (hl:lo'≤lo):ZX lo' g w y:=
 ⟨h.aj.lower hl,h.rules.lower hl,h.trans.lower hl,h.ax.lower hl⟩
structure Hu (lo:Nat) (w:World) (v:Value) (zs:List dB):Prop where
 row:w.ownsRow lo 70 9 v zs.length (aV zs)
 each:∀x∈zs,∃g,ZX lo g w x
 nil:zs.length=0→v= .slice none 0 0
theorem Hu.aQ {lo:Nat} {w w':World} {v:Value} {zs:List dB} (h:Hu lo w v zs) (hs:w.heap.size≤w'.heap.size) (hb:∀k,lo≤k→k<w.heap.size→w'.heap[k]? =w.heap[k]?):Hu lo w' v zs:=
 ⟨aN h.row hb,fun x hx=>by obtain ⟨g,hg⟩:=h.each x hx;exact ⟨g,hg.of hs fun k h1 h2 h3=>⟨hb k h1 h2,h3⟩⟩,h.nil⟩
theorem Hu.below {lo:Nat} {w w':World} {v:Value} {zs:List dB} (h:Hu lo w v zs) (hb:Below w.heap.size w w'):Hu lo w' v zs:=h.aQ hb.size fun k _ hk=>hb.block k hk
theorem Hu.lower {lo lo':Nat} {w:World} {v:Value} {zs:List dB} (h:Hu lo w v zs) (hl:lo'≤lo):Hu lo' w v zs:=
 ⟨aK h.row hl,fun x hx=>by obtain ⟨g,hg⟩:=h.each x hx;exact ⟨g,hg.lower hl⟩,h.nil⟩
theorem Hu.zes {lo:Nat} {w:World} {A:Option Addr} {n c:Nat} {zs:List dB} (h:Hu lo w (.slice A n c) zs):kH w w.heap.size A zs:=by
 refine ⟨?_,fun x hx=>by obtain ⟨g,hg⟩:=h.each x hx;exact hg.at⟩;by_cases h0:zs.length=0
 ·rw [List.eq_nil_of_length_eq_zero h0];exact .inl rfl
 ·obtain ⟨b,cap,h1,h2⟩:=fM h.row (by omega);injection h1 with h1 _ _;subst h1;have h3:=iV h.row;refine .inr ⟨b,0,rfl,by omega,fun j u hu=>?_⟩;rw [Nat.zero_add];exact oq h.row j u hu
theorem RY (ys:List dB) (x:Ze) (s:Zs):kG (aV ys++nM.toList) (ys.length*9) (⟨x,s⟩:dB).cells.toList=aV (ys++ [⟨x,s⟩]):=by
 have h:=oP (⟨x,s⟩:dB).cells.toList (aV ys) nM.toList rfl;rw [fF] at h;rw [h,yL];unfold aV;rw [List.flatMap_cons,List.flatMap_nil,List.append_nil]
def TZeQ (M:Nat) (w:World) (rb pb po:Nat) (t:TypeId) (cs:Array Value) (zs:List Ze) (n:Nat) (R:List UInt8) (e:Ending) (w':World):Prop:=
 e= .returned (.tuple #[])∧∃A c ys,jH M w' rb R∧bI w rb pb t (cs.setIfInBounds po (.slice A n c)) w'∧Hu w.heap.size w' (.slice A n c) ys∧ys.map (·.e)=zs
end Go.Proofs.YtbaehbbonkljpaaGreat
namespace Go.Proofs.YtbaehbbonkljpaaGreat
open Go Go.RowKit
attribute [local go_sem] dI dM dJ dN fJ fK dG dK dH dL jc jd
def RzuRel (M:Nat) (w:World) (rb pb po:Nat) (t:TypeId) (cs:Array Value) (n:Nat) (B:List UInt8) (i:Value) (wr:World):Prop:=
 ∃(k:Nat) (A:Option Addr) (c:Nat) (ys:List dB) (R:List UInt8),k≤n∧i= .int .i64 k∧dR NV k B=some (ys.map (·.e),R)∧jH M wr rb R∧bI w rb pb t (cs.setIfInBounds po (.slice A k c)) wr∧
  wr.ownsRow w.heap.size 70 9 (.slice A k c) k (aV ys)∧(∀y∈ys,∃g,A=some ⟨g,0,none⟩∧ZX w.heap.size g wr y)∧(k=0→A=none∧c=0)
theorem P9 (M:Nat) (w:World) (rb pb po:Nat) (t:TypeId) (cs:Array Value) (B:List UInt8) (hr:jH M w rb B) (hp:w.heap[pb]? =some (.cells cs t (0,0))) (hpo:cs[po]? =some (.slice none 0 0)) (pq:M≤pb) (hne:pb≠rb):
  Calls Tryz.prog 47 #[.iface 121 (pt rb), .pointer (some ⟨pb,po,none⟩),I 1, .func (.func 48) #[] #[]] w (df (fO 1 NV B) (dD w rb pb t cs) fun zs R=>TZeQ M w rb pb po t cs zs zs.length R):=by
 have hpl:pb<w.heap.size:=(bK.1 hp).1;have hlo:=hr.lo;have hrl:=hr.lt;have hcs:cs.setIfInBounds po (.slice none 0 0)=cs:=by
  apply Array.ext_getElem?;intro i;rw [Array.getElem?_setIfInBounds];split
  ·rename_i e;subst e;split
   ·exact hpo.symm
   ·rename_i e2;rw [Array.getElem?_eq_none (by omega)] at hpo;cases hpo
  ·rfl
 have hc0:w.cell? ⟨pb,po,none⟩=some (.slice none 0 0):=(cell_of_row w pb po _ _ _ hp).trans hpo;have hpos:po<cs.size:=(bK.1 hpo).1;have HC:=ae (nO M w.drew rb 1 0 B hr.drew (by omega));have Nk:Hid (bI w rb pb t cs w):=ae (bI.refl hp);have HP:Hid (bI w rb pb t (cs.setIfInBounds po (.slice none 0 0)) w):=ae (by rw [hcs];exact bI.refl hp);clear hr hp hpo hcs;obtain ⟨i0,hi,hz0,hz1,hz2⟩:=info_parts zC;go_enter Tryz.func47,Tryz.ntmps47;go_wp2_with fail;go_still_tail 9,(by kernel_rfl);go_wp2_with fail;refine HC.out.mono ?_;intro e w1 h;rcases h.get with ⟨hq,hd⟩|⟨v,B1,hq,rfl,hr1,hk1⟩
 ·obtain ⟨rfl,hb⟩:=hd;exact ⟨rfl,df.no (by unfold fO;rw [hq];rfl) ⟨rfl,cs,dP.refl cs,Nk.out.drew.grow hb hpl hne⟩⟩
 obtain ⟨n,rfl,hn⟩:=qL hq;have HQ:Hid (fO 1 NV B=dR NV n B1):=ae (by unfold fO;rw [hq];rfl);have HR1:=ae hr1;have nS:=ae (HP.out.drew.qg hk1 hpl hne);clear hr1 hk1 HC hc0 h hq Nk;go_wp2_with fail
 go_loopw [22] (fun i wr=>RzuRel M w rb pb po t cs n B1 i wr) (fun i _=>n - (intOf i).toNat)
 case atStart=>exact ⟨0,none,0,[],B1,Nat.zero_le _,rfl,rfl,HR1.out,nS.out,World.ownsRow_nil _ _ _ _,(fun _ h=>nomatch h),fun _=>⟨rfl,rfl⟩⟩
 case round=>
  obtain ⟨k,A,c,ys,R,hk,rfl,hit,hr,hp,hown,hym,hnl⟩:=hrel;have hyl:ys.length=k:=by have h:=lV _ _ _ _ _ hit;rwa [List.length_map] at h
  have HIT:=ae hit;have HR:=ae hr;have rf:=ae hp;have HO:=ae hown;have oI:=ae hyl;have Wj:=ae hym;have uD:=ae hnl;have hcp:wr.cell? ⟨pb,po,none⟩=some (.slice A k c):=(hp.cell po).trans (by simp [hpos]);have hsw:=hp.size;clear hr hp hown hyl hit hym hnl HR1 nS HP;by_cases hlt:k<n
  ·have i0':(0:Int)≤(k:Int):=by omega
   have i1:(k:Int)<(n:Int):=by omega
   have uC:Hid (∀j u,nM.toList[j]? =some u→(((wr.alloc (.cells nM 70)).alloc (.cells nM 70)).drew).cell? ((⟨wr.heap.size+1,0,none⟩:Addr).add j)=some u):=ae fun j u hu=>by
    rw [addr_add];have h:=(Row.new (wr.alloc (.cells nM 70)) nM 70).2 j;rw [World.size_alloc] at h;exact h.trans (by simpa using hu)
   have rW:Hid (∀u∈nM.toList,u.oneCell'=true):=ae (by
    intro u hu;have h:nM.all (·.oneCell')=true:=by kernel_rfl
    rw [Array.all_eq_true_iff_forall_mem] at h;exact h u (by simpa using hu))
   have hplw:pb<wr.heap.size:=by omega
   have hmx:k+1≤maxLen:=by unfold maxLen;omega
   have hby:(k+1)*144≤140737488355328:=by omega
   have Vj:Hid (w.heap.size≤(((wr.alloc (.cells nM 70)).alloc (.cells nM 70)).drew).heap.size):=ae (by simp;omega);have fG:Hid ((((wr.alloc (.cells nM 70)).alloc (.cells nM 70)).drew).heap.size=wr.heap.size+2):=ae (by simp);have HOO:Hid ((((wr.alloc (.cells nM 70)).alloc (.cells nM 70)).drew).ownsRow w.heap.size 70 9 (.slice A k c) k (aV ys)):=ae ((HO.out.alloc _).alloc _).drew;have G7:Hid (∀b,b<wr.heap.size→(((wr.alloc (.cells nM 70)).alloc (.cells nM 70)).drew).heap[b]? =wr.heap[b]?):=ae fun b hb=>(Below.heap_alloc (wr.alloc (.cells nM 70)) _ b (by simp;omega)).trans (Below.heap_alloc wr _ b hb);go_wp2_with fail
   go_region_law (refine step_append_lies _ (by rfl) _ _ _ (by rfl) w.heap.size 70 i0 (.agg nM) 9 144 Tryz.underlying37 hi hz0 hz1 hz2 (by rfl) (by omega) (.slice A k c) k (aV ys) (by rfl) HOO.out ⟨wr.heap.size+1,0,none⟩ 1 1 nM.toList (by rfl) (by rfl) uC.out rW.out (by omega) hmx hby Vj.out (wr.heap.size+2) fG.out ?_;intro g2 c2 w2 hown2 hgrow2 xC hlt2;have hbw:∀b,b<w.heap.size→w2.heap[b]? =wr.heap[b]? :=fun b hb=>(hgrow2.block b (Nat.lt_of_lt_of_eq (show b<wr.heap.size+2 by omega) fG.out.symm) (dZ HO.out b hb)).trans (G7.out b (by omega));have HP2:Hid (w2.heap[pb]? =some (.cells (cs.setIfInBounds po (.slice A k c)) t (0,0))):=ae ((hbw pb hpl).trans rf.out.tgt);have hcp2:w2.cell? ⟨pb,po,none⟩=some (.slice A k c):=(cell_of_row w2 pb po _ _ _ HP2.out).trans (by simp [hpos]);have Fg:=frozen_of_row w2 pb po _ _ HP2.out;have qy:=ae hbw;have rF:=ae hown2;have HG2:=ae hgrow2;have HA2:=ae xC;clear hbw hown2 hgrow2 xC)
   all_goals
    have hs2:wr.heap.size+2≤w2.heap.size:=Nat.le_trans (Nat.le_of_eq fG.out.symm) HG2.out.size;have hkeep:∀b,b<wr.heap.size→some b≠(Value.slice A k c).ownBlock→w2.heap[b]? =wr.heap[b]? :=fun b hb hne=>(HG2.out.block b (Nat.lt_of_lt_of_eq (show b<wr.heap.size+2 by omega) fG.out.symm) hne).trans (G7.out b hb);have hlo2:=iV rF.out;have hP3:bI w rb pb t (cs.setIfInBounds po (.slice (some ⟨g2,0,none⟩) (k+1) c2)) (w2.setCell ⟨pb,po,none⟩ (.slice (some ⟨g2,0,none⟩) (k+1) c2)):=by
     have h:bI w rb pb t (cs.setIfInBounds po (.slice A k c)) w2:=⟨HG2.out.os.trans rf.out.os,HG2.out.tape.trans rf.out.tape,HG2.out.output.trans rf.out.output,by omega,fun b hb h1 h2=>(qy.out b hb).trans (rf.out.block b hb h1 h2),HP2.out⟩;have h:=h.put po (.slice (some ⟨g2,0,none⟩) (k+1) c2)
     rwa [Array.setIfInBounds_setIfInBounds] at h
    have NP:jH M (w2.setCell ⟨pb,po,none⟩ (.slice (some ⟨g2,0,none⟩) (k+1) c2)) rb R:=(HR.out.of (qy.out rb hrl) fun b hb=>qy.out b (by omega)).put pq hne _;have hO3:(w2.setCell ⟨pb,po,none⟩ (.slice (some ⟨g2,0,none⟩) (k+1) c2)).ownsRow w.heap.size 70 9 (.slice (some ⟨g2,0,none⟩) (k+1) c2) (k+1) (aV ys++nM.toList):=bY (p:=⟨pb,po,none⟩) rF.out (by intro e;injection e with e;simp only at e;omega);have hM3:∀y∈ys,ZX w.heap.size g2 (w2.setCell ⟨pb,po,none⟩ (.slice (some ⟨g2,0,none⟩) (k+1) c2)) y:=by
     intro y hy;obtain ⟨g,hA,hx⟩:=Wj.out y hy;refine hx.of (by simp [World.setCell];omega) fun b b2 b3 b4=>?_;have hne1:some b≠(Value.slice A k c).ownBlock:=by
      rw [hA];intro e;injection e with e;exact b4 e
     refine ⟨(heap_setCell_other w2 _ b _ (by show b≠pb;omega)).trans (hkeep b b3 hne1),?_⟩;rcases HA2.out with h|h
     ·rw [hA] at h;injection h with h;intro e;exact b4 (e.trans h.symm)
     ·omega
    have gu:=ae hP3;have HR3:=ae NP;have qC:=ae hO3;have HM3:=ae hM3;clear hkeep hP3 NP hO3 hM3 HP2 qy rF HG2 HA2 hcp;go_wp2_with fail;obtain ⟨w3,hw3⟩:∃W,w2.setCell ⟨pb,po,none⟩ (.slice (some ⟨g2,0,none⟩) (k+1) c2)=W:=⟨_,rfl⟩;rw [hw3] at gu HR3 qC HM3 ⊢;obtain ⟨cur,q1,q2,q3,q4,q5,q6,q7,_⟩:=kF qC.out;have hzz:∀j,j<9→cur[k*9+j]? =nM[j]? :=fun j hj=>by
     have h:(cur.toList.take ((k+1)*9))[k*9+j]? =(aV ys++nM.toList)[k*9+j]? :=by rw [q6]
     rw [List.getElem?_take_of_lt (by omega),List.getElem?_append_right (by rw [fF,oI.out];omega),fF,oI.out,show k*9+j - k*9=j by omega] at h;simpa using h
    refine (UB M w3 rb g2 (k*9) 70 cur R HR3.out q1 hzz (by omega) (by omega)).mono ?_;intro e w4 wC;rcases wC.get with ⟨hq,hd⟩|⟨x,R4,hq,rfl,s4,hr4,lH,SS⟩
    ·obtain ⟨rfl,D,hD,hT⟩:=hd;exact ⟨rfl,df.no (HQ.out.trans (nN _ _ _ (mF _ HIT.out hq) _ (by omega))) ⟨rfl,_,(dP.refl cs).set rfl,⟨hT.os.trans gu.out.os,hT.tape.trans gu.out.tape,hT.output.trans gu.out.output,Nat.le_trans gu.out.size hT.size,fun b hb h1 h2=>(hT.block b (dW hb gu.out.size) (by omega) h2).trans (gu.out.block b hb h1 h2),(hT.block pb (dW hpl gu.out.size) (by omega) hne).trans gu.out.tgt⟩⟩⟩
    have EF:Hid (dR NV (k+1) B1=some ((ys++ [(⟨x,s4⟩:dB)]).map (·.e),R4)):=ae (by rw [List.map_append];exact mD _ HIT.out hq);have hO4:=zF qC.out q1 lH;rw [←oI.out,RY ys x s4,oI.out] at hO4;have NM:bI w rb pb t (cs.setIfInBounds po (.slice (some ⟨g2,0,none⟩) (k+1) c2)) w4:=⟨lH.os.trans gu.out.os,lH.tape.trans gu.out.tape,lH.output.trans gu.out.output,Nat.le_trans gu.out.size lH.size,fun b hb h1 h2=>(lH.block b (dW hb gu.out.size) (by omega) h2).trans (gu.out.block b hb h1 h2),(lH.block pb (dW hpl gu.out.size) (by omega) hne).trans gu.out.tgt⟩;have hs3:w3.heap.size=w2.heap.size:=by rw [←hw3];simp [World.setCell]
    have hM4:∀y∈ys++ [(⟨x,s4⟩:dB)],∃g,(some ⟨g2,0,none⟩:Option Addr)=some ⟨g,0,none⟩∧ZX w.heap.size g w4 y:=by
     intro y hy;refine ⟨g2,rfl,?_⟩;rcases List.mem_append.1 hy with hy|hy
     ·exact (HM3.out y hy).of lH.size fun b b2 b3 b4=>⟨lH.block b b3 b4 (by omega),b4⟩
     ·rw [List.mem_singleton.1 hy];exact ⟨.own SS.aj (by omega) (by omega), .own SS.rules (by omega) (by omega), .own SS.trans (by omega) (by omega), .own SS.ax (by omega) (by omega)⟩
    have HR4:=ae hr4;have rX:=ae NM;have zS:=ae hO4;have JH:=ae hM4;clear hr4 lH SS hO4 NM hM4 wC hq q1 q2 q3 q4 q5 q6 q7 hw3 hcp2 Fg hzz;go_wp2_with fail;go_roundw
    case rel=>exact ⟨k+1,some ⟨g2,0,none⟩,c2,_,R4,by omega,by go_num,EF.out,HR4.out,rX.out,zS.out,JH.out,fun h=>by omega⟩
    case measure=>simp [intOf];omega
  ·have hkn:k=n:=by omega
   have nH:=ae hkn;have hlt':¬(k:Int)<(n:Int):=by omega
   clear hkn hlt hcp;go_wp2_with fail
   go_end0
   have hit:=HIT.out;rw [nH.out] at hit;have hzl:(ys.map (·.e)).length=n:=by rw [List.length_map];exact oI.out.trans nH.out
   refine df.yes (HQ.out.trans hit) ?_;rw [hzl];refine ⟨rfl,A,c,ys,HR.out,?_,⟨?_,fun y hy=>?_,fun h=>?_⟩,rfl⟩
   ·have h:=rf.out
    rwa [nH.out] at h
   ·have h:=HO.out;rw [nH.out] at h;rw [oI.out,nH.out];exact h
   ·obtain ⟨g,_,h⟩:=Wj.out y hy;exact ⟨g,h⟩
   ·obtain ⟨h1,h2⟩:=uD.out (oI.out.symm.trans h);have h0:n=0:=by have:=oI.out;have:=nH.out;omega
    rw [h1,h2,h0]
end Go.Proofs.YtbaehbbonkljpaaGreat
namespace Go.Proofs.YtbaehbbonkljpaaGreat
open Go Go.RowKit
attribute [local go_sem] dI dM dJ dN fJ fK dG dK dH dL
def TWhQ (M:Nat) (w:World) (rb tb:Nat) (t:Tb) (n:Nat) (R:List UInt8) (e:Ending) (w':World):Prop:=
 e= .returned (.tuple #[])∧∃A c ys,jH M w' rb R∧bI w rb tb 39 (ah {t with dQ:=bU} (.slice A n c)) w'∧Hu w.heap.size w' (.slice A n c) ys∧ys.map (·.e)=t.aG
end Go.Proofs.YtbaehbbonkljpaaGreat
