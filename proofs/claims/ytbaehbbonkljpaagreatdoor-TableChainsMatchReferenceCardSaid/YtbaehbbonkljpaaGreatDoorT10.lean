/- The texts Kg, Kh, in this order. -/
import Derived.Test.YtbaehbbonkljpaaGreatDoorT09
set_option maxRecDepth 10000
set_option maxHeartbeats 8000000
namespace Go.Proofs.YtbaehbbonkljpaaGreatDoor
open Go Go.RowKit
def aqp:ag Int:= [0,60,120, -90,30,1080, -1080,90]
def Q9 (n:Nat):Int:=aqp.getD (n%8) 0
theorem aaf (n:Nat): -1080<=Q9 n/\Q9 n<=1080:=by
 have h:n%8<8:=jE _ (by omega);unfold Q9;generalize n%8=k at h
 match k,h with
 |0,_=>decide
 |1,_=>decide
 |2,_=>decide
 |3,_=>decide
 |4,_=>decide
 |5,_=>decide
 |6,_=>decide
 |7,_=>decide
theorem Xo (n:Nat)(w:ae)(hn:n<256):Calls Tryz.prog 62 #[.int .u8 n] w (Gives (I (Q9 n)) w):=by
 have hm:Int.tmod (n:Int) 8=((n%8:Nat):Int):=by rw[aS (by omega)];omega
 have h:n%8<8:=jE _ (by omega);have HS:Hid (Q9 n=aqp.getD (n%8) 0):=JJ rfl;obtain⟨V,hV⟩:∃v,Q9 n=v:=⟨_,rfl⟩;rw[hV] at HS⊢;clear hV;generalize n%8=k at hm h HS;have hk:k=0\/k=1\/k=2\/k=3\/k=4\/k=5\/k=6\/k=7:=by omega
 rcases hk with rfl|rfl|rfl|rfl|rfl|rfl|rfl|rfl
 all_goals
  push_cast at hm
  go_enter Tryz.func62,Tryz.ntmps62;go_wp2_with fail;go_ret;exact⟨by rw[HS.out];rfl,JM w _⟩
structure RwZ where
 st:au
 LM:ag au
 NH:ag au
 bh:au
 a0:au
 a1:au
 a2:au
 a3:au
 b0:au
 b1:au
 b2:au
 b3:au
 cal:au
 rules:Bool
def Xa (LM:ag au):Nat->Int
 |0=>0
 |k+1=>Xa LM k+2160+20*((LM[k]?.getD 0).toNat:Int)
def PY (LM NH:ag au):Nat->ag Tr
 |0=> []
 |k+1=>PY LM NH k++ [⟨Xa LM (k+1),Q9 (NH[k]?.getD 0).toNat⟩]
def QI (x:RwZ):Nat:=Nat.min (Nat.min x.LM.length x.NH.length) 3
def Vb (n:au):Cal:=if n.toNat%2=1 then ⟨5,[7,8],1,[⟨2,((n.toNat / 2%2:Nat):Int),true⟩]⟩ else ⟨2,[7,6], -1,[]⟩
def SH (k:Int)(a b c d:au):Yr:=⟨1+k,if d.toNat%2=1 then 5 else 1,((a.toNat%3:Nat):Int),((b.toNat*5:Nat):Int),Q9 (c.toNat%5)⟩
def zn0 (x:RwZ):Zn:=⟨Vb x.cal,Q9 x.st.toNat,PY x.LM x.NH (QI x),Xa x.LM (QI x)+2160+20*(x.bh.toNat:Int),[]⟩
def zn1 (x:RwZ):Zn:= {zn0 x with J6:= [SH 0 x.a0 x.a1 x.a2 x.a3,SH 1 x.b0 x.b1 x.b2 x.b3]}
def OU (x:RwZ):Zn:=if x.rules=true/\VH (zn1 x)=0 then zn1 x else zn0 x
theorem Ve (g o:ag au)(k:Nat):(PY g o k).length=k:=by
 induction k with
 |zero=>rfl
 |succ k ih=>simp[PY,ih]
theorem ZT (g o:ag au)(k:Nat):∀j,j<k->(PY g o k)[j]? =some ⟨Xa g (j+1),Q9 (o[j]?.getD 0).toNat⟩:=by
 induction k with
 |zero=>intro j hj;omega
 |succ k ih=>
  intro j hj;unfold PY;rcases fG.1 hj with h|rfl
  ·rw[dZ (by rw[Ve];exact h)];exact ih j h
  ·rw[bH (by rw[Ve];exact ay _),Ve,kN];rfl
theorem MI (b:au):b.toNat<256:=UInt8.toNat_lt b
theorem Zv (g:ag au)(k:Nat):Xa g k+2160<=Xa g (k+1)/\Xa g (k+1)<=Xa g k+7260:=by
 have h:(g[k]?.getD 0).toNat<256:=MI _;rw[show Xa g (k+1)=Xa g k+2160+20*((g[k]?.getD 0).toNat:Int) from rfl];omega
theorem ab7 (g:ag au):∀k:Nat,0<=Xa g k/\Xa g k<=7260*(k:Int):=by
 intro k
 induction k with
 |zero=>exact⟨qO _,by simp[Xa]⟩
 |succ k ih=>have:=Zv g k;omega
theorem ake (g:ag au)(j k:Nat)(h:j<=k):Xa g j<=Xa g k:=by
 induction k with
 |zero=>rw[Nat.le_zero.1 h];exact qO _
 |succ k ih=>
  rcases Nat.lt_or_eq_of_le h with h|rfl
  ·have:=Zv g k;have:=ih (by omega);omega
  ·exact qO _
theorem ahe (x:RwZ):QI x<=3/\QI x<=x.LM.length/\QI x<=x.NH.length:=by
 unfold QI;have h1:=Nat.min_le_right (Nat.min x.LM.length x.NH.length) 3;have h2:=Nat.min_le_left (Nat.min x.LM.length x.NH.length) 3;have h3:=Nat.min_le_left x.LM.length x.NH.length;have h4:=Nat.min_le_right x.LM.length x.NH.length;exact⟨h1,aO h2 h3,aO h2 h4⟩
theorem asw (n:au):afc (Vb n):=by
 unfold Vb;split
 ·refine⟨by simp,rfl,by simp,by simp,by simp,by simp,?_⟩;intro r hr;rw[aY.1 hr];have:n.toNat / 2%2<2:=jE _ (by omega);exact⟨rfl,by simp only;omega,by simp only;omega⟩
 ·exact⟨by simp,rfl,by simp,by simp,by simp,by simp,by simp⟩
theorem aqj (k:Int)(hk:k=0\/k=1)(a b c d:au):YrS (SH k a b c d):=by
 have h1:a.toNat%3<3:=jE _ (by omega);have h2:=MI b;refine⟨by simp only[SH];omega,?_,by simp only[SH];omega,by simp only[SH];omega,aaf _⟩;simp only[SH];split<;>omega
theorem amj (x:RwZ):ZnM (zn0 x):=by
 have hc:=ahe x;have hb:=ab7 x.LM (QI x);have hy:=MI x.bh;have hl:(zn0 x).trans.length=QI x:=Ve _ _ _;refine⟨asw _,aaf _,?_,by rw[hl];exact hc.1,?_,?_,.inl rfl⟩
 ·show 0<=Xa x.LM (QI x)+2160+20*(x.bh.toNat:Int)/\Xa x.LM (QI x)+2160+20*(x.bh.toNat:Int)<=1000000;omega
 ·intro t ht;obtain⟨j,hj⟩:=fU ht;have hjl:j<QI x:=by rw[<-hl];exact(MF.1 hj).1
  have h:=ZT x.LM x.NH (QI x) j hjl;have h':(zn0 x).trans[j]? =(PY x.LM x.NH (QI x))[j]? :=rfl;rw[h',h] at hj;injection hj with hj;subst hj;have h1:=ab7 x.LM (j+1);have h2:=ake x.LM (j+1) (QI x) hjl;refine⟨aaf _,h1.1,?_⟩;show Xa x.LM (j+1)<Xa x.LM (QI x)+2160+20*(x.bh.toNat:Int);omega
 ·intro i hi;rw[hl] at hi;have h1:=ZT x.LM x.NH (QI x) i (by omega);have h2:=ZT x.LM x.NH (QI x) (i+1) hi;have e:(zn0 x).trans=PY x.LM x.NH (QI x):=rfl;unfold Nz;rw[e,h1,h2];have:=Zv x.LM (i+1);show Xa x.LM (i+1)+2160<=Xa x.LM (i+1+1);omega
theorem axE (x:RwZ):ZnM (zn1 x):=by
 have h:=amj x;exact⟨h.cal,h.start,h.hor,h.trl,h.tr,h.gap,.inr ⟨_,_,rfl,aqj 0 (.inl rfl) _ _ _ _,aqj 1 (.inr rfl) _ _ _ _⟩⟩
theorem alb (x:RwZ):ZnM (OU x):=by
 unfold OU;split
 ·exact axE x
 ·exact amj x
theorem ZnM.len {z:Zn}(h:ZnM z):Qs z:=by
 have h1:=h.cal.mo;have h2:=h.cal.ru;have h3:=h.trl;refine⟨by omega,by omega,by omega,?_⟩;rcases h.yr with e|⟨_,_,e,_,_⟩<;>rw[e]<;>simp
def QA (x:RwZ)(G O:aj Addr)(gc oc:Nat):ax ah:= #[Extern.Stop.cell x.st,.slice G x.LM.length gc,.slice O x.NH.length oc,Extern.Stop.cell x.bh,Extern.Stop.cell x.a0,Extern.Stop.cell x.a1,Extern.Stop.cell x.a2,Extern.Stop.cell x.a3,Extern.Stop.cell x.b0,Extern.Stop.cell x.b1,Extern.Stop.cell x.b2,Extern.Stop.cell x.b3,Extern.Stop.cell x.cal,.bool x.rules]
def LZ (lo B g:Nat)(w:ae)(A:aj Addr)(cs:ag ah):Prop:=
 cs.length=0\/∃b off,A=some ⟨b,off,none⟩/\lo<=b/\b<B/\b≠g/\∀j u,cs[j]? =some u->w.cell? ⟨b,off+j,none⟩=some u
theorem LZ.Kr {lo B g:Nat}{w w':ae}{A:aj Addr}{cs:ag ah}(h:LZ lo B g w A cs)(hb:∀k,lo<=k->k<B->k≠g->w'.heap[k]? =w.heap[k]?):LZ lo B g w' A cs:=by
 rcases h with h|⟨b,off,h1,h0,h2,h4,h5⟩
 ·exact .inl h
 ·exact .inr ⟨b,off,h1,h0,h2,h4,fun j u hu=>(bI (a:=⟨b,off+j,none⟩) (hb b h0 h2 h4)).trans (h5 j u hu)⟩
theorem LZ.more {lo B B' g:Nat}{w:ae}{A:aj Addr}{cs:ag ah}(h:LZ lo B g w A cs)(hB:B<=B'):LZ lo B' g w A cs:=by
 rcases h with h|⟨b,off,h1,h0,h2,h4,h5⟩
 ·exact .inl h
 ·exact .inr ⟨b,off,h1,h0,by omega,h4,h5⟩
theorem LZ.at {lo B g:Nat}{w:ae}{A:aj Addr}{cs:ag ah}(h:LZ lo B g w A cs)(hB:B<=w.heap.size):JS w w.heap.size A cs:=by
 rcases h with h|⟨b,off,h1,h0,h2,h4,h5⟩
 ·exact .inl h
 ·exact .inr ⟨b,off,h1,by omega,h5⟩
theorem LZ.nil {lo B g:Nat}{w:ae}{A:aj Addr}:LZ lo B g w A []:=.inl rfl
theorem LZ.Le {lo g e size n c B base:Nat}{A:aj Addr}{w:ae}{cs:ag ah}(h:w.ownsRow base e size (.slice A n c) n cs)(h0:lo<=base)(hg:g<base)(hB:w.heap.size<=B):LZ lo B g w A cs:=by
 rcases h.2 with ⟨hv,hn⟩|⟨b,cap,cur,hv,hb,hh,_⟩
 ·refine .inl ?_;rw[h.1,hn,gU]
 ·injection hv with h1 _ _;subst h1;have hl:=(KY.1 hh).1;exact .inr ⟨b,0,rfl,by omega,by omega,by omega,fun j u hu=>by rw[aT,<-addr_add];exact h.cells (g:=b) rfl j u hu⟩
structure MZ (w:ae)(xs:ax ah)(zb B:Nat)(zs:ax ah)(A R C:aj Addr)(mo ru tr:ag ah)(W:ae):Prop where
 x:Row W w.heap.size xs
 res:W.heap[w.heap.size+1]? =some (.cells OQ 69 (0,0))
 z:W.heap[zb]? =some (.cells zs 69 (0,0))
 lo:w.heap.size+2<=zb
 hi:zb<B
 sz:B<=W.heap.size
 up:ai w.heap.size w W
 mon:LZ (w.heap.size+2) B zb W A mo
 rul:LZ (w.heap.size+2) B zb W R ru
 trn:LZ (w.heap.size+2) B zb W C tr
section
variable {w W W':ae}{xs zs:ax ah}{zb B:Nat}{A R C:aj Addr}{mo ru tr:ag ah}
theorem MZ.step (h:MZ w xs zb B zs A R C mo ru tr W)(ho:W'.os=W.os)(ht:W'.tape=W.tape)(hu:W'.output=W.output)(hs:W.heap.size<=W'.heap.size)(hb:∀k,k<B->k≠zb->W'.heap[k]? =W.heap[k]?){zs':ax ah}(hz:W'.heap[zb]? =some (.cells zs' 69 (0,0))):MZ w xs zb B zs' A R C mo ru tr W':=by
 have h1:=h.lo;have h2:=h.hi;refine⟨⟨LK h.x.1 hs,fun i=>(bI (a:=⟨w.heap.size,i,none⟩) (hb _ (by show w.heap.size<B;omega) (by show w.heap.size≠zb;omega))).trans (h.x.2 i)⟩,(hb _ (by omega) (by omega)).trans h.res,hz,h.lo,h.hi,aO h.sz hs,?_,h.mon.Kr fun k _=>hb k,h.rul.Kr fun k _=>hb k,h.trn.Kr fun k _=>hb k⟩;exact⟨ho.trans h.up.os,ht.trans h.up.tape,hu.trans h.up.output,aO h.up.size hs,fun k hk=>(hb k (by omega) (by omega)).trans (h.up.block k hk)⟩
theorem MZ.grow (h:MZ w xs zb B zs A R C mo ru tr W)(hb:ai W.heap.size W W'):MZ w xs zb B zs A R C mo ru tr W':=
 h.step hb.os hb.tape hb.output hb.size (fun k hk _=>hb.block k (LK hk h.sz)) ((hb.block _ (LK h.hi h.sz)).trans h.z)
theorem MZ.store (h:MZ w xs zb B zs A R C mo ru tr W)(o:Nat)(v:ah):MZ w xs zb B (zs.setIfInBounds o v) A R C mo ru tr (W.setCell ⟨zb,o,none⟩ v):=
 h.step (W':=W.setCell ⟨zb,o,none⟩ v) rfl rfl rfl (by simp[World.setCell]) (fun k _ hk=>aN W ⟨zb,o,none⟩ k v hk) (bJ W zb o _ _ _ h.z)
theorem MZ.grown (h:MZ w xs zb B zs A R C mo ru tr W){row:aj Nat}(hg:W.grownBy W' row)(hr:∀g,row=some g->B<=g):MZ w xs zb B zs A R C mo ru tr W':=
 have hh:=h.hi;have hz:=h.sz
 h.step hg.os hg.tape hg.output hg.size (fun k hk _=>hg.block k (by omega) (fun e=>by have:=hr k e.symm;omega)) ((hg.block _ (by omega) (fun e=>by have:=hr zb e.symm;omega)).trans h.z)
theorem MZ.drew (h:MZ w xs zb B zs A R C mo ru tr W):MZ w xs zb B zs A R C mo ru tr W.drew:=h.grow (aW _ W).drew
theorem MZ.cell (h:MZ w xs zb B zs A R C mo ru tr W)(i:Nat):W.cell? ⟨zb,i,none⟩=zs[i]? :=aC _ _ i _ _ _ h.z
theorem MZ.Oo (h:MZ w xs zb B zs A R C mo ru tr W)(i:Nat):W.frozen? ⟨zb,i,none⟩=false:=aP _ _ i _ _ h.z
theorem MZ.done (h:MZ w xs zb B zs A R C mo ru tr W)(vs:ax ah):JS (W.setRow (w.heap.size+1) vs) (W.setRow (w.heap.size+1) vs).heap.size A mo/\JS (W.setRow (w.heap.size+1) vs) (W.setRow (w.heap.size+1) vs).heap.size R ru/\JS (W.setRow (w.heap.size+1) vs) (W.setRow (w.heap.size+1) vs).heap.size C tr/\ai w.heap.size w (W.setRow (w.heap.size+1) vs):=by
 have e:∀k,w.heap.size+2<=k->k<B->k≠zb->(W.setRow (w.heap.size+1) vs).heap[k]? =W.heap[k]? :=fun k hk _ _=>cZ _ _ k _ (by omega);have hs:B<=(W.setRow (w.heap.size+1) vs).heap.size:=by simpa[World.setRow] using h.sz
 exact⟨(h.mon.Kr e).at hs,(h.rul.Kr e).at hs,(h.trn.Kr e).at hs,eH h.up (by omega) _⟩
theorem MZ.zlt (h:MZ w xs zb B zs A R C mo ru tr W):zb<W.heap.size:=LK h.hi h.sz
end
section
variable {P:Program}{ops:ax Oper}{Q:Exit->Act->ae->Prop}{a:Act}{w:ae}{rest:ag Oper}{d:aj Tmp}{t:TypeId}{pos:String}{af:ax Edge}{g:aj (Nat×Bool)}
theorem KZ (ty:TypeId){x y:Operand}(h:wpList P ops Q (⟨d,.store ty x y,t,pos,af,g⟩::rest) a w):wpList P ops Q (⟨d,.store ty x y,t,pos,af,g⟩::rest) a w:=h
theorem KO (ty:TypeId){x:Operand}(h:wpList P ops Q (⟨d,.load ty x,t,pos,af,g⟩::rest) a w):wpList P ops Q (⟨d,.load ty x,t,pos,af,g⟩::rest) a w:=h
end
theorem aic {B g:Nat}{w W:ae}{cs:ax ah}(h:ai B w W)(hg:B<=g):ai B w (W.setRow g cs):=eH h hg _
structure M0 (w:ae)(xs:ax ah)(W:ae):Prop where
 x:Row W w.heap.size xs
 res:W.heap[w.heap.size+1]? =some (.cells OQ 69 (0,0))
 up:ai w.heap.size w W
theorem M0.start (w:ae)(xs:ax ah)(t:TypeId):M0 w xs ((w.alloc (.cells xs t)).alloc (.cells OQ 69)):=
 ⟨(Row.new w xs t).keep (JM _ _),bW w _ _,JL (JM w _) (JM _ _)⟩
theorem M0.grow {w W W':ae}{xs:ax ah}(h:M0 w xs W)(hb:ai W.heap.size W W'):M0 w xs W':=
 ⟨h.x.keep hb,(hb.block _ (Qk h.res)).trans h.res,JL h.up hb⟩
theorem M0.axG {w W:ae}{xs cs zs:ax ah}(h:M0 w xs W)(t:TypeId)(mo:ag ah)(hmo:cs.toList=mo):
  MZ w xs (W.heap.size+1) (W.heap.size+2) zs (some ⟨W.heap.size,0,none⟩) none none mo [] [] (((W.alloc (.cells cs t)).alloc (.cells OQ 69)).setRow (W.heap.size+1) zs):=by
 have hlt:=Qk h.res;have hh:((W.alloc (.cells cs t)).alloc (.cells OQ 69)).heap[W.heap.size+1]? =some (.cells OQ 69 (0,0)):=bW W _ _;have hb:ai W.heap.size W (((W.alloc (.cells cs t)).alloc (.cells OQ 69)).setRow (W.heap.size+1) zs):=aic (JL (JM W _) (JM _ _)) (by omega);refine⟨h.x.keep hb,(hb.block _ hlt).trans h.res,aQ _ _ _ _ _ _ hh,by omega,by omega,by simp[World.setRow],JL h.up hb,?_,.nil,.nil⟩;refine .inr ⟨W.heap.size,0,rfl,by omega,by omega,by omega,fun j u hu=>?_⟩;rw[aT];have h1:(((W.alloc (.cells cs t)).alloc (.cells OQ 69)).setRow (W.heap.size+1) zs).heap[W.heap.size]? =some (.cells cs t (0,0)):=(cZ _ _ _ _ (by omega)).trans (dJ W _ _);rw[aC _ _ j _ _ _ h1,<-eQ,hmo];exact hu
theorem MZ.axs {w W:ae}{xs zs:ax ah}{zb B:Nat}{A R C:aj Addr}{mo ru:ag ah}(h:MZ w xs zb B zs A R C mo ru [] W)(cs1 cs2:ax ah)(t1 t2:TypeId)(l1 l2:ag ah)(e1:cs1.toList=l1)(e2:cs2.toList=l2):
  MZ w xs zb (W.heap.size+2) zs (some ⟨W.heap.size,0,none⟩) (some ⟨W.heap.size+1,0,none⟩) none l1 l2 [] ((W.alloc (.cells cs1 t1)).alloc (.cells cs2 t2)):=by
 have hb:ai W.heap.size W ((W.alloc (.cells cs1 t1)).alloc (.cells cs2 t2)):=JL (JM W _) (JM _ _);have hg:=h.grow hb;have hz:=h.zlt;have hlo:=h.lo;refine⟨hg.x,hg.res,hg.z,hg.lo,by omega,by simp,hg.up,.inr ⟨W.heap.size,0,rfl,by omega,by omega,by omega,fun j u hu=>?_⟩,.inr ⟨W.heap.size+1,0,rfl,by omega,by omega,by omega,fun j u hu=>?_⟩,.nil⟩
 ·rw[aT,aC _ _ j _ _ _ (dJ W _ _),<-eQ,e1];exact hu
 ·rw[aT,aC _ _ j _ _ _ (bW W _ _),<-eQ,e2];exact hu
theorem aoe (x:RwZ):QI x=x.LM.length\/QI x=x.NH.length\/QI x=3:=by
 have e:QI x=min (min x.LM.length x.NH.length) 3:=rfl;omega
def av5 (w:ae)(x:RwZ)(xs:ax ah)(zb B:Nat)(zs:ah->ax ah)(A R:aj Addr)(mo ru:ag ah)(cnt:Nat)(a i:ah)(wr:ae):Prop:=
 ∃(k cc:Nat) (C:aj Addr),k<=cnt/\a=.int .i64 (Xa x.LM k)/\i=.int .i64 k/\Om B wr C k cc (PY x.LM x.NH k)/\MZ w xs zb B (zs (.slice C k cc)) A R none mo ru [] wr
theorem X7 {w W:ae}{A:aj Addr}{bs:ag au}(h:JS w w.heap.size A (bs.map Extern.Stop.cell))(hb:ai w.heap.size w W)(h0:0<bs.length):∃b off,A=some ⟨b,off,none⟩/\b<w.heap.size/\∀k,k<bs.length->W.cell? ⟨b,off+k,none⟩=some (.int .u8 ((bs[k]?.getD 0).toNat:Int)):=by
 obtain⟨b,off,e,hb1,hc⟩:=h.there (by rw[aI];exact h0);refine⟨b,off,e,hb1,fun k hk=>?_⟩;rw[hb.cell (p:=⟨b,off+k,none⟩) hb1];exact hc k _ (by rw[aJ,KL hk];rfl)
theorem afW (g o:ag au)(k:Nat):(PY g o (k+1)).flatMap Tr.cells=(PY g o k).flatMap Tr.cells++ [I (Xa g (k+1)),I (Q9 (o[k]?.getD 0).toNat)]:=by
 simp[PY,Tr.cells]
theorem Om.ap0 {lo n c zb o:Nat}{w:ae}{A:aj Addr}{ts:ag Tr}(h:Om lo w A n c ts)(hz:zb<lo)(v:ah):Om lo (w.setCell ⟨zb,o,none⟩ v) A n c ts:=kW (a:=⟨zb,o,none⟩) h hz v
theorem own_base {w:ae}{base e size n:Nat}{v:ah}{xs:ag ah}(h:w.ownsRow base e size v n xs):∀g,v.ownBlock=some g->base<=g:=fun g hg=>(dU h g hg).1
theorem acs {v:ah}{b:Nat}(h:∀g,v.ownBlock=some g->g<b):some b≠v.ownBlock:=fun e=>by have:=h b e.symm;omega
theorem Row.grown {w w':ae}{b:Nat}{cs:ax ah}{row:aj Nat}(h:Row w b cs)(hg:w.grownBy w' row)(hn:some b≠row):Row w' b cs:=
 ⟨LK h.1 hg.size,fun i=>(bI (a:=⟨b,i,none⟩) (hg.block b h.1 hn)).trans (h.2 i)⟩
def YQ (yv:Nat)(a b c d:ah)(w:ae):Prop:=w.cell? ⟨yv,0,none⟩=some a/\w.cell? ⟨yv,1,none⟩=some b/\w.cell? ⟨yv,2,none⟩=some c/\w.cell? ⟨yv,3,none⟩=some d
theorem YQ.of {yv:Nat}{a b c d:ah}{w:ae}(h:Row w yv #[a,b,c,d]):YQ yv a b c d w:=⟨h.2 0,h.2 1,h.2 2,h.2 3⟩
theorem MZ.next {w W:ae}{xs zs:ax ah}{zb B n c:Nat}{A R C:aj Addr}{mo ru:ag ah}{ts:ag Tr}(h:MZ w xs zb B zs A R none mo ru [] W)(ho:Om B W C n c ts)(hl:w.heap.size+2<=B):MZ w xs zb W.heap.size zs A R C mo ru (ts.flatMap Tr.cells) W:=
 ⟨h.x,h.res,h.z,h.lo,h.zlt,ay _,h.up,h.mon.more h.sz,h.rul.more h.sz,LZ.Le ho hl h.hi (ay _)⟩
end Go.Proofs.YtbaehbbonkljpaaGreatDoor
