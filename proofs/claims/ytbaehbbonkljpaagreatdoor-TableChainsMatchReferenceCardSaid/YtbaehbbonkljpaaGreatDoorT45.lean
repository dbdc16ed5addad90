import Derived.Test.YtbaehbbonkljpaaGreatDoorT44
set_option linter.unusedVariables false
set_option maxRecDepth 10000
set_option maxHeartbeats 8000000
namespace Go.Proofs.YtbaehbbonkljpaaGreatDoor
open Go Go.RowKit
def TbQ (w:ae)(X:Tb×ag Ze)(r:Int)(e:Ending)(w':ae):Prop:=
 ∃y:Kv,Pq y=X/\e=.returned (.tuple #[.agg (JK y.t (.slice y.A y.zs.length y.c)),I r])/\Ld w' w'.heap.size y/\ai w.heap.size w w'
theorem TbQ.zero (w w':ae)(r:Int)(h:ai w.heap.size w w'):TbQ w (J8,[]) r (.returned (.tuple #[.agg (JK J8 (.slice none 0 0)),I r])) w':=
 ⟨⟨J8,none,0,[]⟩,rfl,rfl,⟨rfl,rfl,rfl,⟨.inl rfl,fun _ h=>nomatch h⟩⟩,h⟩
def UT (ts:ag Kv)(v:Int):(Tb×ag Ze)×Int:=if v<1\/(ts.length:Int)<v then ((J8,[]),4) else match ts[(v - 1).toNat]? with
 |some x=>(Pq x,0)
 |none=>((J8,[]),4)
theorem agc (w:ae)(A:aj Addr)(n c:Nat)(ts:ag Kv)(hn:ts.length=n)(hn1:n<=1000)(hl:TC ts)(hC:LJ w w.heap.size A ts)(v:Int)(hv: -1<=v/\v<=1000):
  Calls Tryz.prog 17 #[.slice A n c,I v] w (TbQ w (UT ts v).1 (UT ts v).2):=by
 have HW0:=JJ (AV.new w (JK J8 (.slice none 0 0)) 26);have HB0:=JJ (JM w (.cells (JK J8 (.slice none 0 0)) 26));have YN:Hid ((Tryz.prog.info? 26).map (·.size)=some (JK J8 (.slice none 0 0)).size):=JJ (Ky J8 _ rfl rfl);by_cases h1:v<1
 ·rw[show UT ts v=((J8,[]),4) from bD (Or.inl h1)];clear hC hl;go_enter Tryz.func17,Tryz.ntmps17;go_wp2_with(first
   |((with_reducible refine Kz 26 ?_);refine JW rfl _ rfl (JK J8 (.slice none 0 0)) KQ ?_)
   |((with_reducible refine LY 26 ?_);refine KE rfl _ rfl (JK J8 (.slice none 0 0)) (by kernel_rfl) ?_)
   |((with_reducible refine KZ 26 ?_);refine aB rfl _ _ _ rfl w.heap.size (JK J8 (.slice none 0 0)) rfl rfl 26 (JK J8 (.slice none 0 0)) HW0.out.var YN.out rfl (J9 _ _ _ _) ?_))
  refine aX (v:=.tuple #[.agg (JK J8 (.slice none 0 0)),I 4]) (Ko rfl _ _ w.heap.size _ (JK J8 (.slice none 0 0)) (0,0) _ rfl (aQ _ _ _ _ _ _ HW0.out.var) az rfl YN.out _ rfl) rfl ?_;exact TbQ.zero _ _ _ (JR HB0.out (ay _) _)
 by_cases h2:(n:Int)<v
 ·rw[show UT ts v=((J8,[]),4) from bD (Or.inr (by rw[hn];exact h2))];clear hC hl;go_enter Tryz.func17,Tryz.ntmps17;go_wp2_with(first
   |((with_reducible refine Kz 26 ?_);refine JW rfl _ rfl (JK J8 (.slice none 0 0)) KQ ?_)
   |((with_reducible refine LY 26 ?_);refine KE rfl _ rfl (JK J8 (.slice none 0 0)) (by kernel_rfl) ?_)
   |((with_reducible refine KZ 26 ?_);refine aB rfl _ _ _ rfl w.heap.size (JK J8 (.slice none 0 0)) rfl rfl 26 (JK J8 (.slice none 0 0)) HW0.out.var YN.out rfl (J9 _ _ _ _) ?_))
  refine aX (v:=.tuple #[.agg (JK J8 (.slice none 0 0)),I 4]) (Ko rfl _ _ w.heap.size _ (JK J8 (.slice none 0 0)) (0,0) _ rfl (aQ _ _ _ _ _ _ HW0.out.var) az rfl YN.out _ rfl) rfl ?_;exact TbQ.zero _ _ _ (JR HB0.out (ay _) _)
 obtain⟨k,hk⟩:∃k:Nat,(v - 1).toNat=k:=⟨_,rfl⟩;have he:v - 1=(k:Int):=by omega
 obtain⟨x,hx⟩:∃x,ts[k]? =some x:=⟨_,KL (by omega)⟩;have hxm:=LQ hx;rw[show UT ts v=(Pq x,0) by unfold UT;rw[bP (by omega),hk,hx]];obtain⟨cb,co,rfl,hcb,hTA⟩:∃b off,A=some ⟨b,off,none⟩/\b<w.heap.size/\OC w b off ts:=by
  rcases OG hC with h0|h0
  ·omega
  ·exact h0
 have PU:=JJ (hC.each x hxm);have Uj:Hid ((w.alloc (.cells (JK J8 (.slice none 0 0)) 26)).rangeAt cb (co+k*68) x.cells):=JJ (JY (hTA k x hx).1 HB0.out hcb);have Ud:Hid ((Tryz.prog.info? 26).map (·.size)=some x.cells.length):=JJ (by rw[(hTA k x hx).2];kernel_rfl);have UZ:Hid ((Tryz.prog.info? 26).map (·.size)=some x.cells.toArray.size):=JJ (Ky x.t _ PU.out.prev PU.out.Ku);have HXZ:Hid ((JK J8 (.slice none 0 0)).size=x.cells.toArray.size):=JJ ((Kq J8 _ rfl rfl).trans (Kq x.t (.slice x.A x.zs.length x.c) PU.out.prev PU.out.Ku).symm);have i0:(0:Int)<=(k:Int):=by omega
 have i1:(k:Int)<(n:Int):=by omega
 clear hx hxm hTA hk hC hl hn;go_enter Tryz.func17,Tryz.ntmps17;go_wp2_with(first
  |((with_reducible refine Kz 26 ?_);refine JW rfl _ rfl (JK J8 (.slice none 0 0)) KQ ?_)
  |((with_reducible refine KO 26 ?_);refine Kt rfl _ _ rfl cb (co+k*68) rfl x.cells Uj.out _ az rfl Ud.out ?_)
  |((with_reducible refine KZ 26 ?_);refine aB rfl _ _ _ rfl w.heap.size x.cells.toArray rfl rfl 26 (JK J8 (.slice none 0 0)) HW0.out.var UZ.out HXZ.out (J9 _ _ _ _) ?_))
 refine aX (v:=.tuple #[.agg x.cells.toArray,I 0]) (Ko rfl _ _ w.heap.size _ x.cells.toArray (0,0) _ rfl (aQ _ _ _ _ _ _ HW0.out.var) az rfl UZ.out _ rfl) rfl ?_;exact⟨x,rfl,rfl,PU.out.grow (JR HB0.out (ay _) _),JR HB0.out (ay _) _⟩
theorem ai7 (w:ae)(A:aj Addr)(n c:Nat)(ts:ag Kv)(hn:ts.length=n)(hn1:n<=1000)(hl:TC ts)(hC:LJ w w.heap.size A ts)(v:Int)(hv: -1<=v/\v<=1000):
  Calls Tryz.prog 16 #[.slice A n c,I v] w (TbQ w (UT ts v).1 (UT ts v).2):=by
 have HW0:=JJ (AV.new w (JK J8 (.slice none 0 0)) 26);have HB0:=JJ (JM w (.cells (JK J8 (.slice none 0 0)) 26));have YN:Hid ((Tryz.prog.info? 26).map (·.size)=some (JK J8 (.slice none 0 0)).size):=JJ (Ky J8 _ rfl rfl);by_cases h1:v<1
 ·rw[show UT ts v=((J8,[]),4) from bD (Or.inl h1)];clear hC hl;go_enter nU,mW;go_wp2_with(first
   |((with_reducible refine Kz 26 ?_);refine JW rfl _ rfl (JK J8 (.slice none 0 0)) KQ ?_)
   |((with_reducible refine LY 26 ?_);refine KE rfl _ rfl (JK J8 (.slice none 0 0)) (by kernel_rfl) ?_)
   |((with_reducible refine KZ 26 ?_);refine aB rfl _ _ _ rfl w.heap.size (JK J8 (.slice none 0 0)) rfl rfl 26 (JK J8 (.slice none 0 0)) HW0.out.var YN.out rfl (J9 _ _ _ _) ?_))
  refine aX (v:=.tuple #[.agg (JK J8 (.slice none 0 0)),I 4]) (Ko rfl _ _ w.heap.size _ (JK J8 (.slice none 0 0)) (0,0) _ rfl (aQ _ _ _ _ _ _ HW0.out.var) az rfl YN.out _ rfl) rfl ?_;exact TbQ.zero _ _ _ (JR HB0.out (ay _) _)
 by_cases h2:(n:Int)<v
 ·rw[show UT ts v=((J8,[]),4) from bD (Or.inr (by rw[hn];exact h2))];clear hC hl;go_enter nU,mW;go_wp2_with(first
   |((with_reducible refine Kz 26 ?_);refine JW rfl _ rfl (JK J8 (.slice none 0 0)) KQ ?_)
   |((with_reducible refine LY 26 ?_);refine KE rfl _ rfl (JK J8 (.slice none 0 0)) (by kernel_rfl) ?_)
   |((with_reducible refine KZ 26 ?_);refine aB rfl _ _ _ rfl w.heap.size (JK J8 (.slice none 0 0)) rfl rfl 26 (JK J8 (.slice none 0 0)) HW0.out.var YN.out rfl (J9 _ _ _ _) ?_))
  refine aX (v:=.tuple #[.agg (JK J8 (.slice none 0 0)),I 4]) (Ko rfl _ _ w.heap.size _ (JK J8 (.slice none 0 0)) (0,0) _ rfl (aQ _ _ _ _ _ _ HW0.out.var) az rfl YN.out _ rfl) rfl ?_;exact TbQ.zero _ _ _ (JR HB0.out (ay _) _)
 obtain⟨k,hk⟩:∃k:Nat,(v - 1).toNat=k:=⟨_,rfl⟩;have he:v - 1=(k:Int):=by omega
 obtain⟨x,hx⟩:∃x,ts[k]? =some x:=⟨_,KL (by omega)⟩;have hxm:=LQ hx;rw[show UT ts v=(Pq x,0) by unfold UT;rw[bP (by omega),hk,hx]];obtain⟨cb,co,rfl,hcb,hTA⟩:∃b off,A=some ⟨b,off,none⟩/\b<w.heap.size/\OC w b off ts:=by
  rcases OG hC with h0|h0
  ·omega
  ·exact h0
 have PU:=JJ (hC.each x hxm);have Uj:Hid ((w.alloc (.cells (JK J8 (.slice none 0 0)) 26)).rangeAt cb (co+k*68) x.cells):=JJ (JY (hTA k x hx).1 HB0.out hcb);have Ud:Hid ((Tryz.prog.info? 26).map (·.size)=some x.cells.length):=JJ (by rw[(hTA k x hx).2];kernel_rfl);have UZ:Hid ((Tryz.prog.info? 26).map (·.size)=some x.cells.toArray.size):=JJ (Ky x.t _ PU.out.prev PU.out.Ku);have HXZ:Hid ((JK J8 (.slice none 0 0)).size=x.cells.toArray.size):=JJ ((Kq J8 _ rfl rfl).trans (Kq x.t (.slice x.A x.zs.length x.c) PU.out.prev PU.out.Ku).symm);have i0:(0:Int)<=(k:Int):=by omega
 have i1:(k:Int)<(n:Int):=by omega
 have Ov:Hid (∀W,ai w.heap.size w W->Calls Tryz.prog 36 #[.agg x.cells.toArray] W (ClV W x)):=JJ fun W hb=>Ut x x.zs.length W rfl (hl x hxm).1 (hl x hxm).2 (PU.out.grow hb);clear hx hxm hTA hk hC hl hn;go_enter nU,mW;go_wp2_with(first
  |((with_reducible refine Kz 26 ?_);refine JW rfl _ rfl (JK J8 (.slice none 0 0)) KQ ?_)
  |((with_reducible refine KO 26 ?_);refine Kt rfl _ _ rfl cb (co+k*68) rfl x.cells Uj.out _ az rfl Ud.out ?_))
 refine(Ov.out _ HB0.out).mono ?_;rintro e w2 ⟨y,hy1,hy2,rfl,hy3,hb2⟩;have HTK:Hid (Pq y=Pq x):=JJ (by unfold Pq;rw[hy1,hy2]);have HYA:Hid (Ld w2 w2.heap.size y):=JJ hy3.at;have XZ:Hid (∀cs:ax ah,Ld (w2.setRow w.heap.size cs) (w2.setRow w.heap.size cs).heap.size y):=JJ fun cs=>(hy3.Kr (by simp[World.setRow]) fun j h1 _=>cZ _ _ j _ (by simp at h1;omega)).at;have HW2:Hid (w2.heap[w.heap.size]? =some (.cells (JK J8 (.slice none 0 0)) 26 (0,0))):=JJ ((hb2.block _ (by simp)).trans HW0.out.var);have HB2:=JJ (JL HB0.out hb2);clear hy1 hy2 hy3 hb2;have HYI:Hid ((Tryz.prog.info? 26).map (·.size)=some (JK y.t (.slice y.A y.zs.length y.c)).size):=JJ (Ky y.t _ HYA.out.prev HYA.out.Ku);have HYZ:Hid ((JK J8 (.slice none 0 0)).size=(JK y.t (.slice y.A y.zs.length y.c)).size):=JJ ((Kq J8 _ rfl rfl).trans (Kq y.t _ HYA.out.prev HYA.out.Ku).symm);go_wp2_with((with_reducible refine KZ 26 ?_);refine aB rfl _ _ _ rfl w.heap.size (JK y.t (.slice y.A y.zs.length y.c)) rfl rfl 26 (JK J8 (.slice none 0 0)) HW2.out HYI.out HYZ.out (J9 _ _ _ _) ?_);refine aX (v:=.tuple #[.agg (JK y.t (.slice y.A y.zs.length y.c)),I 0]) (Ko rfl _ _ w.heap.size _ (JK y.t (.slice y.A y.zs.length y.c)) (0,0) _ rfl (aQ _ _ _ _ _ _ HW2.out) az rfl HYI.out _ rfl) rfl ?_;exact⟨y,HTK.out,rfl,XZ.out _,JR HB2.out (ay _) _⟩
def wdI (ts:ag Kv)(i:Nat):Int:=(ts[i]?.map (·.t.JU)).getD 0
def zlI (ts:ag Kv)(i:Nat):Nat:=(ts[i]?.map (·.zs.length)).getD 0
def maI (ts:ag Kv)(i:Nat):Bool:=decide (wdI ts i=0\/0<zlI ts i)
def RS (ts:ag Kv):Nat->ag Bool
 |0=>List.replicate ts.length false
 |k+1=>if (RS ts k)[ts.length - 1 - k]?.getD false=false/\0<wdI ts (ts.length - 1 - k) then (RS ts k).set (wdI ts (ts.length - 1 - k) - 1).toNat true else RS ts k
def YZ (ts:ag Kv)(g:ag Bool):Nat->aj Nat
 |0=>none
 |k+1=>match YZ ts g k with
  |some i=>some i
  |none=>if g[ts.length - 1 - k]?.getD false=false/\maI ts (ts.length - 1 - k)=true then some (ts.length - 1 - k) else none
def onI:aj Nat->Int
 |none=> -1
 |some i=>(i:Int)
theorem Xm (ts:ag Kv):∀k:Nat,(RS ts k).length=ts.length
 |0=>by simp[RS]
 |k+1=>by
  unfold RS;split
  ·rw[eu,Xm ts k]
  ·exact Xm ts k
theorem al3 {ts:ag Kv}(h:RD ts=true)(i:Nat):0<=wdI ts i/\wdI ts i<=(i:Int):=by
 unfold wdI;cases hx:ts[i]? with
 |none=>exact⟨by show(0:Int)<=0;omega,by show(0:Int)<=i;omega⟩
 |some x=>
  have h1:=ace h i x hx;unfold Vm at h1;simp only[eX,eP] at h1;exact h1.2
theorem ahv {ts:ag Kv}(h:RD ts=true)(i:Nat):∀(d k:Nat),ts.length - 1 - k<=i->(RS ts (k+d))[i]?.getD false=(RS ts k)[i]?.getD false
 |0,_,_=>rfl
 |d+1,k,hk=>by
  rw[<-ahv h i d k hk];show(RS ts (k+d+1))[i]?.getD false=_;have hb:=al3 h (ts.length - 1 - (k+d));rw[RS];split
  ·rename_i hc;rw[gQ (by omega)]
  ·rfl
theorem akp {ts:ag Kv}(h:RD ts=true)(k:Nat)(hk:k<=ts.length):
  (∀j:Nat,(Lu ts (bkL ts k)).2[j+1]?.getD false=(RS ts k)[j]?.getD false)/\(Lu ts (bkL ts k)).1=onI (YZ ts (RS ts ts.length) k):=by
 induction k with
 |zero=>
  refine⟨fun j=>?_,rfl⟩;show(List.replicate (ts.length+1) false)[j+1]?.getD false=(List.replicate ts.length false)[j]?.getD false;simp only[mg];by_cases hj:j<ts.length
  ·rw[bD hj,bD (by omega)]
  ·rw[bP hj,bP (by omega)]
 |succ k ih=>
  obtain⟨h1,h2⟩:=ih (by omega);have hi:ts.length - 1 - k<ts.length:=by omega
  obtain⟨x,hx⟩:∃x,ts[ts.length - 1 - k]? =some x:=⟨_,KL hi⟩;have hw:=al3 h (ts.length - 1 - k);have ew:wdI ts (ts.length - 1 - k)=x.t.JU:=by unfold wdI;rw[hx];rfl
  have ez:zlI ts (ts.length - 1 - k)=x.zs.length:=by unfold zlI;rw[hx];rfl
  have hg:(RS ts ts.length)[ts.length - 1 - k]?.getD false=(RS ts k)[ts.length - 1 - k]?.getD false:=by
   have h3:=ahv h (ts.length - 1 - k) (ts.length - k) k (ay _)
   rwa [show k+(ts.length - k)=ts.length by omega] at h3
  have hl:=X8 ts (bkL ts k);have hcs:Lu ts (bkL ts (k+1))=Nw (Lu ts (bkL ts k)) (ts.length - 1 - k,x):=by
   rw[adG ts k _ x hx rfl];exact Xd ts (bkL ts k) ⟨(ts.length - 1 - k,x),hx⟩
  rw[hcs];clear hcs;have hj1:=h1 (ts.length - 1 - k);generalize Lu ts (bkL ts k)=st at h1 h2 hl hj1⊢;obtain⟨p,gl⟩:=st;simp only at h1 h2 hl hj1;unfold Nw;simp only;rw[hj1];by_cases adW:(RS ts k)[ts.length - 1 - k]?.getD false=true
  ·rw[bD adW];refine⟨fun j=>?_,?_⟩
   ·rw[RS,bP (by rw[adW];rintro⟨h3,_⟩;cases h3)];exact h1 j
   ·show p=onI (YZ ts (RS ts ts.length) (k+1));rw[YZ,h2];cases YZ ts (RS ts ts.length) k with
    |some i=>rfl
    |none=>
     simp only;rw[bP (by rw[hg,adW];rintro⟨h3,_⟩;cases h3)]
  ·have hgf:(RS ts k)[ts.length - 1 - k]?.getD false=false:=by simpa using adW
   rw[bP adW];refine⟨fun j=>?_,?_⟩
   ·simp only;rw[RS];by_cases hp:0<x.t.JU
    ·rw[bD hp,bD ⟨hgf,by rw[ew];exact hp⟩,ew];have hwn:x.t.JU<=((ts.length - 1 - k:Nat):Int):=by rw[<-ew];exact hw.2
     by_cases hj:(x.t.JU - 1).toNat=j
     ·have e1:x.t.JU.toNat=j+1:=by omega
      rw[e1,hj,iJ (by rw[hl];omega),iJ (by rw[Xm];omega)]
     ·rw[gQ (by omega),gQ hj];exact h1 j
    ·rw[bP hp,bP (by rw[ew];exact fun h3=>hp h3.2)];exact h1 j
   ·show(if p<0/\(x.t.JU=0\/0<x.zs.length) then ((ts.length - 1 - k:Nat):Int) else p)=onI (YZ ts (RS ts ts.length) (k+1));rw[YZ,h2];cases YZ ts (RS ts ts.length) k with
    |some i=>exact bP (fun h3=>absurd h3.1 (by show¬((i:Int)<0);omega))
    |none=>
     have em:maI ts (ts.length - 1 - k)=decide (x.t.JU=0\/0<x.zs.length):=by unfold maI;rw[ew,ez]
     show _=onI (if (RS ts ts.length)[ts.length - 1 - k]?.getD false=false/\maI ts (ts.length - 1 - k)=true then some (ts.length - 1 - k) else none);rw[hg,hgf,em];by_cases hq:x.t.JU=0\/0<x.zs.length
     ·refine(bD ⟨by decide,hq⟩).trans ?_;rw[bD ⟨rfl,aZ hq⟩];rfl
     ·refine(bP (fun h3=>hq h3.2)).trans ?_;rw[bP (fun h3=>hq (gZ h3.2))]
theorem ag0 {ts:ag Kv}(h:RD ts=true):(TM ts).1=onI (YZ ts (RS ts ts.length) ts.length):=by
 unfold TM;rw[bD h];exact(akp h ts.length (ay _)).2
structure GoV (w:ae)(g:Nat)(gl:ag Bool)(W:ae):Prop where
 row:W.heap[g]? =some (.cells (gl.map Value.bool).toArray 4 (0,0))
 up:ai w.heap.size w W
 ge:w.heap.size<=g
theorem GoV.cell {w W:ae}{g j:Nat}{gl:ag Bool}{b:Bool}(h:GoV w g gl W)(hj:j<gl.length)(hb:gl[j]?.getD false=b):W.cell? ⟨g,j,none⟩=some (.bool b):=by
 rw[aC _ _ j _ _ _ h.row,eU,aJ];obtain⟨v,hv⟩:∃v,gl[j]? =some v:=⟨_,KL hj⟩;rw[hv] at hb⊢;obtain rfl:v=b:=hb;rfl
theorem GoV.set {w W:ae}{g:Nat}{gl:ag Bool}(h:GoV w g gl W)(m:Nat):GoV w g (gl.set m true) (W.setCell ⟨g,m,none⟩ (.bool true)):=
 ⟨by rw[bJ W _ m _ _ _ h.row];simp[List.map_set],h.up.setCell (p:=⟨g,m,none⟩) h.ge _,h.ge⟩
theorem GoV.grow {w W W':ae}{g:Nat}{gl:ag Bool}(h:GoV w g gl W)(hb:ai W.heap.size W W'):GoV w g gl W':=
 ⟨(hb.block _ (KY.1 h.row).1).trans h.row,JL h.up hb,h.ge⟩
theorem as1 {ts:ag Kv}{j:Nat}{x:Kv}(h:ts[j]? =some x):wdI ts j=x.t.JU:=by unfold wdI;rw[h];rfl
theorem aou {ts:ag Kv}{k j n d:Nat}(hn:ts.length=n)(hj:n - 1 - k=j)(h1:(RS ts k)[j]?.getD false=false)(h2:wdI ts j - 1=(d:Int))(h3:0<wdI ts j):(RS ts k).set d true=RS ts (k+1):=by
 show _=if _ then _ else _;rw[hn,hj,bD ⟨h1,h3⟩,h2];rfl
theorem alC {ts:ag Kv}{k j n:Nat}(hn:ts.length=n)(hj:n - 1 - k=j)(h1:(RS ts k)[j]?.getD false=true\/¬0<wdI ts j):RS ts k=RS ts (k+1):=by
 show _=if _ then _ else _;rw[hn,hj,bP];rintro⟨h2,h3⟩;rcases h1 with h1|h1
 ·rw[h1] at h2;cases h2
 ·exact h1 h3
def WdP (w:ae)(n:Nat)(ts:ag Kv)(e:Ending)(w':ae):Prop:=
 ∃g,e=.returned (.slice (some ⟨g,0,none⟩) n n)/\GoV w g (RS ts n) w'
theorem aab (w:ae)(A:aj Addr)(n c:Nat)(ts:ag Kv)(hn:ts.length=n)(hn1:n<=1000)(hC:LJ w w.heap.size A ts)(hok:RD ts=true):
  Calls Tryz.prog 42 #[.slice A n c] w (WdP w n ts):=by
 have HN:=JJ hn;have HTA:=JJ (OG hC);have HOK:=JJ hok;have HLEN:Hid (∀k,(RS ts k).length=n):=JJ fun k=>by rw[Xm,hn]
 have hmk:=fun W=>ZQ n (by omega) W;have HG0:Hid (GoV w w.heap.size (RS ts 0) (w.alloc (.cells (Array.replicate n (.bool false)) 4))):=JJ ⟨by rw[aF];simp[RS,hn],JM w _,ay _⟩;clear hn hC hok;go_enter Tryz.func42,Tryz.ntmps42;go_wp2_with fail;generalize w.alloc (.cells (Array.replicate n (.bool false)) 4)=W0 at HG0⊢;obtain⟨g,hg⟩:∃g,w.heap.size=g:=⟨_,rfl⟩;rw[show GoV w w.heap.size=GoV w g by rw[hg]] at HG0;rw[hg];clear hmk
 go_loopw [4] (fun i wr=>∃(k:Nat) (q:Int),k<=n/\i=I q/\q=(n:Int) - 1 - k/\GoV w g (RS ts k) wr) (fun i _=>(intOf i+1).toNat)
 case atStart=>exact⟨0,_,aG _,rfl,by omega,HG0.out⟩
 case round=>
  obtain⟨k,q,hk,rfl,hq,hv⟩:=hrel;have HV:=JJ hv;clear hv HG0;by_cases hlt:k<n
  ·obtain⟨j,hj⟩:∃j:Nat,n - 1 - k=j:=⟨_,rfl⟩;obtain rfl:q=(j:Int):=by omega
   have hjn:j<n:=by omega
   obtain⟨x,hx⟩:∃x,ts[j]? =some x:=⟨_,KL (by rw[HN.out];exact hjn)⟩;obtain⟨cb,co,rfl,hcb,hTA⟩:∃b off,A=some ⟨b,off,none⟩/\b<w.heap.size/\OC w b off ts:=by
    rcases HTA.out with h1|h1
    ·have:=HN.out;omega
    ·exact h1
   have cw:wr.cell? ⟨cb,co+j*68+2,none⟩=some (I x.t.JU):=JY (hTA j x hx).1 HV.out.up hcb 2 _ rfl;have HWD:=JJ (as1 hx);have HWB:=JJ (al3 HOK.out j);obtain⟨v,hwv⟩:∃v,x.t.JU=v:=⟨_,rfl⟩;rw[hwv] at cw HWD;obtain⟨b1,hb1⟩:∃b,(RS ts k)[j]?.getD false=b:=⟨_,rfl⟩;have cg:=HV.out.cell (by rw[HLEN.out];exact hjn) hb1;have HB1:=JJ hb1;have HJ:=JJ hj;have i0:(0:Int)<=(j:Int):=by omega
   have i1:(j:Int)<(n:Int):=by omega
   clear hx hTA hwv hb1;cases b1 with
   |true=>
    go_wp2_with fail;go_roundw
    case rel=>exact⟨k+1,(j:Int) - 1,by omega,by go_num,by omega,by rw[<-alC HN.out HJ.out (.inl HB1.out)];exact HV.out⟩
    case measure=>simp[intOf];omega
   |false=>
    by_cases hw:0<v
    ·obtain⟨d,hd⟩:∃d:Nat,v - 1=(d:Int):=⟨(v - 1).toNat,by omega⟩;have hdn:d<n:=by
      have h1:=HWB.out.2;rw[HWD.out] at h1;omega
     obtain⟨b2,hb2⟩:∃b,(RS ts k)[d]?.getD false=b:=⟨_,rfl⟩;have cd:=HV.out.cell (by rw[HLEN.out];exact hdn) hb2;have fd:wr.frozen? ⟨g,d,none⟩=false:=aP _ _ d _ _ HV.out.row;have HS:Hid (GoV w g (RS ts (k+1)) (wr.setCell ⟨g,d,none⟩ (.bool true))):=JJ (by
      rw[<-aou HN.out HJ.out HB1.out (by rw[HWD.out];exact hd) (by rw[HWD.out];exact hw)];exact HV.out.set d)
     have d0:(0:Int)<=(d:Int):=by omega
     have d1:(d:Int)<(n:Int):=by omega
     clear hb2;go_wp2_with fail;go_roundw
     case rel=>exact⟨k+1,(j:Int) - 1,by omega,by go_num,by omega,HS.out⟩
     case measure=>simp[intOf];omega
    ·go_wp2_with fail;go_roundw
     case rel=>exact⟨k+1,(j:Int) - 1,by omega,by go_num,by omega,by rw[<-alC HN.out HJ.out (.inr (by rw[HWD.out];exact hw))];exact HV.out⟩
     case measure=>simp[intOf];omega
  ·obtain rfl:k=n:=by omega
   obtain rfl:q= -1:=by omega
   go_wp2_with fail;go_ret;exact⟨g,rfl,HV.out⟩
def VN (ts:ag Kv):(Tb×ag Ze)×Int:=if RD ts=true then (match YZ ts (RS ts ts.length) ts.length with
 |some i=>(match ts[i]? with
  |some x=>(Pq x,0)
  |none=>((J8,[]),4))
 |none=>((J8,[]),4)) else ((J8,[]),1)
theorem Xk {ts:ag Kv}(h:RD ts=false):VN ts=((J8,[]),1):=by unfold VN;rw[h];rfl
theorem aei {ts:ag Kv}{G:ag Bool}{k i:Nat}(h:YZ ts G k=some i):∀d:Nat,YZ ts G (k+d)=some i
 |0=>h
 |d+1=>by
  show(match YZ ts G (k+d) with|some i=>some i|none=>_)=some i;rw[aei h d]
theorem acu {ts:ag Kv}{n k i:Nat}{x:Kv}(h:RD ts=true)(hn:ts.length=n)(hk:k<=n)(hr:YZ ts (RS ts n) k=some i)(hx:ts[i]? =some x):VN ts=(Pq x,0):=by
 unfold VN;have h1:=aei hr (n - k);rw[show k+(n - k)=n by omega] at h1;rw[bD h,hn,h1];simp only[hx]
theorem ahg {ts:ag Kv}{n:Nat}(h:RD ts=true)(hn:ts.length=n)(hr:YZ ts (RS ts n) n=none):VN ts=((J8,[]),4):=by
 unfold VN;rw[bD h,hn,hr]
theorem ahs {ts:ag Kv}{G:ag Bool}{n k j:Nat}(hn:ts.length=n)(hj:n - 1 - k=j)(h0:YZ ts G k=none)(h1:G[j]?.getD false=false)(h2:maI ts j=true):YZ ts G (k+1)=some j:=by
 show(match YZ ts G k with|some i=>some i|none=>_)=some j;rw[h0,hn,hj];exact bD ⟨h1,h2⟩
theorem alz {ts:ag Kv}{G:ag Bool}{n k j:Nat}(hn:ts.length=n)(hj:n - 1 - k=j)(h0:YZ ts G k=none)(h1:G[j]?.getD false=true\/maI ts j=false):YZ ts G (k+1)=none:=by
 show(match YZ ts G k with|some i=>some i|none=>_)=none;rw[h0,hn,hj];refine bP ?_;rintro⟨h2,h3⟩;rcases h1 with h1|h1
 ·rw[h1] at h2;cases h2
 ·rw[h1] at h3;cases h3
theorem asv {ts:ag Kv}{j:Nat}{x:Kv}(h:ts[j]? =some x):maI ts j=decide (x.t.JU=0\/0<x.zs.length):=by unfold maI wdI zlI;rw[h];rfl
theorem acH {x:Tb}{i:Nat}(h:¬x.version=(i:Int)+1\/x.JU<0\/(i:Int)<x.JU):Vm x i=false:=by
 unfold Vm;rcases h with h|h|h
 ·rw[bT h];rfl
 ·rw[bT (show¬0<=x.JU by omega)];simp
 ·rw[bT (show¬x.JU<=(i:Int) by omega)];simp
theorem alO {x:Tb}{i:Nat}(h1:x.version=(i:Int)+1)(h2:0<=x.JU)(h3:x.JU<=(i:Int)):Vm x i=true:=by
 unfold Vm;rw[aZ h1,aZ h2,aZ h3];rfl
structure NwV (w W:ae):Prop where
 bx:AV w.heap.size 26 (JK J8 (.slice none 0 0)) W
 lo:ai w.heap.size w W
theorem NwV.grow {w W W':ae}(h:NwV w W)(hb:ai W.heap.size W W'):NwV w W':=⟨h.bx.below hb,JL h.lo hb⟩
theorem aiL (w:ae)(A:aj Addr)(n c:Nat)(ts:ag Kv)(hn:ts.length=n)(hn1:n<=1000)(hC:LJ w w.heap.size A ts):
  Calls Tryz.prog 15 #[.slice A n c] w (TbQ w (VN ts).1 (VN ts).2):=by
 have HN:=JJ hn;have HCA:=JJ hC;have HTA:=JJ (OG hC);have Uc:Hid (NwV w (w.alloc (.cells (JK J8 (.slice none 0 0)) 26))):=JJ ⟨AV.new w _ _,JM w _⟩;have YN:Hid ((Tryz.prog.info? 26).map (·.size)=some (JK J8 (.slice none 0 0)).size):=JJ (Ky J8 _ rfl rfl);clear hn hC;go_enter Tryz.func15,Tryz.ntmps15;go_upto_region 1 with ((with_reducible refine Kz 26 ?_);refine JW rfl _ rfl (JK J8 (.slice none 0 0)) KQ ?_);generalize w.alloc (.cells (JK J8 (.slice none 0 0)) 26)=W0 at Uc⊢;go_wp2_with fail
 go_loopw [4] (fun i wr=>∃k:Nat,k<=n/\i=I k/\(∀j x,j<k->ts[j]? =some x->Vm x.t j=true)/\NwV w wr) (fun i _=>n - (intOf i).toNat)
 case atStart=>exact⟨0,aG _,rfl,fun _ _ h=>absurd h (fD _),Uc.out⟩
 case round=>
  obtain⟨k,hk,rfl,hz,hv⟩:=hrel;have HS:=JJ hv;have HZ:=JJ hz;clear hv Uc hz;by_cases hlt:k<n
  ·obtain⟨x,hx⟩:∃x,ts[k]? =some x:=⟨_,KL (by rw[HN.out];exact hlt)⟩;obtain⟨cb,co,rfl,hcb,hTA⟩:∃b off,A=some ⟨b,off,none⟩/\b<w.heap.size/\OC w b off ts:=by
    rcases HTA.out with h1|h1
    ·have:=HN.out;omega
    ·exact h1
   have cv:wr.cell? ⟨cb,co+k*68+1,none⟩=some (I x.t.version):=JY (hTA k x hx).1 HS.out.lo hcb 1 _ rfl;have cw:wr.cell? ⟨cb,co+k*68+2,none⟩=some (I x.t.JU):=JY (hTA k x hx).1 HS.out.lo hcb 2 _ rfl;have HX:=JJ hx;obtain⟨v,hvv⟩:∃v,x.t.version=v:=⟨_,rfl⟩;obtain⟨d,hd⟩:∃v,x.t.JU=v:=⟨_,rfl⟩;rw[hvv] at cv;rw[hd] at cw;have HVV:=JJ hvv;have HDD:=JJ hd;have i0:(0:Int)<=(k:Int):=by omega
   have i1:(k:Int)<(n:Int):=by omega
   clear hx hTA;by_cases h1:v=(k:Int)+1
   ·have e1:(v !=(k:Int)+1)=false:=by simpa using h1
    by_cases h2:d<0
    ·clear hvv hd;go_wp2_with(first
      |((with_reducible refine LY 26 ?_);refine KE rfl _ rfl (JK J8 (.slice none 0 0)) (by kernel_rfl) ?_)
      |((with_reducible refine KZ 26 ?_);refine aB rfl _ _ _ rfl w.heap.size (JK J8 (.slice none 0 0)) rfl rfl 26 (JK J8 (.slice none 0 0)) HS.out.bx.var YN.out rfl (J9 _ _ _ _) ?_))
     refine aX (v:=.tuple #[.agg (JK J8 (.slice none 0 0)),I 1]) (Ko rfl _ _ w.heap.size _ (JK J8 (.slice none 0 0)) (0,0) _ rfl (aQ _ _ _ _ _ _ HS.out.bx.var) az rfl YN.out _ rfl) rfl ?_;rw[Xk (YT k x HX.out (acH (.inr (.inl (by rw[HDD.out];exact h2)))))];exact TbQ.zero _ _ _ (JR HS.out.lo (ay _) _)
    ·by_cases h3:(k:Int)<d
     ·clear hvv hd;go_wp2_with(first
       |((with_reducible refine LY 26 ?_);refine KE rfl _ rfl (JK J8 (.slice none 0 0)) (by kernel_rfl) ?_)
       |((with_reducible refine KZ 26 ?_);refine aB rfl _ _ _ rfl w.heap.size (JK J8 (.slice none 0 0)) rfl rfl 26 (JK J8 (.slice none 0 0)) HS.out.bx.var YN.out rfl (J9 _ _ _ _) ?_))
      refine aX (v:=.tuple #[.agg (JK J8 (.slice none 0 0)),I 1]) (Ko rfl _ _ w.heap.size _ (JK J8 (.slice none 0 0)) (0,0) _ rfl (aQ _ _ _ _ _ _ HS.out.bx.var) az rfl YN.out _ rfl) rfl ?_;rw[Xk (YT k x HX.out (acH (.inr (.inr (by rw[HDD.out];exact h3)))))];exact TbQ.zero _ _ _ (JR HS.out.lo (ay _) _)
     ·have aqR:Hid (Vm x.t k=true):=JJ (alO (by rw[hvv];exact h1) (by rw[hd];omega) (by rw[hd];omega));clear hvv hd;go_wp2_with fail;go_roundw
      case rel=>exact⟨k+1,by omega,by go_num,fun i y hi hy=>by
       by_cases hik:i<k
       ·exact HZ.out i y hik hy
       ·obtain rfl:i=k:=by omega
        obtain rfl:x=y:=iO (HX.out.symm.trans hy);exact aqR.out,HS.out⟩
      case measure=>simp[intOf];omega
   ·have e1:(v !=(k:Int)+1)=true:=by simpa using h1
    clear hvv hd;go_wp2_with(first
     |((with_reducible refine LY 26 ?_);refine KE rfl _ rfl (JK J8 (.slice none 0 0)) (by kernel_rfl) ?_)
     |((with_reducible refine KZ 26 ?_);refine aB rfl _ _ _ rfl w.heap.size (JK J8 (.slice none 0 0)) rfl rfl 26 (JK J8 (.slice none 0 0)) HS.out.bx.var YN.out rfl (J9 _ _ _ _) ?_))
    refine aX (v:=.tuple #[.agg (JK J8 (.slice none 0 0)),I 1]) (Ko rfl _ _ w.heap.size _ (JK J8 (.slice none 0 0)) (0,0) _ rfl (aQ _ _ _ _ _ _ HS.out.bx.var) az rfl YN.out _ rfl) rfl ?_;rw[Xk (YT k x HX.out (acH (.inl (by rw[HVV.out];exact h1))))];exact TbQ.zero _ _ _ (JR HS.out.lo (ay _) _)
  ·obtain rfl:k=n:=by omega
   have HOK:Hid (RD ts=true):=JJ (adL fun j x hx=>HZ.out j x (by have h1:=(MF.1 hx).1;have:=HN.out;omega) hx);have HWD:=JJ (aab wr A k c ts HN.out hn1 (HCA.out.grow HS.out.lo) HOK.out);have hlt':¬(k:Int)<(k:Int):=by omega
   clear HZ;go_wp2_with fail;refine HWD.out.mono ?_;rintro e w2 ⟨g,rfl,hg2⟩;have HS2:=JJ (HS.out.grow (hg2.up));have Qd:Hid (w2.heap[g]? =some (.cells ((RS ts k).map Value.bool).toArray 4 (0,0))/\w.heap.size<g):=JJ ⟨hg2.row,LK HS.out.bx.lt hg2.ge⟩;clear hg2 HS HWD hlt';go_wp2_with fail
   go_loopw [6] (fun i wr=>∃(m:Nat) (q:Int),m<=k/\i=I q/\q=(k:Int) - 1 - m/\YZ ts (RS ts k) m=none/\NwV w wr/\(wr.heap[g]? =some (.cells ((RS ts k).map Value.bool).toArray 4 (0,0))/\w.heap.size<g)) (fun i _=>(intOf i+1).toNat)
   case atStart=>exact⟨0,_,aG _,rfl,by omega,rfl,HS2.out,Qd.out⟩
   case round=>
    obtain⟨m,q,hm,rfl,hq,hno,hs,hv⟩:=hrel;have HS:=JJ hs;have HV:=JJ hv;have Za:=JJ hno;clear hs hv hno HS2 Qd;by_cases hlt:m<k
    ·obtain⟨j,hj⟩:∃j:Nat,k - 1 - m=j:=⟨_,rfl⟩;obtain rfl:q=(j:Int):=by omega
     have hjn:j<k:=by omega
     obtain⟨x,hx⟩:∃x,ts[j]? =some x:=⟨_,KL (by rw[HN.out];exact hjn)⟩;obtain⟨cb,co,rfl,hcb,hTA⟩:∃b off,A=some ⟨b,off,none⟩/\b<w.heap.size/\OC w b off ts:=by
      rcases HTA.out with h1|h1
      ·have:=HN.out;omega
      ·exact h1
     have cw:wr.cell? ⟨cb,co+j*68+2,none⟩=some (I x.t.JU):=JY (hTA j x hx).1 HS.out.lo hcb 2 _ rfl;have cz:wr.cell? ⟨cb,co+j*68+3,none⟩=some (.slice x.A x.zs.length x.c):=JY (hTA j x hx).1 HS.out.lo hcb 3 _ rfl;have Uj:Hid (wr.rangeAt cb (co+j*68) x.cells):=JJ (JY (hTA j x hx).1 HS.out.lo hcb);have Ud:Hid ((Tryz.prog.info? 26).map (·.size)=some x.cells.length):=JJ (by rw[(hTA j x hx).2];kernel_rfl);have hxa:=HCA.out.each x (LQ hx);have PU:=JJ hxa;have UZ:Hid ((Tryz.prog.info? 26).map (·.size)=some x.cells.toArray.size):=JJ (Ky x.t _ hxa.prev hxa.Ku);have HXZ:Hid ((JK J8 (.slice none 0 0)).size=x.cells.toArray.size):=JJ ((Kq J8 _ rfl rfl).trans (Kq x.t (.slice x.A x.zs.length x.c) hxa.prev hxa.Ku).symm);have HX:=JJ hx;have HMA:=JJ (asv hx);obtain⟨v,hwv⟩:∃v,x.t.JU=v:=⟨_,rfl⟩;obtain⟨zl,hzl⟩:∃v,x.zs.length=v:=⟨_,rfl⟩;rw[hwv] at cw;rw[hzl] at cz;rw[hwv,hzl] at HMA;obtain⟨b1,hb1⟩:∃b,(RS ts k)[j]?.getD false=b:=⟨_,rfl⟩;have cg:wr.cell? ⟨g,j,none⟩=some (.bool b1):=by
      rw[aC _ _ j _ _ _ HV.out.1,eU,aJ];obtain⟨u,hu⟩:∃v,(RS ts k)[j]? =some v:=⟨_,KL (by rw[Xm,HN.out];exact hjn)⟩;rw[hu] at hb1⊢;obtain rfl:u=b1:=hb1;rfl
     have HB1:=JJ hb1;have HJ:=JJ hj;have i0:(0:Int)<=(j:Int):=by omega
     have i1:(j:Int)<(k:Int):=by omega
     clear hx hTA hwv hb1 hxa hzl;cases b1 with
     |true=>
      go_wp2_with fail;go_roundw
      case rel=>exact⟨m+1,(j:Int) - 1,by omega,by go_num,by omega,alz HN.out HJ.out Za.out (.inl HB1.out),HS.out,HV.out⟩
      case measure=>simp[intOf];omega
     |false=>
      by_cases hw:v=0
      ·subst hw;go_wp2_with(first
        |((with_reducible refine KO 26 ?_);refine Kt rfl _ _ rfl cb (co+j*68) rfl x.cells Uj.out _ az rfl Ud.out ?_)
        |((with_reducible refine KZ 26 ?_);refine aB rfl _ _ _ rfl w.heap.size x.cells.toArray rfl rfl 26 (JK J8 (.slice none 0 0)) HS.out.bx.var UZ.out HXZ.out (J9 _ _ _ _) ?_))
       refine aX (v:=.tuple #[.agg x.cells.toArray,I 0]) (Ko rfl _ _ w.heap.size _ x.cells.toArray (0,0) _ rfl (aQ _ _ _ _ _ _ HS.out.bx.var) az rfl UZ.out _ rfl) rfl ?_;rw[acu HOK.out HN.out (k:=m+1) (by omega) (ahs HN.out HJ.out Za.out HB1.out (by rw[HMA.out];simp)) HX.out];exact⟨x,rfl,rfl,PU.out.grow (JR HS.out.lo (ay _) _),JR HS.out.lo (ay _) _⟩
      ·have e1:(v==0)=false:=by simpa using hw
       by_cases hz:0<zl
       ·have hz1:(0:Int)<(zl:Int):=by omega
        go_wp2_with(first
         |((with_reducible refine KO 26 ?_);refine Kt rfl _ _ rfl cb (co+j*68) rfl x.cells Uj.out _ az rfl Ud.out ?_)
         |((with_reducible refine KZ 26 ?_);refine aB rfl _ _ _ rfl w.heap.size x.cells.toArray rfl rfl 26 (JK J8 (.slice none 0 0)) HS.out.bx.var UZ.out HXZ.out (J9 _ _ _ _) ?_))
        refine aX (v:=.tuple #[.agg x.cells.toArray,I 0]) (Ko rfl _ _ w.heap.size _ x.cells.toArray (0,0) _ rfl (aQ _ _ _ _ _ _ HS.out.bx.var) az rfl UZ.out _ rfl) rfl ?_;rw[acu HOK.out HN.out (k:=m+1) (by omega) (ahs HN.out HJ.out Za.out HB1.out (by rw[HMA.out];exact aZ (.inr hz))) HX.out];exact⟨x,rfl,rfl,PU.out.grow (JR HS.out.lo (ay _) _),JR HS.out.lo (ay _) _⟩
       ·have hz1:¬(0:Int)<(zl:Int):=by omega
        go_wp2_with fail;go_roundw
        case rel=>exact⟨m+1,(j:Int) - 1,by omega,by go_num,by omega,alz HN.out HJ.out Za.out (.inr (by rw[HMA.out];exact bT (by omega))),HS.out,HV.out⟩
        case measure=>simp[intOf];omega
    ·obtain rfl:m=k:=by omega
     obtain rfl:q= -1:=by omega
     go_wp2_with(first
      |((with_reducible refine LY 26 ?_);refine KE rfl _ rfl (JK J8 (.slice none 0 0)) (by kernel_rfl) ?_)
      |((with_reducible refine KZ 26 ?_);refine aB rfl _ _ _ rfl w.heap.size (JK J8 (.slice none 0 0)) rfl rfl 26 (JK J8 (.slice none 0 0)) HS.out.bx.var YN.out rfl (J9 _ _ _ _) ?_))
     refine aX (v:=.tuple #[.agg (JK J8 (.slice none 0 0)),I 4]) (Ko rfl _ _ w.heap.size _ (JK J8 (.slice none 0 0)) (0,0) _ rfl (aQ _ _ _ _ _ _ HS.out.bx.var) az rfl YN.out _ rfl) rfl ?_;rw[ahg HOK.out HN.out Za.out];exact TbQ.zero _ _ _ (JR HS.out.lo (ay _) _)
theorem amg:Qs z0:=⟨by decide,by decide,by decide,by decide⟩
theorem asX {n wd:Int}{ys:ag L9}(h:ys.map (·.e)=(vt n wd true).JX):∃s,ys= [⟨XX,s⟩]:=by
 have h2:ys.map (·.e)= [XX]:=h;cases ys with
 |nil=>cases h2
 |cons x r=>
  rw[fF] at h2;injection h2 with h3 h4;have hr:r= []:=ja.1 h4;subst hr;exact⟨x.s,by rw[<-h3]⟩
theorem asW {n wd:Int}{ys:ag L9}(h:ys.map (·.e)=(vt n wd false).JX):ys= []:=by
 match ys,h with
 | [],_=>rfl
def yT (n wd:Int)(A:aj Addr)(c:Nat)(s:Zs):Kv:=⟨vt n wd true,A,c,[⟨XX,s⟩]⟩
def ND (n wd:Int)(A:aj Addr)(c:Nat):Kv:=⟨vt n wd false,A,c,[]⟩
theorem ai5 (n wd:Int)(w:ae):Calls Tryz.prog 23 #[I n,I wd,.bool true] w fun e w'=>∃A c s,e=.returned (.agg (yT n wd A c s).cells.toArray)/\Ld w' w'.heap.size (yT n wd A c s)/\ai w.heap.size w w':=
 (abO n wd w).mono (fun e w' ⟨A,c,ys,h1,h2,h3,h4⟩=>by
  obtain⟨s,rfl⟩:=asX h3;exact⟨A,c,s,h1,XU h2 h3,h4⟩)
theorem al1 (n wd:Int)(w:ae):Calls Tryz.prog 23 #[I n,I wd,.bool false] w fun e w'=>∃A c,e=.returned (.agg (ND n wd A c).cells.toArray)/\Ld w' w'.heap.size (ND n wd A c)/\ai w.heap.size w w':=
 (ai6 n wd w).mono (fun e w' ⟨A,c,ys,h1,h2,h3,h4⟩=>by
  obtain rfl:=asW h3;exact⟨A,c,h1,XU h2 h3,h4⟩)
theorem XV (n wd:Int)(A:aj Addr)(c:Nat)(s:Zs):(yT n wd A c s).zs.length<=1000/\∀y∈(yT n wd A c s).zs,Qs y.e.z:=⟨jg rfl,fun y hy=>by rw[aY.1 hy];exact amg⟩
theorem aav (n wd:Int)(A:aj Addr)(c:Nat):(ND n wd A c).zs.length<=1000/\∀y∈(ND n wd A c).zs,Qs y.e.z:=⟨aG _,fun _ h=>nomatch h⟩
def Qn (ys:ag Kv):ax ah:=(ys.flatMap Kv.cells).toArray
section
variable {ops:ax Oper}{rest:ag Oper}{o:Oper}{a:Act}{Q:Exit->Act->ae->Prop}{w:ae}
theorem Xt (hgd:o.guard=none)(x0 x1 x2 x3:Operand)(ho:o.op=.buildSlice 32 4 #[(0,x0),(1,x1),(2,x2),(3,x3)])(y0 y1 y2 y3:Kv)(h0:y0.cells.length=68)(h1:y1.cells.length=68)(h2:y2.cells.length=68)(h3:y3.cells.length=68)
  (e0:a.eval x0=.agg y0.cells.toArray)(e1:a.eval x1=.agg y1.cells.toArray)(e2:a.eval x2=.agg y2.cells.toArray)(e3:a.eval x3=.agg y3.cells.toArray)
  (h:wpList Tryz.prog ops Q rest (a.put o.dst (.slice (some ⟨w.heap.size,0,none⟩) 4 4)) (w.alloc (.cells (Qn [y0,y1,y2,y3]) 26))):wpList Tryz.prog ops Q (o::rest) a w:=by
 obtain⟨i0,hi,hz0,hz1,hz2⟩:=dN Sl;refine kS hgd 32 26 4 _ ho ([y0,y1,y2,y3].flatMap Kv.cells).toArray i0 (.agg (JK J8 (.slice none 0 0))) dM hi hz0 (by rw[hz1];decide) (by rw[hz1];decide) ?_ h;rw[hz1];simp only[jw,fF,iR,e0,e1,e2,e3];have h:=ku (s:=68) (by omega) [.agg y0.cells.toArray,.agg y1.cells.toArray,.agg y2.cells.toArray,.agg y3.cells.toArray] ((Array.range (4*68)).map ((Value.agg (JK J8 (.slice none 0 0))).cells[· %(Value.agg (JK J8 (.slice none 0 0))).cells.size]!)) (fun v hv=>by
  simp at hv;rcases hv with rfl|rfl|rfl|rfl<;>simp[Value.cells,h0,h1,h2,h3]) (by simp)
 have e:([Value.agg y0.cells.toArray,.agg y1.cells.toArray,.agg y2.cells.toArray,.agg y3.cells.toArray].flatMap fun v=>v.cells.toList).toArray=([y0,y1,y2,y3].flatMap Kv.cells).toArray:=by simp[Value.cells]
 rw[e] at h;exact h
theorem acX (hgd:o.guard=none)(x0 x1:Operand)(ho:o.op=.buildSlice 32 2 #[(0,x0),(1,x1)])(y0 y1:Kv)(h0:y0.cells.length=68)(h1:y1.cells.length=68)
  (e0:a.eval x0=.agg y0.cells.toArray)(e1:a.eval x1=.agg y1.cells.toArray)
  (h:wpList Tryz.prog ops Q rest (a.put o.dst (.slice (some ⟨w.heap.size,0,none⟩) 2 2)) (w.alloc (.cells (Qn [y0,y1]) 26))):wpList Tryz.prog ops Q (o::rest) a w:=by
 obtain⟨i0,hi,hz0,hz1,hz2⟩:=dN Sl;refine kS hgd 32 26 2 _ ho ([y0,y1].flatMap Kv.cells).toArray i0 (.agg (JK J8 (.slice none 0 0))) dM hi hz0 (by rw[hz1];decide) (by rw[hz1];decide) ?_ h;rw[hz1];simp only[jw,fF,iR,e0,e1];have h:=ku (s:=68) (by omega) [.agg y0.cells.toArray,.agg y1.cells.toArray] ((Array.range (2*68)).map ((Value.agg (JK J8 (.slice none 0 0))).cells[· %(Value.agg (JK J8 (.slice none 0 0))).cells.size]!)) (fun v hv=>by
  simp at hv;rcases hv with rfl|rfl<;>simp[Value.cells,h0,h1]) (by simp)
 have e:([Value.agg y0.cells.toArray,.agg y1.cells.toArray].flatMap fun v=>v.cells.toList).toArray=([y0,y1].flatMap Kv.cells).toArray:=by simp[Value.cells]
 rw[e] at h;exact h
end
theorem XL (ys:ag Kv)(W:ae)(h:∀y∈ys,Ld W W.heap.size y):LJ (W.alloc (.cells (Qn ys) 26)) (W.alloc (.cells (Qn ys) 26)).heap.size (some ⟨W.heap.size,0,none⟩) ys:=by
 refine⟨.inr ⟨W.heap.size,0,rfl,by simp,fun j u hu=>?_⟩,fun y hy=>(h y hy).grow (JM W _)⟩;rw[aT,aC _ _ j _ _ _ (aF W _)];unfold Qn;simpa using hu
theorem LJ.axv {w:ae}{B:Nat}{A:aj Addr}{ts:ag Kv}(h:LJ w B A ts)(k:Nat):LJ w B A (ts.take k):=by
 refine⟨?_,fun y hy=>h.each y (dP hy)⟩;rcases h.row with h|⟨b,off,h1,h2,h3⟩
 ·refine .inl (List.eq_nil_iff_length_eq_zero.1 ?_);have e:=bu h;rw[List.flatMap_eq_nil_iff] at e⊢;exact fun x hx=>e x (dP hx)
 ·refine .inr ⟨b,off,h1,h2,fun j u hu=>h3 j u ?_⟩;have e:ts.flatMap Kv.cells=(ts.take k).flatMap Kv.cells++(ts.drop k).flatMap Kv.cells:=by rw[<-eG,dR]
  rw[e,dZ (MF.1 hu).1];exact hu
theorem LJ.tail {w:ae}{B b off:Nat}{y:Kv}{ts:ag Kv}(h:LJ w B (some ⟨b,off,none⟩) (y::ts))(hy:y.cells.length=68):LJ w B (some ⟨b,off+68,none⟩) ts:=by
 refine⟨?_,fun z hz=>h.each z (iE _ hz)⟩;rcases h.row with h|⟨b2,YA,h1,h2,h3⟩
 ·rw[dI,KN,hy] at h;omega
 ·injection h1 with h1;injection h1 with h1 h4;subst h1 h4;refine .inr ⟨b,off+68,rfl,h2,fun j u hu=>?_⟩;rw[fE];exact h3 (68+j) u (by rw[dI,bH (by omega),hy,show 68+j - 68=j by omega];exact hu)
theorem ao0:UL [XX] ⟨#[97]⟩=some z0:=by
 have e:ZV XX.name ⟨#[97]⟩=true:=by decide+kernel
 unfold UL;rw[jO,e];rfl
theorem ao1:UL [XX] ⟨#[98]⟩=none:=by
 have e:ZV XX.name ⟨#[98]⟩=false:=by decide+kernel
 unfold UL;rw[jO,e];rfl
section
variable (A1 A2 A3 A4 B1 B2:aj Addr)(c1 c2 c3 c4 d1 d2:Nat)(s1 s2 s4:Zs)
theorem akv:Sj [yT 1 0 A1 c1 s1,yT 2 0 A2 c2 s2,ND 3 2 A3 c3]=1:=by rfl
theorem akw:Sj [yT 1 0 A1 c1 s1,yT 2 0 A2 c2 s2,ND 3 2 A3 c3,ND 4 3 A4 c4]=2:=by rfl
theorem akx:Sj [yT 1 0 A1 c1 s1,yT 2 0 A2 c2 s2,ND 3 2 A3 c3,yT 4 0 A4 c4 s4]=4:=by rfl
theorem aky:Sj [ND 1 0 B1 d1,ND 2 1 B2 d2]= -4:=by rfl
theorem akz:Sj [yT 2 0 A2 c2 s2,ND 3 2 A3 c3,ND 4 3 A4 c4]= -1:=by rfl
theorem anM:Sj []= -4:=by rfl
theorem asL:pick [yT 1 0 A1 c1 s1,yT 2 0 A2 c2 s2,ND 3 2 A3 c3,ND 4 3 A4 c4] ⟨#[97]⟩=some z0:=by
 have e:TM [yT 1 0 A1 c1 s1,yT 2 0 A2 c2 s2,ND 3 2 A3 c3,ND 4 3 A4 c4]=(1,true):=rfl;unfold pick;rw[e];exact ao0
theorem asM:pick [ND 1 0 B1 d1,ND 2 1 B2 d2] ⟨#[97]⟩=none:=by rfl
end
theorem axo {w w':ae}{e:Ending}{A A':aj Addr}{c c':Nat}{LS NS:ag Kv}{nm:ByteArray}(hL:pick LS nm=some z0)(hN:pick NS nm=none)(h:aj3 w [⟨A,c,LS⟩,⟨A',c',NS⟩] [1,0] nm e w'):
  ai w.heap.size w w'/\∃s,e=.returned (.tuple #[.agg (JV z0 s),I 0,I 0]):=by
 have p1:pk [⟨A,c,LS⟩,⟨A',c',NS⟩] nm 1=none:=hN;have p0:pk [⟨A,c,LS⟩,⟨A',c',NS⟩] nm 0=some z0:=hL;obtain⟨hb,⟨⟨k,hk,hn⟩,_⟩|⟨_,⟨hall,_⟩|⟨j,k,z,s,hj,hp,_,he,_⟩⟩⟩:=h
 ·exfalso;apply hn;simp only[dQ,ed,iV] at hk;rcases hk with rfl|rfl
  ·exact⟨by decide,by show(1:Int)<2;decide⟩
  ·exact⟨by decide,by show(0:Int)<2;decide⟩
 ·have:=hall 0 (by simp);rw[p0] at this;cases this
 ·have hjl:j<2:=(MF.1 hj).1;rcases fG.1 hjl with h0|rfl
  ·have e0:j=0:=by omega
   subst e0;injection hj with hj;subst hj;rw[p1] at hp;cases hp
  ·injection hj with hj;subst hj;rw[p0] at hp;injection hp with hp;subst hp;exact⟨hb,s,he⟩
theorem axp {w w':ae}{e:Ending}{A A':aj Addr}{c c':Nat}{LS NS:ag Kv}{nm:ByteArray}(h:aj3 w [⟨A,c,LS⟩,⟨A',c',NS⟩] [2] nm e w'):
  ai w.heap.size w w'/\e=.returned (.tuple #[.agg OQ,I 0,I 1]):=by
 obtain⟨hb,⟨_,he⟩|⟨hall,_⟩⟩:=h
 ·exact⟨hb,he⟩
 ·have:=hall 2 (by simp);exact absurd this.2 (by show¬((2:Int)<2);decide)
theorem ako (W:ae)(cs:ag Ue)(vs:ax ah)(t:TypeId)(h:vs.toList=cs.map Ue.cell)(he:∀x∈cs,LJ W W.heap.size x.A x.ts):XA (W.alloc (.cells vs t)) (W.alloc (.cells vs t)).heap.size (some ⟨W.heap.size,0,none⟩) cs:=by
 refine⟨.inr ⟨W.heap.size,0,rfl,by simp,fun j u hu=>?_⟩,fun x hx=>(he x hx).grow (JM W _)⟩;rw[aT,aC _ _ j _ _ _ (aF W _),<-eQ,h];exact hu
theorem adX (W:ae)(zs:ag Int)(vs:ax ah)(t:TypeId)(h:vs.toList=zs.map I):OT (W.alloc (.cells vs t)) (W.alloc (.cells vs t)).heap.size (some ⟨W.heap.size,0,none⟩) zs:=by
 refine JS.ints (.inr ⟨W.heap.size,0,rfl,by simp,fun j u hu=>?_⟩);rw[aT,aC _ _ j _ _ _ (aF W _),<-eQ,h];exact hu
theorem axH {w w':ae}{e:Ending}(h:apZ w [XX] ⟨#[98]⟩ e w'):ai w.heap.size w w'/\e=.returned (.tuple #[.agg OQ,I 4]):=by
 obtain⟨hb,⟨_,he⟩|⟨z,s,hz,_⟩⟩:=h
 ·exact⟨hb,he⟩
 ·rw[ao1] at hz;cases hz
theorem aje (n wd:Int)(A:aj Addr)(c:Nat)(s:Zs)(W:ae)(h:Ld W W.heap.size (yT n wd A c s)):Calls Tryz.prog 28 #[.agg (yT n wd A c s).cells.toArray,.string ⟨#[98]⟩] W fun e w'=>ai W.heap.size W w'/\e=.returned (.tuple #[.agg OQ,I 4]):=
 (aeN (yT n wd A c s) 1 ⟨#[98]⟩ W rfl (by omega) (XV n wd A c s).2 h).mono (fun e w' h=>axH h)
theorem LJ.head {w:ae}{B b off:Nat}{y:Kv}{ts:ag Kv}(h:LJ w B (some ⟨b,off,none⟩) (y::ts))(hy:y.cells.length=68):w.rangeAt b off y.cells/\b<B:=by
 rcases h.row with h|⟨b2,YA,h1,h2,h3⟩
 ·rw[dI,KN,hy] at h;omega
 ·injection h1 with h1;injection h1 with h1 h4;subst h1 h4;exact⟨fun j u hu=>h3 j u (by rw[dI,dZ (MF.1 hu).1];exact hu),h2⟩
theorem aoQ (n wd:Int)(A:aj Addr)(c:Nat)(s:Zs)(W:ae)(hn:n<1):Calls Tryz.prog 29 #[.agg (yT n wd A c s).cells.toArray] W (Gives (.int .i64 1) W):=
 al0 (vt n wd true) A 1 c W ⟨by show(0:Int)<=2;decide,by show(2:Int)<16;decide⟩ (by show n<1;exact hn)
end Go.Proofs.YtbaehbbonkljpaaGreatDoor
