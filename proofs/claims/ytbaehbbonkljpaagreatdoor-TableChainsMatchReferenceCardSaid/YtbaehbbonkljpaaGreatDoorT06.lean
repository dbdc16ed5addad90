/- The texts Kc, Kd, Na, Ja, Nb, in this order. -/
import Derived.Sort.QuietTacIn
import Derived.Test.YtbaehbbonkljpaaGreatDoorT05
set_option maxRecDepth 10000
set_option maxHeartbeats 8000000
namespace Go.Proofs.YtbaehbbonkljpaaGreatDoor
open Go Go.RowKit
def VO (ts:ag Tr)(t:Tr):Nat->Nat
 |0=>0
 |k+1=>if t.at_<(ts[k]?.map (·.at_)).getD 0 then VO ts t k else k+1
def Ux (ts:ag Tr)(t:Tr):ag Tr:=ts.take (VO ts t ts.length)++t::ts.drop (VO ts t ts.length)
theorem aho (ts:ag Tr)(t:Tr)(k:Nat):VO ts t k<=k:=by
 induction k with
 |zero=>exact ay _
 |succ k ih=>unfold VO;split<;>omega
theorem ZL (ts:ag Tr)(t:Tr):(Ux ts t).length=ts.length+1:=by
 have:=aho ts t ts.length;simp[Ux];omega
def ZK (ts:ag Tr)(t:Tr)(k:Nat):ag ah:=(ts.take k++t::ts.drop k).flatMap Tr.cells
theorem akX (ts:ag Tr)(t:Tr):ZK ts t ts.length=ts.flatMap Tr.cells++ [I t.at_,I t.off]:=by
 simp[ZK,List.take_length,List.drop_length,Tr.cells]
theorem axt (P R:ag ah)(q:Nat)(a0 a1 t0 t1:ah)(h:P.length=q*2):
  ((((P++a0::a1::t0::t1::R).set ((q+1)*2) a0).set ((q+1)*2+1) a1).set (q*2) t0).set (q*2+1) t1=P++t0::t1::a0::a1::R:=by
 rw[eY _ _ (by omega),eY _ _ (by omega),eY _ _ (by omega),eY _ _ (by omega)];rw[h,show(q+1)*2 - q*2=2 by omega,show(q+1)*2+1 - q*2=3 by omega,show q*2 - q*2=0 by omega,show q*2+1 - q*2=1 by omega];rfl
theorem take_at (ts:ag Tr)(q:Nat)(hq:q<ts.length):∃x,ts[q]? =some x/\ts.take (q+1)=ts.take q++ [x]/\ts.drop q=x::ts.drop (q+1):=
 ⟨ts[q],KL hq,by rw[kL hq],by rw[eF hq]⟩
theorem abA (ts:ag Tr)(t x:Tr)(q:Nat)(hq:q<ts.length)(hx:ts[q]? =some x):
  ZK ts t (q+1)=(ts.take q).flatMap Tr.cells++I x.at_::I x.off::I t.at_::I t.off::(ts.drop (q+1)).flatMap Tr.cells/\
  ZK ts t q=(ts.take q).flatMap Tr.cells++I t.at_::I t.off::I x.at_::I x.off::(ts.drop (q+1)).flatMap Tr.cells/\((ts.take q).flatMap Tr.cells).length=q*2:=by
 obtain⟨x',h1,h2,h3⟩:=take_at ts q hq;rw[hx] at h1;injection h1 with h1;subst h1;refine⟨by simp[ZK,h2,Tr.cells],by simp[ZK,h3,Tr.cells],?_⟩;rw[KW (s:=2) Tr.cells _ (fun _ _=>rfl),bn,lD (by omega)]
def Om (lo:Nat)(w:ae)(A:aj Addr)(n c:Nat)(ts:ag Tr):Prop:=w.ownsRow lo 108 2 (.slice A n c) n (ts.flatMap Tr.cells)
def azN (lo n:Nat)(w:ae)(ts:ag Tr)(e:Ending)(w':ae):Prop:=∃A c,e=.returned (.slice A n c)/\Om lo w' A n c ts/\ai lo w w'
theorem akj {lo:Nat}{w w':ae}{row:aj Nat}(h:w.grownBy w' row)(hr:∀g,row=some g->lo<=g)(hlo:lo<=w.heap.size):ai lo w w':=
 ⟨h.os,h.tape,h.output,h.size,fun k hk=>h.block k (by omega) (fun e=>by have:=hr k e.symm;omega)⟩
theorem aeD {lo:Nat}{w:ae}{A:aj Addr}{n c:Nat}{ts:ag Tr}(h:Om lo w A n c ts):∀g,(Value.slice A n c).ownBlock=some g->lo<=g:=fun g hg=>(dU h g hg).1
structure InR (lo:Nat)(W:ae)(g c n:Nat)(ts:ag Tr)(t:Tr)(k:Nat)(wr:ae):Prop where
 own:wr.ownsRow lo 108 2 (.slice (some ⟨g,0,none⟩) (n+1) c) (n+1) (ZK ts t k)
 up:ai lo W wr
theorem alX (w:ae)(o:Obj)(a b:ah)(t:TypeId):∀j u,[a,b][j]? =some u->((w.alloc o).alloc (.cells #[a,b] t)).cell? ((⟨w.heap.size+1,0,none⟩:Addr).add j)=some u:=by
 have h:=cell_two_new (w.alloc o) a b t;simpa using h
def avN (lo:Nat)(W:ae)(g c n:Nat)(ts:ag Tr)(t:Tr)(i:ah)(wr:ae):Prop:=∃k:Nat,k<=n/\i=.int .i64 k/\VO ts t k=VO ts t n/\InR lo W g c n ts t k wr
theorem InR.swap {lo g c n q:Nat}{W W2:ae}{ts:ag Tr}{Y1 tof xat xof:Int}(h:InR lo W g c n ts ⟨Y1,tof⟩ (q+1) W2)(hlo:lo<=W.heap.size)(hq:q<ts.length)(hx:ts[q]? =some ⟨xat,xof⟩)(o:Obj):
  InR lo W g c n ts ⟨Y1,tof⟩ q (((((W2.setCell ⟨g,(q+1)*2,none⟩ (I xat)).setCell ⟨g,(q+1)*2+1,none⟩ (I xof)).setCell ⟨g,q*2,none⟩ (I Y1)).setCell ⟨g,q*2+1,none⟩ (I tof)).alloc o):=by
 obtain⟨s1,s2,s3⟩:=abA ts ⟨Y1,tof⟩ ⟨xat,xof⟩ q hq hx;have h1:=(((((((h.own.stored ((q+1)*2) (I xat)).1.stored ((q+1)*2+1) (I xof)).1).stored (q*2) (I Y1)).1).stored (q*2+1) (I tof)).1).alloc o;have hg:lo<=g:=(dU h.own g rfl).1;refine⟨?_,((((h.up.setCell (p:=⟨g,(q+1)*2,none⟩) hg _).setCell (p:=⟨g,(q+1)*2+1,none⟩) hg _).setCell (p:=⟨g,q*2,none⟩) hg _).setCell (p:=⟨g,q*2+1,none⟩) hg _).alloc (aO hlo (by have:=h.up.size;simpa using this)) o⟩;rw[s1,axt _ _ _ _ _ _ _ s3,<-s2] at h1;exact h1
theorem ahn {ts:ag Tr}{t x:Tr}{q:Nat}(hx:ts[q]? =some x)(h:t.at_<x.at_):VO ts t (q+1)=VO ts t q:=by
 rw[VO,hx,bD (by simpa using h)]
theorem abH {ts:ag Tr}{t x:Tr}{q:Nat}(hx:ts[q]? =some x)(h:¬t.at_<x.at_):VO ts t (q+1)=q+1:=by
 rw[VO,hx,bP (by simpa using h)]
def ytr (c:Cal)(bg y:Int)(r r':Yr)(out:ag Tr):ag Tr:=if (findF c bg y r).2=true then Ux out ⟨(findF c bg y r).1*1440+r.minute - r'.off,r.off⟩ else out
def amb (c:Cal)(r0 r1:Yr)(stop:Int):Nat->Int->Int->ag Tr->ag Tr
 |0,_,_,out=>out
 |n+1,bg,y,out=>if bg<stop then amb c r0 r1 stop n (bg+ahF c y) (y+1) (ytr c bg y r1 r0 (ytr c bg y r0 r1 out)) else out
def ysF (z:Zn):ag Tr:=match z.J6 with
 | [r0,r1]=>amb z.cal r0 r1 (z.cal.KI+aeL z) 1400 z.cal.KI 1 []
 |_=> []
def Nz (ts:ag Tr)(i:Nat):Int:=(ts[i]?.map (·.at_)).getD 0
def Qj (ts:ag Tr)(size:Int)(i:Nat):Int:=(if i+1<ts.length then Nz ts (i+1) else Nz ts 0+size) - Nz ts i
def Me (ts:ag Tr)(size:Int):Bool:=(List.range ts.length).all fun i=>decide (2160<=Qj ts size i)
structure YrS (r:Yr):Prop where
 mo:r.month=1\/r.month=2
 wk:1<=r.La/\r.La<=5
 wd:0<=r.Lh/\r.Lh<=6
 mi:0<=r.minute/\r.minute<=1439
 of: -1080<=r.off/\r.off<=1080
theorem aov (wd wk:Int)(n:Nat):∀d cn la:Int, -1<=la->la<=d-> -1<=(Nv wd wk n d cn la).1/\(Nv wd wk n d cn la).1<=d+n\/(Nv wd wk n d cn la).1=d:=by
 induction n with
 |zero=>intro d cn la h1 h2;exact .inl ⟨h1,by show la<=_;omega⟩
 |succ n ih=>
  intro d cn la h1 h2;unfold Nv;split
  ·split
   ·exact .inr rfl
   ·rcases ih (d+1) (cn+1) d (by omega) (by omega) with h|h
    ·exact .inl ⟨h.1,by omega⟩
    ·exact .inl ⟨by omega,by omega⟩
  ·rcases ih (d+1) cn la h1 (by omega) with h|h
   ·exact .inl ⟨h.1,by omega⟩
   ·exact .inl ⟨by omega,by omega⟩
theorem akY {ts:ag Tr}{t x:Tr}(h:x∈Ux ts t):x=t\/x∈ts:=by
 unfold Ux at h;rcases dm.1 h with h|h
 ·exact .inr (dP h)
 ·rcases dQ.1 h with h|h
  ·exact .inl h
  ·exact .inr (kY h)
theorem Om.below {lo n c:Nat}{w w':ae}{A:aj Addr}{ts:ag Tr}(h:Om lo w A n c ts)(hb:ai w.heap.size w w'):Om lo w' A n c ts:=
 lM (row:=none) h ⟨hb.os,hb.tape,hb.output,hb.size,fun k hk _=>hb.block k hk⟩ (by cases (Value.slice A n c).ownBlock<;>simp)
structure YS (w:ae)(cs:ax ah)(W:ae)(A:aj Addr)(n c:Nat)(ts:ag Tr):Prop where
 row:Row W w.heap.size cs
 own:Om (w.heap.size+1) W A n c ts
 up:ai w.heap.size w W
 len:ts.length=n
theorem YS.call {w W W':ae}{cs:ax ah}{A:aj Addr}{n c:Nat}{ts:ag Tr}(h:YS w cs W A n c ts)(hb:ai W.heap.size W W'):YS w cs W' A n c ts:=
 ⟨h.row.keep hb,h.own.below hb,JL h.up hb,h.len⟩
theorem YS.ins {w W W':ae}{cs:ax ah}{A A':aj Addr}{n c c':Nat}{ts ts':ag Tr}(h:YS w cs W A n c ts)(hb:ai (w.heap.size+1) W W')(ho:Om (w.heap.size+1) W' A' (n+1) c' ts')(hl:ts'.length=n+1):YS w cs W' A' (n+1) c' ts':=
 ⟨⟨LK h.row.1 hb.size,fun i=>(hb.cell (p:=⟨w.heap.size,i,none⟩) (jy _)).trans (h.row.2 i)⟩,ho,h.up.trans (hb.mono (bV _)),hl⟩
theorem YS.lo {w W:ae}{cs:ax ah}{A:aj Addr}{n c:Nat}{ts:ag Tr}(h:YS w cs W A n c ts):w.heap.size+1<=W.heap.size:=h.row.1
structure YC (W:ae)(b off:Nat)(r0 r1:Yr):Prop where
 a:W.rangeAt b off r0.cells
 b:W.rangeAt b (off+5) r1.cells
def anv (w:ae)(ts:ag Tr)(ok:Bool)(e:Ending)(w':ae):Prop:=∃A n c,ts.length=n/\e=.returned (.tuple #[.slice A n c,.bool ok])/\Om w.heap.size w' A n c ts/\ai w.heap.size w w'
theorem Om.lower {lo lo' n c:Nat}{w:ae}{A:aj Addr}{ts:ag Tr}(h:Om lo w A n c ts)(hl:lo'<=lo):Om lo' w A n c ts:=by
 rcases h.2 with h2|⟨g,cap,cur,h1,h2,h3⟩
 ·exact⟨h.1,.inl h2⟩
 ·exact⟨h.1,.inr ⟨g,cap,cur,h1,aO hl h2,h3⟩⟩
def ayI (w:ae)(cs:ax ah)(A:aj Addr)(n cp:Nat)(ts:ag Tr)(size:Int)(i:ah)(wr:ae):Prop:=
 ∃k:Nat,k<=n/\i=.int .i64 k/\(∀j,j<k->2160<=Qj ts size j)/\YS w cs wr A n cp ts
theorem UB {lo g n cp:Nat}{W:ae}{ts:ag Tr}(h:Om lo W (some ⟨g,0,none⟩) n cp ts)(hl:ts.length=n)(k:Nat)(hk:k<n):W.cell? ⟨g,k*2,none⟩=some (I (Nz ts k)):=by
 have hx:ts[k]? =some ts[k]:=KL (by omega);rw[World.ownsRow.cellAt h (k*2) (by omega),show k*2=k*2+0 from rfl,flat_get (s:=2) Tr.cells ts (fun _ _=>rfl) k 0 _ hx (by omega)];unfold Nz;rw[hx];rfl
theorem adS {ts:ag Tr}{n:Nat}{size:Int}(hl:ts.length=n)(h:∀j,j<n->2160<=Qj ts size j):Me ts size=true:=by
 unfold Me;rw[iF];intro j hj;exact aZ (h j (by rw[<-hl];exact iU.1 hj))
theorem ag8 {ts:ag Tr}{n k:Nat}{size:Int}(hl:ts.length=n)(hk:k<n)(h:Qj ts size k<2160):Me ts size=false:=by
 unfold Me;rw[List.all_eq_false];exact⟨k,iU.2 (by omega),by simp;omega⟩
theorem abw {ts:ag Tr}{k:Nat}{size:Int}(h:∀j,j<k->2160<=Qj ts size j)(h1:2160<=Qj ts size k):∀j,j<k+1->2160<=Qj ts size j:=by
 intro j hj;rcases fG.1 hj with h2|rfl
 ·exact h j h2
 ·exact h1
theorem anK (a b:Int)(hb:0<b):(a.tmod b<0->a%b=a.tmod b+b)/\(¬a.tmod b<0->a%b=a.tmod b):=by
 have h0:=iL a (show b≠0 by omega);have h1:=gG a hb;have hn:((b.natAbs:Nat):Int)=b:=Int.natAbs_of_nonneg (by omega);by_cases hc:0<=a\/b∣a
 ·have e:=Int.tmod_eq_emod (a:=a) (b:=b);rw[bD hc] at e;constructor<;>intro h<;>omega
 ·have e:=Int.tmod_eq_emod (a:=a) (b:=b);rw[bP hc,hn] at e;constructor<;>intro h<;>omega
theorem afZ (a b:Int)(w:ae)(hb:0<b)(hb2:b<=1000000000):
  Calls Tryz.prog 155 #[I a,I b] w fun e w'=>e=.returned (I (a%b))/\w'=w:=by
 have h0:=iL a (show b≠0 by omega);have h1:=gG a hb;have hb0:b≠0:=by omega
 have hb1:b≠ -1:=by omega
 obtain⟨e1,e2⟩:=anK a b hb;obtain⟨q,hq⟩:∃q,a.tmod b=q:=⟨_,rfl⟩;obtain⟨p,hp⟩:∃p,a%b=p:=⟨_,rfl⟩;rw[hq] at e1 e2;rw[hp] at e1 e2 h0 h1⊢;by_cases hs:q<0
 ·have e3:=e1 hs;have hw:IntKind.i64.wrap (q+b)=q+b:=by rw[aA];omega
  subst e3;clear e1 e2 hp;go_enter Tryz.func155,Tryz.ntmps155
  go_wp2
  go_ret;exact⟨rfl,rfl⟩
 ·have e3:=e2 hs;subst e3;clear e1 e2 hp;go_enter Tryz.func155,Tryz.ntmps155
  go_wp2
  go_ret;exact⟨rfl,rfl⟩
theorem afY (a b:Int)(w:ae)(hb:0<b)(hb2:b<=1000000000):
  Calls Tryz.prog 148 #[I a,I b] w fun e w'=>e=.returned (.tuple #[I (a%b),I 0])/\w'=w:=by
 have hb1:¬b<1:=by omega
 have HM:=JJ (afZ a b w hb hb2);go_enter Tryz.func148,Tryz.ntmps148;go_wp2_with fail;refine HM.out.mono ?_;rintro e w1 ⟨rfl,rfl⟩;go_wp2_with fail;go_ret2;exact⟨rfl,rfl⟩
theorem ZB (a b:Int)(w:ae)(hb:0<b)(hb2:b<=1000000000):
  Calls Tryz.prog 135 #[I a,I b] w fun e w'=>e=.returned (I (a%b))/\w'=w:=by
 have HM:=JJ (afY a b w hb hb2);go_enter Tryz.func135,Tryz.ntmps135;go_wp2_with fail;refine HM.out.mono ?_;rintro e w1 ⟨rfl,rfl⟩;go_wp2_with fail;go_ret;exact⟨rfl,rfl⟩
theorem Yl (a:Int)(w:ae):
  Calls Tryz.prog 127 #[I a] w fun e w'=>e=.returned (I (a%7))/\w'=w:=by
 have HM:=JJ (ZB a 7 w (by omega) (by omega));go_enter Tryz.func127,Tryz.ntmps127;go_wp2_with fail;refine HM.out.mono ?_;rintro e w1 ⟨rfl,rfl⟩;go_wp2_with fail;go_ret;exact⟨rfl,rfl⟩
def ElR (ts:ag Lr):Type:= {x:Nat×Lr // ts[x.1]? =some x.2}
def akq (ts:ag Lr)(m:Nat):ag (ElR ts):=if h:m<ts.length then [⟨(m,ts[m]),KL h⟩] else []
def bkR (ts:ag Lr):Nat->ag (ElR ts)
 |0=> []
 |k+1=>bkR ts k++akq ts (ts.length - 1 - k)
theorem adI (ts:ag Lr)(k m:Nat)(x:Lr)(hx:ts[m]? =some x)(hm:m=ts.length - 1 - k):bkR ts (k+1)=bkR ts k++ [⟨(m,x),hx⟩]:=by
 subst hm;obtain⟨h1,h2⟩:=MF.1 hx;subst h2;show bkR ts k++akq ts (ts.length - 1 - k)=_;unfold akq;rw[dif_pos h1]
theorem afy (ts:ag Lr)(k:Nat)(hk:k<=ts.length):(bkR ts k).length=k:=by
 induction k with
 |zero=>rfl
 |succ k ih=>
  show(bkR ts k++akq ts (ts.length - 1 - k)).length=k+1;unfold akq;rw[KN,ih (by omega),dif_pos (by omega)];rfl
def aj6 (w:ae)(b off:Nat)(ts:ag Lr):Prop:=∀j x,ts[j]? =some x->w.rangeAt b (off+j*3) x.cells/\x.cells.length=3
theorem aia (F:Fence)(n:Nat)(h7:F.fn 157)(hro:F.round=none)(hn:1<=n)(l Bs n₀ b off cap:Nat)(bs:ag Lr)(hreach:bs.length<=100000)(hb:b<n₀)(J Jx:ag (ElR bs)->ae->Prop)
  (hY:∀pre x W,J pre W->pre.length<bs.length->YieldAt F (n - 1) Tryz.prog l #[.int .i64 (x.1.1:Int),.agg x.1.2.cells.toArray] W fun e W'=>
   (e=.returned (.bool true)/\J (pre++ [x]) W'/\BK n₀ Bs W W')\/(e=.returned (.bool false)/\Jx (pre++ [x]) W'))
  (W:ae)(hBs:W.cell? ⟨Bs,0,none⟩=some (.slice (some ⟨b,off,none⟩) bs.length cap))(hc:aj6 W b off bs)(h0:J [] W):
  CallsIn F n Tryz.prog 157 #[.func (.yield l) #[] #[],.pointer (some ⟨Bs,0,none⟩)] W fun e W'=>(∃v,e=.returned v)/\
   ((∃ys,ys=bkR bs bs.length/\J ys W')\/(∃pre,(∃k,k<=bs.length/\pre=bkR bs k)/\Jx pre W')):=by
 refine ik Tryz.func157 rfl h7 ?_ hro;simp only[Tryz.ntmps157,bZ,bG,dE,Nat.reduceAdd,Nat.reduceSub,df,dh,dL,dw,bU,dn]
 gi_wp2
 gi_loopw [3] (fun i wr=>∃k:Nat,k<=bs.length/\i=.int .i64 ((bs.length:Int) - 1 - k)/\J (bkR bs k) wr/\BK n₀ Bs W wr)
  (fun i _=>((intOf i)+1).toNat)
 case atStart=>exact⟨0,aG _,by go_num,h0,BK.refl _ _ _⟩
 case round=>
  obtain⟨k,hk,rfl,hJs,hnx⟩:=hrel;by_cases hlt:k<bs.length
  ·obtain⟨m,hm⟩:∃m:Nat,m=bs.length - 1 - k:=⟨_,rfl⟩;have hmi:(bs.length:Int) - 1 - k=(m:Int):=by omega
   have hml:m<bs.length:=by omega
   obtain⟨x,hxx⟩:∃x,bs[m]? =some x:=⟨_,KL hml⟩;have hcx:wr.rangeAt b (off+m*3) x.cells/\x.cells.length=3:=⟨JY (hc m x hxx).1 hnx.lo hb,(hc m x hxx).2⟩;obtain⟨hcx,hc3⟩:=hcx;have HCX:=JJ hcx;have H3:Hid ((Tryz.prog.info? 118).map (·.size)=some x.cells.length):=JJ (by rw[hc3];kernel_rfl);have hbx:wr.cell? ⟨Bs,0,none⟩=some (.slice (some ⟨b,off,none⟩) bs.length cap):=hnx.box.trans hBs;obtain⟨fn,tmps,assign,body,hy,hR⟩:=hY _ ⟨(m,x),hxx⟩ wr hJs (by rw[afy _ _ hk];exact hlt);dsimp only at hy;rw[hmi];have HM:=JJ hm;have HMI:=JJ hmi;have HX:Hid (bkR bs (k+1)=bkR bs k++ [⟨(m,x),hxx⟩]):=JJ (adI bs k m x hxx hm);clear hm hmi hcx hc3
   gi_wp2_with (with_reducible refine acj 118 ?_;refine Rn rfl _ _ rfl b (off+m*3) rfl x.cells _ HCX.out Tryz.underlying118 rfl H3.out ?_)
   refine hR.mono ?_;rintro e W3 (⟨rfl,hJ3,hk3⟩|⟨rfl,hJx3⟩)
   ·gi_wp2
    go_roundw
    case rel=>exact⟨k+1,by omega,by have:=HMI.out;congr 1;omega,by rw[HX.out];exact hJ3,hnx.trans hk3⟩
    case measure=>simp[intOf]
   ·gi_wp2
    refine aX (lG rfl _ _ _) rfl ?_;exact⟨⟨_,rfl⟩,.inr ⟨_,⟨k+1,by omega,by rw[HX.out]⟩,hJx3⟩⟩
  ·have hke:k=bs.length:=by omega
   have Y9:=JJ hke;clear hke
   gi_wp2
   go_end0
   exact⟨⟨_,rfl⟩,.inl ⟨_,by rw[Y9.out],hJs⟩⟩
theorem aaU (F:Fence)(n:Nat)(h7:F.fn 157)(hro:F.round=none)(l Bs:Nat)(A:aj Addr)(c:Nat){α:Type}(J:ag α->ae->Prop)(W:ae)(hBs:W.cell? ⟨Bs,0,none⟩=some (.slice A 0 c))(h0:J [] W):
  CallsIn F n Tryz.prog 157 #[.func (.yield l) #[] #[],.pointer (some ⟨Bs,0,none⟩)] W fun e W'=>(∃v,e=.returned v)/\J [] W':=by
 refine ik Tryz.func157 rfl h7 ?_ hro;simp only[Tryz.ntmps157,bZ,bG,dE,Nat.reduceAdd,Nat.reduceSub,df,dh,dL,dw,bU,dn]
 gi_wp2
 gi_loopw [3] (fun i wr=>i=.int .i64 (-1)/\J [] wr) (fun _ _=>0)
 case atStart=>exact⟨rfl,h0⟩
 case round=>
  obtain⟨rfl,hJs⟩:=hrel
  gi_wp2
  go_end0
  exact⟨⟨_,rfl⟩,hJs⟩
theorem akh (F:Fence)(n:Nat)(h5:F.fn 154)(hro:F.round=none)(a:aj Addr)(len cap:Nat)(w:ae):
  CallsIn F n Tryz.prog 154 #[.slice a len cap] w fun e w'=>e=.returned (.func (.func 157) #[] #[.pointer (some ⟨w.heap.size,0,none⟩)])/\w'=w.alloc (.cells #[.slice a len cap] 63):=by
 refine ik Tryz.func154 rfl h5 ?_ hro;simp only[Tryz.ntmps154,bZ,bG,dE,Nat.reduceAdd,Nat.reduceSub,df,dh,dL,dw,bU,dn]
 gi_wp2
 go_ret;exact⟨rfl,rfl⟩
theorem adD (F:Fence)(n:Nat)(h7:F.fn 157)(hro:F.round=none)(hn:1<=n)(Bs n₀:Nat)(A:aj Addr)(cap:Nat)(bs:ag Lr)(hreach:bs.length<=100000)(w:ae)(hBs:Bs<w.heap.size)(hn₀:n₀<=w.heap.size)
  (hc:w.cell? ⟨Bs,0,none⟩=some (.slice A bs.length cap))(hI:bs.length=0\/∃b off,A=some ⟨b,off,none⟩/\b<n₀/\aj6 w b off bs):
  SeqStopsK F n Tryz.prog 157 #[.pointer (some ⟨Bs,0,none⟩)] (fun x:ElR bs=> #[Value.int .i64 (x.1.1:Int),.agg x.1.2.cells.toArray]) (BK n₀ Bs) (fun ys=>ys=bkR bs bs.length)
   (fun pre=>∃k,k<=bs.length/\pre=bkR bs k) bs.length w:=fun l J Jx W hW _ _ hY h0=>by
 have hc':=(hW.cell (p:=⟨Bs,0,none⟩) hBs).trans hc;rcases hI with h|⟨b,off,rfl,hb,hcs0⟩
 ·rw[h] at hc';exact(aaU F n h7 hro l Bs A cap J W hc' h0).mono fun e W' ⟨he,hj⟩=>⟨he,.inl ⟨_,by rw[h];rfl,hj⟩⟩
 ·exact aia F n h7 hro hn l Bs n₀ b off cap bs hreach hb J Jx hY W hc' (fun j x hx=>⟨JY (hcs0 j x hx).1 (hW.mono hn₀) hb,(hcs0 j x hx).2⟩) h0
def PK:ag Lr->Nat->aj Nat
 | [],y=>some y
 |r::rs,y=>if r.every<1\/400<r.every\/r.rest<0\/r.every<=r.rest then none else if 400<Nat.lcm y r.every.toNat then none else PK rs (Nat.lcm y r.every.toNat)
def aok:aj Nat->ah
 |none=>.tuple #[I 0,.bool false]
 |some y=>.tuple #[I (y:Int),.bool true]
theorem ahl:∀(rs:ag Lr) (y N:Nat),1<=y->y<=400->PK rs y=some N->1<=N/\N<=400
 | [],y,N,h1,h2,h=>by
  injection h with h;omega
 |r::rs,y,N,h1,h2,h=>by
  unfold PK at h;split at h
  ·cases h
  ·rename_i hb;split at h
   ·cases h
   ·rename_i hl;refine ahl rs _ N (nI (by omega) (by omega)) (by omega) h
theorem ad9 (rs:ag Lr)(R:aj Addr)(r n:Nat)(w:ae)(h:JS w w.heap.size R (rs.flatMap Lr.cells))(hn:rs.length=n)(hn2:n<=100000):Calls Tryz.prog 107 #[.slice R n r] w (Gives (aok (PK rs 1)) w):=by
 have HN:=JJ hn;have HC:=JJ h;have HL3:Hid ((rs.flatMap Lr.cells).length=n*3):=JJ (by rw[KW (s:=3) Lr.cells rs (fun _ _=>rfl),hn]);clear h hn;go_enter Tryz.func107,Tryz.ntmps107;go_wp2_with fail
 go_loopw [4,11] (fun y i wr=>∃k Y:Nat,k<=n/\y=I (Y:Int)/\i=I (k:Int)/\1<=Y/\Y<=400/\PK rs 1=PK (rs.drop k) Y/\ai w.heap.size w wr) (fun _ i _=>n - (intOf i).toNat)
 case atStart=>exact⟨0,1,aG _,rfl,rfl,by omega,by omega,rfl,aW _ _⟩
 case round=>
  obtain⟨k,Y,hk,rfl,rfl,hy1,hy2,hp,hb⟩:=hrel;have HB:=JJ hb;have HP:=JJ hp;clear hb hp;by_cases hlt:k<n
  ·obtain⟨x,hx⟩:∃x,rs[k]? =some x:=⟨_,KL (by rw[HN.out];exact hlt)⟩;obtain⟨b,off,rfl,hbl,hcl⟩:=HC.out.there (by rw[HL3.out];omega);have hr:=JY (JS.elem (s:=3) (f:=Lr.cells) (fun _ _=>rfl) hcl k x hx) HB.out hbl;have hd:rs.drop k=x::rs.drop (k+1):=by
    rw[eF (by rw[HN.out];exact hlt)];rw[KL (by rw[HN.out];exact hlt)] at hx;injection hx with hx;rw[hx]
   rw[hd] at HP;obtain⟨ev,re,ye⟩:=x;have f0:wr.cell? ⟨b,off+k*3,none⟩=some (I ev):=hr 0 _ rfl;have f1:wr.cell? ⟨b,off+k*3+1,none⟩=some (I re):=hr 1 _ rfl;have f2:wr.cell? ⟨b,off+k*3+2,none⟩=some (.bool ye):=hr 2 _ rfl;have i0:(0:Int)<=(k:Int):=by omega
   have i1:(k:Int)<(n:Int):=by omega
   have hne:¬b=wr.heap.size:=by have:=HB.out.size;omega
   have HB2:=JJ (JL HB.out (JM wr (.cells #[I ev,I re,.bool ye] 118)));by_cases hbad:ev<1\/400<ev\/re<0\/ev<=re
   ·have hF:PK rs 1=none:=by rw[HP.out];unfold PK;rw[bD hbad]
    have HF:=JJ hF;have hb4:ev<1\/(¬ev<1/\400<ev)\/(¬ev<1/\¬400<ev/\re<0)\/(¬ev<1/\¬400<ev/\¬re<0/\ev<=re):=by omega
    clear hbad hd hr hcl hx hF;rcases hb4 with g1|⟨g1,g2⟩|⟨g1,g2,g3⟩|⟨g1,g2,g3,g4⟩
    all_goals
     go_wp2_with fail;go_ret2;exact⟨by rw[HF.out];rfl,HB2.out⟩
   ·have g1:¬ev<1:=fun h=>hbad (.inl h);have g2:¬400<ev:=fun h=>hbad (.inr (.inl h));have g3:¬re<0:=fun h=>hbad (.inr (.inr (.inl h)));have g4:¬ev<=re:=fun h=>hbad (.inr (.inr (.inr h)));obtain⟨E,rfl⟩:∃E:Nat,ev=(E:Int):=⟨ev.toNat,by omega⟩;have HLC:=JJ (fun W=>an6 Y E hy1 hy2 (by omega) (by omega) W);obtain⟨L,hL⟩:∃L,Nat.lcm Y E=L:=⟨_,rfl⟩;have hL1:1<=L:=by rw[<-hL];exact nI (by omega) (by omega)
    have hP2:PK rs 1=if 400<L then none else PK (rs.drop (k+1)) L:=by
     rw[HP.out];show(if _ then _ else _)=_;rw[bP hbad,jo,hL]
    have HP2:=JJ hP2;rw[hL] at HLC;clear hbad hd hr hcl hx hP2 hL HP;go_upto_region 8 with fail;refine(HLC.out _).mono ?_;rintro e w5 ⟨rfl,hb5⟩;have VI:=JJ (JL HB2.out hb5);clear hb5 HB2 HLC f0 f1 f2;by_cases hL4:400<L
    ·have hl:(400:Int)<(L:Int):=by omega
     have HF:Hid (PK rs 1=none):=JJ (by rw[HP2.out,bD hL4]);go_wp2_with fail;go_ret2;exact⟨by rw[HF.out];rfl,VI.out⟩
    ·have hl:¬(400:Int)<(L:Int):=by omega
     have HF:Hid (PK rs 1=PK (rs.drop (k+1)) L):=JJ (by rw[HP2.out,bP hL4]);go_wp2_with fail;go_roundw
     case rel=>exact⟨k+1,L,by omega,rfl,by go_num,hL1,by omega,HF.out,VI.out⟩
     case measure=>simp[intOf];omega
  ·have hkn:k=n:=by omega
   have hlt':¬(k:Int)<(n:Int):=by omega
   have HF:Hid (PK rs 1=some Y):=JJ (by rw[HP.out,dW (by rw[HN.out];omega)];rfl);clear hlt hkn;go_wp2_with fail;go_ret2;exact⟨by rw[HF.out];rfl,HB.out⟩
structure MR (c:Cal):Prop where
 ep:0<=c.KI/\c.KI<=1048576
 ml:1<=c.JQ.length/\c.JQ.length<=16
 lp: -1<=c.Lm/\c.Lm<(c.JQ.length:Int)
 rl:c.rules.length<=16
 nl:c.Lm= -1->c.rules.length=0
 mo:∀m∈c.JQ,1<=m/\m<=40
 per:(PK c.rules 1).isSome=true
def vC (c:Cal):Bool:=decide (0<=c.KI/\c.KI<=1048576)&&(decide (1<=c.JQ.length/\c.JQ.length<=16)&&(decide (-1<=c.Lm/\c.Lm<(c.JQ.length:Int))&&(decide (c.rules.length<=16)&&(decide (c.Lm= -1->c.rules.length=0)&&(c.JQ.all (fun m=>decide (1<=m/\m<=40))&&(PK c.rules 1).isSome)))))
theorem aao (c:Cal):vC c=true↔MR c:=by
 unfold vC;simp only[eX,eP,iF];exact⟨fun ⟨h1,h2,h3,h4,h5,h6,h7⟩=>⟨h1,h2,h3,h4,h5,h6,h7⟩,fun ⟨h1,h2,h3,h4,h5,h6,h7⟩=>⟨h1,h2,h3,h4,h5,h6,h7⟩⟩
theorem SB {c:Cal}(h:MR c):vC c=true:=(aao c).2 h
theorem aap {c:Cal}(h:¬MR c):vC c=false:=by
 cases e:vC c with
 |false=>rfl
 |true=>exact absurd ((aao c).1 e) h
theorem RF (c:Cal)(A R:aj Addr)(a r:Nat)(w:ae)(h:Rw w w.heap.size A R c):Calls Tryz.prog 88 #[.agg (J7 c A a R r)] w (Gives (.bool (vC c)) w):=by
 obtain⟨nr,hnr⟩:∃n,c.rules.length=n:=⟨_,rfl⟩;obtain⟨n,hn⟩:∃n,c.JQ.length=n:=⟨_,rfl⟩;have adt:=JJ (fun (h16:nr<=16) (W:ae) (hb:ai w.heap.size w W)=>ad9 c.rules R r nr W ((h.rules.keep hb).more hb.size) hnr (by omega));have e0:J7 c A a R r= #[I c.KI,.slice A n a,I c.Lm,.slice R nr r]:=by rw[<-hn,<-hnr];rfl
 rw[e0];have HV:=JJ (OY.start w #[I c.KI,.slice A n a,I c.Lm,.slice R nr r] 65);obtain⟨lp,hlp⟩:∃l,c.Lm=l:=⟨_,rfl⟩;obtain⟨ep,QL⟩:∃l,c.KI=l:=⟨_,rfl⟩;rw[hlp,QL] at HV⊢;have HM:=JJ h.JQ;have WU:=JJ (show c.JQ.length=n/\c.rules.length=nr/\c.Lm=lp/\c.KI=ep from⟨hn,hnr,hlp,QL⟩);by_cases hbad:ep<0\/1048576<ep\/n<1\/16<n\/lp< -1\/(n:Int)<=lp\/16<nr\/(lp= -1/\0<nr)
 ·have HF:Hid (vC c=false):=JJ (aap fun hg=>by
   have h1:=hg.ep;have h2:=hg.ml;have h3:=hg.lp;have h4:=hg.rl;have h5:=hg.nl;omega)
  have hb4:ep<0\/(¬ep<0/\1048576<ep)\/(¬ep<0/\¬1048576<ep/\(n:Int)<1)\/(¬ep<0/\¬1048576<ep/\¬(n:Int)<1/\(16:Int)<(n:Int))\/(¬ep<0/\¬1048576<ep/\¬(n:Int)<1/\¬(16:Int)<(n:Int)/\lp< -1)\/(¬ep<0/\¬1048576<ep/\¬(n:Int)<1/\¬(16:Int)<(n:Int)/\¬lp< -1/\(n:Int)<=lp)\/(¬ep<0/\¬1048576<ep/\¬(n:Int)<1/\¬(16:Int)<(n:Int)/\¬lp< -1/\¬(n:Int)<=lp/\(16:Int)<(nr:Int))\/(¬ep<0/\¬1048576<ep/\¬(n:Int)<1/\¬(16:Int)<(n:Int)/\¬lp< -1/\¬(n:Int)<=lp/\¬(16:Int)<(nr:Int)/\lp= -1/\(0:Int)<(nr:Int)):=by omega
  clear hbad h hnr hn hlp QL e0 adt HM;rcases hb4 with g1|⟨g1,g2⟩|⟨g1,g2,g3⟩|⟨g1,g2,g3,g4⟩|⟨g1,g2,g3,g4,g5⟩|⟨g1,g2,g3,g4,g5,g6⟩|⟨g1,g2,g3,g4,g5,g6,g7⟩|⟨g1,g2,g3,g4,g5,g6,g7,g8,g9⟩
  all_goals
   try subst g8
   go_enter Tryz.func88,Tryz.ntmps88;go_wp2_with fail;go_ret;exact⟨by rw[HF.out];rfl,HV.out.up⟩
 ·have g1:¬ep<0:=fun h=>hbad (.inl h);have g2:¬1048576<ep:=fun h=>hbad (.inr (.inl h));have g3:¬(n:Int)<1:=by omega
  have g4:¬(16:Int)<(n:Int):=by omega
  have g5:¬lp< -1:=by omega
  have g6:¬(n:Int)<=lp:=by omega
  have g7:¬(16:Int)<(nr:Int):=by omega
  have hnb:Hid (nr<=16/\1<=n/\n<=16):=JJ (by omega);have hsp:((lp== -1)=true/\¬(0:Int)<(nr:Int))\/(lp== -1)=false:=by
   by_cases h:lp= -1
   ·exact .inl ⟨by simp[h],by omega⟩
   ·exact .inr (by simpa using h)
  have HPR:=JJ (adt.out (by omega));have HGD:Hid (0<=ep/\ep<=1048576/\1<=n/\n<=16/\ -1<=lp/\lp<(n:Int)/\nr<=16/\(lp= -1->nr=0)):=JJ (by omega);clear hbad h hnr hn hlp QL e0 adt;rcases hsp with ⟨t0,g9⟩|t0
  all_goals
   go_enter Tryz.func88,Tryz.ntmps88;go_wp2_with fail
   go_loopw [52] (fun i wr=>∃k:Nat,k<=n/\i=I (k:Int)/\(∀m∈c.JQ.take k,1<=m/\m<=40)/\(Row wr w.heap.size #[I ep,.slice A n a,I lp,.slice R nr r]/\ai w.heap.size w wr)) (fun i _=>n - (intOf i).toNat)
   case atStart=>exact⟨0,aG _,rfl,(fun _ h=>nomatch h),HV.out.row,HV.out.up⟩
   case round=>
    obtain⟨k,hk,rfl,hall,hrow,hb⟩:=hrel;have HB:=JJ hb;have Yw:=JJ hall;have HRW:=JJ hrow;clear hb hall hrow HV;by_cases hlt:k<n
    ·have i0:(0:Int)<=(k:Int):=by omega
     have i1:(k:Int)<(n:Int):=by omega
     obtain⟨x,hx⟩:∃x,c.JQ[k]? =some x:=⟨_,KL (by rw[WU.out.1];exact hlt)⟩;obtain⟨b,off,rfl,hbl,hcl⟩:=HM.out.there (by rw[aI,WU.out.1];omega);have f0:wr.cell? ⟨b,off+k,none⟩=some (I x):=(HB.out.cell (p:=⟨b,off+k,none⟩) hbl).trans (hcl k _ (by rw[aJ,hx];rfl));have HX:=JJ hx;clear hx hcl;by_cases hxb:x<1\/40<x
     ·have HF:Hid (vC c=false):=JJ (aap fun hg=>by
       have h1:=hg.mo x (LQ HX.out);omega)
      have hx4:x<1\/(¬x<1/\40<x):=by omega
      clear hxb;rcases hx4 with q1|⟨q1,q2⟩
      all_goals
       go_wp2_with fail;go_ret;exact⟨by rw[HF.out];rfl,HB.out⟩
     ·have q1:¬x<1:=fun h=>hxb (.inl h);have q2:¬40<x:=fun h=>hxb (.inr h);have HN:Hid (∀m∈c.JQ.take (k+1),1<=m/\m<=40):=JJ (by
       rw[Oq c.JQ k x HX.out];intro m hm;rcases dm.1 hm with h1|h1
       ·exact Yw.out m h1
       ·rw[aY.1 h1];omega)
      clear hxb;go_wp2_with fail;go_roundw
      case rel=>exact⟨k+1,by omega,by have h16:=hnb.out;go_num,HN.out,HRW.out,HB.out⟩
      case measure=>simp[intOf];have h16:=hnb.out;omega
    ·have hkn:k=n:=by omega
     have hlt':¬(k:Int)<(n:Int):=by omega
     have HAM:Hid (∀m∈c.JQ,1<=m/\m<=40):=JJ (by
      have h:=Yw.out
      rwa [aU (by rw[WU.out.1];omega)] at h)
     have v3:=HRW.out.2 3;clear hlt hkn;go_wp2_with fail;refine(HPR.out wr HB.out).mono ?_;rintro e w1 ⟨rfl,hb1⟩;have HB1:=JJ (JL HB.out hb1);clear hb1 HPR;obtain⟨p,hp⟩:∃p,PK c.rules 1=p:=⟨_,rfl⟩;have Zd:=JJ hp;rw[hp];clear hp;cases p with
     |none=>
      have HF:Hid (vC c=false):=JJ (aap fun hg=>by
       have h1:=hg.per;rw[Zd.out] at h1;cases h1)
      unfold aok;go_wp2_with fail;go_ret;exact⟨by rw[HF.out];rfl,HB1.out⟩
     |some y=>
      have HF:Hid (vC c=true):=JJ (SB (by
       have h1:=HGD.out;have h2:=WU.out;exact⟨by omega,by omega,by omega,by omega,fun h=>by omega,HAM.out,by rw[Zd.out];rfl⟩))
      unfold aok;go_wp2_with fail;go_ret;exact⟨by rw[HF.out];rfl,HB1.out⟩
section
variable {F:Fence}{n:Nat}{P:Program}{ops:ax Oper}{Q:Exit->Act->ae->Prop}{md:Region.Mode}
theorem We (l0:Nat)(hd:∀(i:Nat) (o:Oper),ops[i]? =some o->∀c,o.op≠ .defer c):∀(fuel:Nat) (listed:ax Bool) (a:Act) (w:ae),wpAnyIn F n P md ops Q fuel listed a w->wpAnyIn (F.inRound l0) n P md ops Q fuel listed a w:=by
 intro fuel
 induction fuel with
 |zero=>intro listed a w h;exact h
 |succ fuel ih=>
  intro listed a w h;refine⟨h.1,fun i hi=>?_⟩;have h2:=wpOpIn_mono (fun a w=>ih _ a w) (h.2 i hi);unfold wpOpIn at h2⊢;cases ho:ops[i]? with
  |none=>rw[ho] at h2;exact h2
  |some o=>
   rw[ho] at h2;simp only at h2⊢;split
   ·rename_i hw;rw[bD hw] at h2;unfold Oper.wpIn at h2⊢;rw[Oper.semAt_eq _ _ _ (hd i o ho)] at h2⊢;exact h2
   ·rename_i hw;rw[bP hw] at h2;exact h2
theorem TZ {l0 id:Nat}{a:Act}{w:ae}{l:ag Oper}(hd:(l.all fun o=>match o.op with| .defer _=>false|_=>true)=true)(hm:P.follows .mixedOrders=true)(hB:Region.lexB .any l.toArray=true)
  (h:wpQuietIn Fence.wide n P l.toArray (fun w'=>∃n,w'=w.drewN n) (fun a'=>∀w',(∃n,w'=w.drewN n)->Q .normal a' w') l a):(Code.region id l.toArray true).wpIn (Fence.wide.inRound l0) n P Q a w:=by
 simp only[Region.lexB,eX] at hB;refine wpIn_region_any hm (We l0 (fun i o ho c hc=>?_) _ _ _ _ (wpAnyIn_of_quiet (C:=fun w'=>∃n,w'=w.drewN n) (Q:=fun a'=>∀w',(∃n,w'=w.drewN n)->Q .normal a' w') rfl (fun _ w' hw' h=>h w' hw') _ _ _ _ ⟨1,rfl⟩ ?_))
 ·have hm2:o∈l:=by
   rw[eU] at ho;exact LQ ho
  have h3:=iF.1 hd o hm2;rw[hc] at h3;cases h3
 ·have:=wpAnyQIn_lex (F:=Fence.wide) (n:=n) (C:=fun w'=>∃n,w'=w.drewN n) (md:=.any) hB.1 l.toArray.toList 0 (Array.replicate l.toArray.size false) a (by simp) (by simpa using hB.2) (by simpa using h);simpa using this
end
theorem V4 {P:Program}{fn:Func}{p:Tmp}{ty:TypeId}(h:fn.results= #[.cell p ty])(tmps:ax ah)(w:ae)(g:Nat)(t:TypeId)(v:ah)(hp:tmps.getD p undef=.pointer (some ⟨g,0,none⟩))(hg:w.heap[g]? =some (.cells #[v] t (0,0)))(hu:P.underlying ty=some .bool):(results fn tmps).run P w=.ok v w:=by
 have hp':tmps[p]?.getD undef=.pointer (some ⟨g,0,none⟩):=by simpa using hp
 have hc:w.cell? ⟨g,0,none⟩=some v:=aC w g 0 _ _ _ hg;have ha:(isAgg ty).run P w=.ok false w:=by simp[isAgg,underlying,go_sem,hu]
 simp[results,h,hp',asAddr,loadVar,go_sem,ha,hc]
theorem arJ (t:ax ah)(p q:Tmp)(u v:ah):(#[p,q].zip #[u,v]).foldl (fun t (x:Tmp×ah)=>t.setIfInBounds x.1 x.2) t=(t.setIfInBounds p u).setIfInBounds q v:=by simp
def PE (c:Cal)(A:aj Addr)(a:Nat)(R:aj Addr)(r:Nat)(S:ah):ax ah:= #[I c.KI,.slice A c.JQ.length a,I c.Lm,.slice R c.rules.length r,S]
structure LpV (w:ae)(y:Int)(b:Bool)(W:ae):Prop where
 yr:W.heap[w.heap.size+1]? =some (.cells #[I y] 3 (0,0))
 res:W.heap[w.heap.size+2]? =some (.cells #[.bool b] 4 (0,0))
 up:ai w.heap.size w W
theorem LpV.grow {w W W':ae}{y:Int}{b:Bool}(h:LpV w y b W)(hb:ai W.heap.size W W'):LpV w y b W':=
 ⟨(hb.block _ (KY.1 h.yr).1).trans h.yr,(hb.block _ (KY.1 h.res).1).trans h.res,JL h.up hb⟩
theorem LpV.sz {w W:ae}{y:Int}{b:Bool}(h:LpV w y b W):w.heap.size+2<W.heap.size:=(KY.1 h.res).1
theorem LpV.start (w:ae)(y:Int)(cs:ax ah)(t:TypeId):LpV w y false (((w.alloc (.cells cs t)).alloc (.cells #[I y] 3)).alloc (.cells #[.bool false] 4)):=by
 have h1:=aF (w.alloc (.cells cs t)) (.cells #[I y] 3);have h2:=aF ((w.alloc (.cells cs t)).alloc (.cells #[I y] 3)) (.cells #[.bool false] 4);rw[dO] at h1;rw[dO,dO] at h2;exact⟨(aV _ _ _ (by simp)).trans h1,h2,(((aW _ w).alloc (ay _) _).alloc (by simp) _).alloc (by simp;omega) _⟩
theorem LpV.set {w W:ae}{y:Int}{b:Bool}(h:LpV w y b W)(v:Bool):LpV w y v (W.setCell ⟨w.heap.size+2,0,none⟩ (.bool v)):=by
 refine⟨(aN W _ _ _ (by show w.heap.size+1≠w.heap.size+2;omega)).trans h.yr,?_,h.up.setCell (p:=⟨w.heap.size+2,0,none⟩) (by show w.heap.size<=w.heap.size+2;omega) _⟩;rw[bJ W _ 0 _ _ _ h.res];rfl
theorem ahd {w X Y:ae}{y:Int}{b:Bool}{B:Nat}{row:aj Nat}(hB:w.heap.size<=B)(hs:LpV w y b X)(hg:X.grownBy Y row)(hr:∀r,row=some r->B<=r/\∃o:Obj,X.heap[r]? =some o/\o.isCells=false):LpV w y b Y:=by
 have key:∀k cs t,X.heap[k]? =some (Obj.cells cs t (0,0))->Y.heap[k]? =X.heap[k]? :=fun k cs t hk=>
  hg.block k (KY.1 hk).1 fun e=>by
   obtain⟨_,o,ho,hc⟩:=hr k e.symm;rw[hk] at ho;cases ho;cases hc
 exact⟨(key _ _ _ hs.yr).trans hs.yr,(key _ _ _ hs.res).trans hs.res,hs.up.grown hg hs.up.size (fun k e=>aO hB (hr k e).1)⟩
theorem asu {w:ae}{y:Int}{B:Nat}(hB:w.heap.size<=B){β:Type}(f:β->Prop):OwnFrom B (fun s W=>LpV w y false W/\w.heap.size+3<W.heap.size/\f s):=fun _ _ _ _ hs hg hr=>⟨ahd hB hs.1 hg hr,LK hs.2.1 hg.size,hs.2.2⟩
end Go.Proofs.YtbaehbbonkljpaaGreatDoor
