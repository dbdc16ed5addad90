/- The texts Pk, Ka, Back, Pe, Qb, Pf, in this order. -/
import Derived.Test.YtbaehbbonkljpaaGreatDoorT02
set_option maxRecDepth 10000
set_option maxHeartbeats 8000000
namespace Go.Proofs.YtbaehbbonkljpaaGreatDoor
open Go Go.RowKit
structure afc (c:Cal):Prop where
 ep:0<=c.KI/\c.KI<=100
 mo:c.JQ.length=2
 all:∀x∈c.JQ,6<=x/\x<=8
 le: -1<=c.Lm/\c.Lm<2
 ru:c.rules.length<=1
 nl:c.Lm= -1->c.rules.length=0
 rl:∀r∈c.rules,r.every=2/\0<=r.rest/\r.rest<2
structure Rw (w:ae)(B:Nat)(A:aj Addr)(R:aj Addr)(c:Cal):Prop where
 JQ:JS w B A (c.JQ.map I)
 rules:JS w B R (c.rules.flatMap Lr.cells)
theorem Rw.grow {w w':ae}{A R:aj Addr}{c:Cal}(h:Rw w w.heap.size A R c)(hb:ai w.heap.size w w'):Rw w' w'.heap.size A R c:=⟨h.JQ.grow hb,h.rules.grow hb⟩
theorem Rw.month {w W:ae}{A R:aj Addr}{c:Cal}(h:Rw w w.heap.size A R c)(hc:afc c)(hb:ai w.heap.size w W)(k:Nat)(hk:k<2):∃x b off,c.JQ[k]? =some x/\A=some ⟨b,off,none⟩/\W.cell? ⟨b,off+k,none⟩=some (I x)/\6<=x/\x<=8:=by
 have hl:k<c.JQ.length:=by rw[hc.mo];exact hk
 obtain⟨b,off,e,hb1,hcl⟩:=h.JQ.there (by rw[aI,hc.mo];omega);have hx:=KL hl;refine⟨_,b,off,hx,e,?_,hc.all _ (jV hl)⟩;rw[hb.cell (p:=⟨b,off+k,none⟩) hb1];exact hcl k _ (by rw[aJ,hx];rfl)
structure OY (w:ae)(cs:ax ah)(W:ae):Prop where
 row:Row W w.heap.size cs
 up:ai w.heap.size w W
theorem OY.grow {w W W':ae}{cs:ax ah}(h:OY w cs W)(hb:ai W.heap.size W W'):OY w cs W':=⟨h.row.keep hb,JL h.up hb⟩
theorem OY.start (w:ae)(cs:ax ah)(t:TypeId):OY w cs (w.alloc (.cells cs t)):=⟨Row.new w cs t,JM w _⟩
theorem afc.form {c:Cal}(hc:afc c):∃ep m0 m1 lp rs,c=⟨ep,[m0,m1],lp,rs⟩/\(0<=ep/\ep<=100)/\(6<=m0/\m0<=8)/\(6<=m1/\m1<=8)/\(-1<=lp/\lp<2)/\(rs= []\/∃q y,rs= [⟨2,q,y⟩]/\0<=q/\q<2/\lp≠ -1):=by
 obtain⟨ep,mo,lp,rs⟩:=c;obtain⟨h1,h2,h3,h4,h5,h6,h7⟩:=hc;simp only at h1 h2 h3 h4 h5 h6 h7
 match mo,h2 with
 | [m0,m1],_=>
  refine⟨ep,m0,m1,lp,rs,rfl,h1,h3 m0 (by simp),h3 m1 (by simp),h4,?_⟩
  match rs,h5 with
  | [],_=>exact .inl rfl
  | [⟨e,q,y⟩],_=>
   obtain⟨z1,z2,z3⟩:=h7 ⟨e,q,y⟩ (by simp);simp only at z1 z2 z3;subst z1;exact .inr ⟨q,y,rfl,z2,z3,fun e=>by have:=h6 e;simp at this⟩
theorem Rw.one {w W:ae}{A R:aj Addr}{ep m0 m1 lp q:Int}{y:Bool}(h:Rw w w.heap.size A R ⟨ep,[m0,m1],lp,[⟨2,q,y⟩]⟩)(hb:ai w.heap.size w W):∃b off,R=some ⟨b,off,none⟩/\W.cell? ⟨b,off,none⟩=some (I 2)/\W.cell? ⟨b,off+1,none⟩=some (I q)/\W.cell? ⟨b,off+2,none⟩=some (.bool y):=by
 obtain⟨b,off,e,hb1,hcl⟩:=h.rules.there (by simp[Lr.cells]);exact⟨b,off,e,(hb.cell (p:=⟨b,off,none⟩) hb1).trans (hcl 0 _ rfl),(hb.cell (p:=⟨b,off+1,none⟩) hb1).trans (hcl 1 _ rfl),(hb.cell (p:=⟨b,off+2,none⟩) hb1).trans (hcl 2 _ rfl)⟩
theorem akr (a b:Int)(h:0<=a):a.tmod b=a%b:=aS h
theorem ald (a b:Int)(w:ae)(hb:0<b)(hb2:b<=1000000000)(ha:0<=a):
  Calls Tryz.prog 132 #[I a,I b] w fun e w'=>e=.returned (I (a%b))/\w'=w:=by
 have he:=akr a b ha;have h0:=iL a (show b≠0 by omega);have h1:=gG a hb;obtain⟨q,hq⟩:∃q,a%b=q:=⟨_,rfl⟩;rw[hq] at he h0 h1⊢;have hb0:b≠0:=by omega
 have hb1:b≠ -1:=by omega
 have h2:¬q<0:=by omega
 clear hq;go_enter Tryz.func132,Tryz.ntmps132
 go_wp2
 go_ret;exact⟨rfl,rfl⟩
def aqf (c:Cal)(y:Int):Bool:=match c.rules with| []=>false|r::_=>(y%2==r.rest)&&r.yes
def anJ (c:Cal):Int:=(c.JQ[0]?.getD 0)+(c.JQ[1]?.getD 0)
def ale (c:Cal)(y m:Int):Int:=(c.JQ[(m - 1).toNat]?.getD 0)+(if m - 1=c.Lm/\aqf c y=true then 1 else 0)
def ahF (c:Cal)(y:Int):Int:=anJ c+(if aqf c y=true then 1 else 0)
def az0 (c:Cal):Int:=match c.rules with| []=>ahF c 1|_::_=>ahF c 1+ahF c 2
end Go.Proofs.YtbaehbbonkljpaaGreatDoor
namespace Go.Proofs.YtbaehbbonkljpaaGreatDoor
open Go Go.RowKit Go.Shelf
attribute [local go_sem] iM
def upto {α:Type}(f:Nat->α)(k:Nat):ag α:=(List.range k).map f
theorem upto_succ {α:Type}(f:Nat->α)(k:Nat):upto f (k+1)=upto f k++ [f k]:=by simp[upto,List.range_succ]
theorem upto_length {α:Type}(f:Nat->α)(k:Nat):(upto f k).length=k:=by simp[upto]
def bk (bs:ag au)(k:Nat):Nat×au:=(bs.length - 1 - k,bs[bs.length - 1 - k]?.getD 0)
structure BK (n₀ Bs:Nat)(A B:ae):Prop where
 lo:ai n₀ A B
 box:B.cell? ⟨Bs,0,none⟩=A.cell? ⟨Bs,0,none⟩
theorem BK.refl (n₀ Bs:Nat)(A:ae):BK n₀ Bs A A:=⟨aW _ _,rfl⟩
theorem BK.trans {n₀ Bs:Nat}{A B C:ae}(h:BK n₀ Bs A B)(k:BK n₀ Bs B C):BK n₀ Bs A C:=⟨h.lo.trans k.lo,k.box.trans h.box⟩
theorem ary {n₀ Bs:Nat}{w:ae}(hn:n₀<=w.heap.size)(hB:Bs<w.heap.size)(W:ae)(l:Nat)(o o':Obj)(hl:w.heap.size<=l)(h:W.heap[l]? =some o)(hc:o.isCells=false)(hk:o.isWalk=false):BK n₀ Bs W (W.putObj l o'):=
 ⟨l9 hn W l o o' hl h hc hk,(l9 (n₀:=Bs+1) hB W l o o' hl h hc hk).cell (p:=⟨Bs,0,none⟩) (jy _)⟩
theorem akg (F:Fence)(n:Nat)(h7:F.fn 188)(hro:F.round=none)(hn:1<=n)(l Bs n₀ b off cap:Nat)(bs:ag au)(hreach:bs.length<=140737488351232)(hb:b<n₀)(J Jx:ag (Nat×au)->ae->Prop)
  (hY:∀pre x W,J pre W->pre.length<bs.length->YieldAt F (n - 1) Tryz.prog l #[.int .i64 (x.1:Int),Extern.Stop.cell x.2] W fun e W'=>
   (e=.returned (.bool true)/\J (pre++ [x]) W'/\BK n₀ Bs W W')\/(e=.returned (.bool false)/\Jx (pre++ [x]) W'))
  (W:ae)(hBs:W.cell? ⟨Bs,0,none⟩=some (.slice (some ⟨b,off,none⟩) bs.length cap))(hc:∀j,j<bs.length->W.cell? ⟨b,off+j,none⟩=some (Extern.Stop.cell (bs[j]?.getD 0)))(h0:J [] W):
  CallsIn F n Tryz.prog 188 #[.func (.yield l) #[] #[],.pointer (some ⟨Bs,0,none⟩)] W fun e W'=>(∃v,e=.returned v)/\
   ((∃ys,ys=upto (bk bs) bs.length/\J ys W')\/(∃pre,(∃k,k<=bs.length/\pre=upto (bk bs) k)/\Jx pre W')):=by
 refine ik Tryz.func188 rfl h7 ?_ hro;simp only[Tryz.ntmps188,bZ,bG,dE,Nat.reduceAdd,Nat.reduceSub,df,dh,dL,dw,bU,dn]
 gi_wp2
 gi_loopw [3] (fun i wr=>∃k:Nat,k<=bs.length/\i=.int .i64 ((bs.length:Int) - 1 - k)/\J (upto (bk bs) k) wr/\BK n₀ Bs W wr)
  (fun i _=>((intOf i)+1).toNat)
 case atStart=>exact⟨0,aG _,by go_num,h0,BK.refl _ _ _⟩
 case round=>
  obtain⟨k,hk,rfl,hJs,hnx⟩:=hrel;by_cases hlt:k<bs.length
  ·obtain⟨m,hm⟩:∃m:Nat,m=bs.length - 1 - k:=⟨_,rfl⟩;have hmi:(bs.length:Int) - 1 - k=(m:Int):=by omega
   have hml:m<bs.length:=by omega
   have hx:bk bs k=(m,bs[m]?.getD 0):=by unfold bk;rw[<-hm]
   obtain⟨x,hxx⟩:∃x,bs[m]?.getD 0=x:=⟨_,rfl⟩;rw[hxx] at hx;have hcx:wr.cell? ⟨b,off+m,none⟩=some (Extern.Stop.cell x):=by rw[<-hxx];exact(hnx.lo.cell (p:=⟨b,off+m,none⟩) hb).trans (hc m hml)
   have hbx:wr.cell? ⟨Bs,0,none⟩=some (.slice (some ⟨b,off,none⟩) bs.length cap):=hnx.box.trans hBs;obtain⟨fn,tmps,assign,body,hy,hR⟩:=hY _ (m,x) wr hJs (by rw[upto_length];exact hlt);dsimp only at hy;rw[hmi];have HM:=JJ hm;have HMI:=JJ hmi;have HX:=JJ hx;clear hm hmi hx hxx
   gi_wp2
   refine hR.mono ?_;rintro e W3 (⟨rfl,hJ3,hk3⟩|⟨rfl,hJx3⟩)
   ·gi_wp2
    go_roundw
    case rel=>exact⟨k+1,by omega,by have:=HMI.out;congr 1;omega,by rw[upto_succ,HX.out];exact hJ3,hnx.trans hk3⟩
    case measure=>simp[intOf]
   ·gi_wp2
    refine aX (lG rfl _ _ _) rfl ?_;exact⟨⟨_,rfl⟩,.inr ⟨_,⟨k+1,by omega,by rw[upto_succ,HX.out]⟩,hJx3⟩⟩
  ·have hke:k=bs.length:=by omega
   have Y9:=JJ hke;clear hke
   gi_wp2
   go_end0
   exact⟨⟨_,rfl⟩,.inl ⟨_,by rw[Y9.out],hJs⟩⟩
theorem ab9 (F:Fence)(n:Nat)(h7:F.fn 188)(hro:F.round=none)(l Bs:Nat)(A:aj Addr)(c:Nat)(J:ag (Nat×au)->ae->Prop)(W:ae)(hBs:W.cell? ⟨Bs,0,none⟩=some (.slice A 0 c))(h0:J [] W):
  CallsIn F n Tryz.prog 188 #[.func (.yield l) #[] #[],.pointer (some ⟨Bs,0,none⟩)] W fun e W'=>(∃v,e=.returned v)/\J [] W':=by
 refine ik Tryz.func188 rfl h7 ?_ hro;simp only[Tryz.ntmps188,bZ,bG,dE,Nat.reduceAdd,Nat.reduceSub,df,dh,dL,dw,bU,dn]
 gi_wp2
 gi_loopw [3] (fun i wr=>i=.int .i64 (-1)/\J [] wr) (fun _ _=>0)
 case atStart=>exact⟨rfl,h0⟩
 case round=>
  obtain⟨rfl,hJs⟩:=hrel
  gi_wp2
  go_end0
  exact⟨⟨_,rfl⟩,hJs⟩
theorem anx (F:Fence)(n:Nat)(h5:F.fn 187)(hro:F.round=none)(a:aj Addr)(len cap:Nat)(w:ae):
  CallsIn F n Tryz.prog 187 #[.slice a len cap] w fun e w'=>e=.returned (.func (.func 188) #[] #[.pointer (some ⟨w.heap.size,0,none⟩)])/\w'=w.alloc (.cells #[.slice a len cap] 55):=by
 refine ik Tryz.func187 rfl h5 ?_ hro;simp only[Tryz.ntmps187,bZ,bG,dE,Nat.reduceAdd,Nat.reduceSub,df,dh,dL,dw,bU,dn]
 gi_wp2
 go_ret;exact⟨rfl,rfl⟩
theorem afw (F:Fence)(n:Nat)(h7:F.fn 188)(hro:F.round=none)(hn:1<=n)(Bs n₀:Nat)(A:aj Addr)(cap:Nat)(bs:ag au)(hreach:bs.length<=140737488351232)(w:ae)(hBs:Bs<w.heap.size)(hn₀:n₀<=w.heap.size)
  (hc:w.cell? ⟨Bs,0,none⟩=some (.slice A bs.length cap))(hI:BytesAt w n₀ A bs):
  SeqStopsK F n Tryz.prog 188 #[.pointer (some ⟨Bs,0,none⟩)] (fun x:Nat×au=> #[Value.int .i64 (x.1:Int),Extern.Stop.cell x.2]) (BK n₀ Bs) (fun ys=>ys=upto (bk bs) bs.length)
   (fun pre=>∃k,k<=bs.length/\pre=upto (bk bs) k) bs.length w:=fun l J Jx W hW _ _ hY h0=>by
 have hc':=(hW.cell (p:=⟨Bs,0,none⟩) hBs).trans hc;rcases hI.keep (hW.mono hn₀) with h|⟨b,off,rfl,hb,hcs⟩
 ·rw[h] at hc';exact(ab9 F n h7 hro l Bs A cap J W hc' h0).mono fun e W' ⟨he,hj⟩=>⟨he,.inl ⟨_,by rw[h];rfl,hj⟩⟩
 ·exact akg F n h7 hro hn l Bs n₀ b off cap bs hreach hb J Jx hY W hc' hcs h0
end Go.Proofs.YtbaehbbonkljpaaGreatDoor
namespace Go.Proofs.YtbaehbbonkljpaaGreatDoor
open Go Go.RowKit Go.Shelf
attribute [local go_sem] iM
section
variable {F:Fence}{n:Nat}{P:Program}{ops:ax Oper}{Q:Exit->Act->ae->Prop}{a:Act}{w:ae}{rest:ag Oper}{o:Oper}
theorem Rn (hg:o.guard=none)(ty:TypeId)(x:Operand)(ho:o.op=.load ty x)(b off:Nat)(hx:a.eval x=.pointer (some ⟨b,off,none⟩))(cs:ag ah)(d:TypeDesc)(hc:w.rangeAt b off cs)
  (hu:P.underlying ty=some d)(hd:d.isRow=true)(hi:(P.info? ty).map (·.size)=some cs.length)
  (h:wpListIn F n P ops Q rest (a.put o.dst (.agg cs.toArray)) w):wpListIn F n P ops Q (o::rest) a w:=by
 refine jS hg fun K hK=>?_;unfold Oper.wpIn;refine⟨?_,?_⟩
 ·intro f hf;simp[Oper.about,ho] at hf
 ·rw[jA F _ _ (by rw[ho];intro c hc';cases hc')];unfold execOp;simp only[ho,hx,Instr.loadAt,Instr.sureAddr,fH,jF,dX,lu w b off ty cs d hc hu hd hi];exact hK _ _ h
theorem UI (hg:o.guard=none)(t:TypeId)(ho:o.op=.alloc t)(cells:ax ah)(hz:(P.info? t).map (fun i=>(i.zero,i.size))=some (some (.agg cells),cells.size))
  (h:wpListIn F n P ops Q rest (a.put o.dst (.pointer (some ⟨w.heap.size,0,none⟩))) (w.alloc (.cells cells t))):wpListIn F n P ops Q (o::rest) a w:=by
 refine jS hg fun K hK=>?_;unfold Oper.wpIn;refine⟨?_,?_⟩
 ·intro f hf;simp[Oper.about,ho] at hf
 ·rw[jA F _ _ (by rw[ho];intro c hc';cases hc')];unfold execOp;simp only[ho,fH,Oi w t (.agg cells) _ hz,dX];exact hK _ _ h
theorem XN (hg:o.guard=none)(ty:TypeId)(x y:Operand)(ho:o.op=.store ty x y)(g:Nat)(cells:ax ah)(hx:a.eval x=.pointer (some ⟨g,0,none⟩))(hy:a.eval y=.agg cells)
  (t:TypeId)(old:ax ah)(hb:w.heap[g]? =some (.cells old t (0,0)))(hi:(P.info? ty).map (·.size)=some cells.size)(hold:old.size=cells.size)(h1:cells.all (·.oneCell')=true)
  (h:wpListIn F n P ops Q rest (a.put o.dst undef) (w.setRow g cells)):wpListIn F n P ops Q (o::rest) a w:=by
 refine jS hg fun K hK=>?_;unfold Oper.wpIn;refine⟨?_,?_⟩
 ·intro f hf;simp[Oper.about,ho] at hf
 ·rw[jA F _ _ (by rw[ho];intro c hc';cases hc')];unfold execOp;simp only[ho,hx,hy,Instr.storeAt,Instr.sureAddr,fH,jF,dX,run_storeVar_row w g t ty old cells hb hi hold h1];exact hK _ _ h
variable {d:aj Tmp}{t:TypeId}{pos:String}{af:ax Edge}{g:aj (Nat×Bool)}
theorem acj (ty:TypeId){x:Operand}(h:wpListIn F n P ops Q (⟨d,.load ty x,t,pos,af,g⟩::rest) a w):wpListIn F n P ops Q (⟨d,.load ty x,t,pos,af,g⟩::rest) a w:=h
theorem Xf (ty:TypeId){x y:Operand}(h:wpListIn F n P ops Q (⟨d,.store ty x y,t,pos,af,g⟩::rest) a w):wpListIn F n P ops Q (⟨d,.store ty x y,t,pos,af,g⟩::rest) a w:=h
theorem adT (ty:TypeId)(h:wpListIn F n P ops Q (⟨d,.alloc ty,t,pos,af,g⟩::rest) a w):wpListIn F n P ops Q (⟨d,.alloc ty,t,pos,af,g⟩::rest) a w:=h
end
def El (ts:ag Kv):Type:= {x:Nat×Kv // ts[x.1]? =some x.2}
def elt (ts:ag Kv)(m:Nat):ag (El ts):=if h:m<ts.length then [⟨(m,ts[m]),KL h⟩] else []
def bkL (ts:ag Kv):Nat->ag (El ts)
 |0=> []
 |k+1=>bkL ts k++elt ts (ts.length - 1 - k)
theorem adG (ts:ag Kv)(k m:Nat)(x:Kv)(hx:ts[m]? =some x)(hm:m=ts.length - 1 - k):bkL ts (k+1)=bkL ts k++ [⟨(m,x),hx⟩]:=by
 subst hm;obtain⟨h1,h2⟩:=MF.1 hx;subst h2;show bkL ts k++elt ts (ts.length - 1 - k)=_;unfold elt;rw[dif_pos h1]
theorem afx (ts:ag Kv)(k:Nat)(hk:k<=ts.length):(bkL ts k).length=k:=by
 induction k with
 |zero=>rfl
 |succ k ih=>
  show(bkL ts k++elt ts (ts.length - 1 - k)).length=k+1;unfold elt;rw[KN,ih (by omega),dif_pos (by omega)];rfl
def OC (w:ae)(b off:Nat)(ts:ag Kv):Prop:=∀j x,ts[j]? =some x->w.rangeAt b (off+j*68) x.cells/\x.cells.length=68
theorem aib (F:Fence)(n:Nat)(h7:F.fn 82)(hro:F.round=none)(hn:1<=n)(l Bs n₀ b off cap:Nat)(bs:ag Kv)(hreach:bs.length<=100000)(hb:b<n₀)(J Jx:ag (El bs)->ae->Prop)
  (hY:∀pre x W,J pre W->pre.length<bs.length->YieldAt F (n - 1) Tryz.prog l #[.int .i64 (x.1.1:Int),.agg x.1.2.cells.toArray] W fun e W'=>
   (e=.returned (.bool true)/\J (pre++ [x]) W'/\BK n₀ Bs W W')\/(e=.returned (.bool false)/\Jx (pre++ [x]) W'))
  (W:ae)(hBs:W.cell? ⟨Bs,0,none⟩=some (.slice (some ⟨b,off,none⟩) bs.length cap))(hc:OC W b off bs)(h0:J [] W):
  CallsIn F n Tryz.prog 82 #[.func (.yield l) #[] #[],.pointer (some ⟨Bs,0,none⟩)] W fun e W'=>(∃v,e=.returned v)/\
   ((∃ys,ys=bkL bs bs.length/\J ys W')\/(∃pre,(∃k,k<=bs.length/\pre=bkL bs k)/\Jx pre W')):=by
 refine ik Tryz.func82 rfl h7 ?_ hro;simp only[Tryz.ntmps82,bZ,bG,dE,Nat.reduceAdd,Nat.reduceSub,df,dh,dL,dw,bU,dn]
 gi_wp2
 gi_loopw [3] (fun i wr=>∃k:Nat,k<=bs.length/\i=.int .i64 ((bs.length:Int) - 1 - k)/\J (bkL bs k) wr/\BK n₀ Bs W wr)
  (fun i _=>((intOf i)+1).toNat)
 case atStart=>exact⟨0,aG _,by go_num,h0,BK.refl _ _ _⟩
 case round=>
  obtain⟨k,hk,rfl,hJs,hnx⟩:=hrel;by_cases hlt:k<bs.length
  ·obtain⟨m,hm⟩:∃m:Nat,m=bs.length - 1 - k:=⟨_,rfl⟩;have hmi:(bs.length:Int) - 1 - k=(m:Int):=by omega
   have hml:m<bs.length:=by omega
   obtain⟨x,hxx⟩:∃x,bs[m]? =some x:=⟨_,KL hml⟩;have hcx:wr.rangeAt b (off+m*68) x.cells/\x.cells.length=68:=⟨JY (hc m x hxx).1 hnx.lo hb,(hc m x hxx).2⟩;obtain⟨hcx,awy⟩:=hcx;have HCX:=JJ hcx;have H68:Hid ((Tryz.prog.info? 26).map (·.size)=some x.cells.length):=JJ (by rw[awy];kernel_rfl);have hbx:wr.cell? ⟨Bs,0,none⟩=some (.slice (some ⟨b,off,none⟩) bs.length cap):=hnx.box.trans hBs;obtain⟨fn,tmps,assign,body,hy,hR⟩:=hY _ ⟨(m,x),hxx⟩ wr hJs (by rw[afx _ _ hk];exact hlt);dsimp only at hy;rw[hmi];have HM:=JJ hm;have HMI:=JJ hmi;have HX:Hid (bkL bs (k+1)=bkL bs k++ [⟨(m,x),hxx⟩]):=JJ (adG bs k m x hxx hm);clear hm hmi hcx awy
   gi_wp2_with (with_reducible refine acj 26 ?_;refine Rn rfl _ _ rfl b (off+m*68) rfl x.cells _ HCX.out az rfl H68.out ?_)
   refine hR.mono ?_;rintro e W3 (⟨rfl,hJ3,hk3⟩|⟨rfl,hJx3⟩)
   ·gi_wp2
    go_roundw
    case rel=>exact⟨k+1,by omega,by have:=HMI.out;congr 1;omega,by rw[HX.out];exact hJ3,hnx.trans hk3⟩
    case measure=>simp[intOf]
   ·gi_wp2
    refine aX (lG rfl _ _ _) rfl ?_;exact⟨⟨_,rfl⟩,.inr ⟨_,⟨k+1,by omega,by rw[HX.out]⟩,hJx3⟩⟩
  ·have hke:k=bs.length:=by omega
   have Y9:=JJ hke;clear hke
   gi_wp2
   go_end0
   exact⟨⟨_,rfl⟩,.inl ⟨_,by rw[Y9.out],hJs⟩⟩
theorem aaV (F:Fence)(n:Nat)(h7:F.fn 82)(hro:F.round=none)(l Bs:Nat)(A:aj Addr)(c:Nat){α:Type}(J:ag α->ae->Prop)(W:ae)(hBs:W.cell? ⟨Bs,0,none⟩=some (.slice A 0 c))(h0:J [] W):
  CallsIn F n Tryz.prog 82 #[.func (.yield l) #[] #[],.pointer (some ⟨Bs,0,none⟩)] W fun e W'=>(∃v,e=.returned v)/\J [] W':=by
 refine ik Tryz.func82 rfl h7 ?_ hro;simp only[Tryz.ntmps82,bZ,bG,dE,Nat.reduceAdd,Nat.reduceSub,df,dh,dL,dw,bU,dn]
 gi_wp2
 gi_loopw [3] (fun i wr=>i=.int .i64 (-1)/\J [] wr) (fun _ _=>0)
 case atStart=>exact⟨rfl,h0⟩
 case round=>
  obtain⟨rfl,hJs⟩:=hrel
  gi_wp2
  go_end0
  exact⟨⟨_,rfl⟩,hJs⟩
theorem aki (F:Fence)(n:Nat)(h5:F.fn 63)(hro:F.round=none)(a:aj Addr)(len cap:Nat)(w:ae):
  CallsIn F n Tryz.prog 63 #[.slice a len cap] w fun e w'=>e=.returned (.func (.func 82) #[] #[.pointer (some ⟨w.heap.size,0,none⟩)])/\w'=w.alloc (.cells #[.slice a len cap] 32):=by
 refine ik Tryz.func63 rfl h5 ?_ hro;simp only[Tryz.ntmps63,bZ,bG,dE,Nat.reduceAdd,Nat.reduceSub,df,dh,dL,dw,bU,dn]
 gi_wp2
 go_ret;exact⟨rfl,rfl⟩
theorem adE (F:Fence)(n:Nat)(h7:F.fn 82)(hro:F.round=none)(hn:1<=n)(Bs n₀:Nat)(A:aj Addr)(cap:Nat)(bs:ag Kv)(hreach:bs.length<=100000)(w:ae)(hBs:Bs<w.heap.size)(hn₀:n₀<=w.heap.size)
  (hc:w.cell? ⟨Bs,0,none⟩=some (.slice A bs.length cap))(hI:bs.length=0\/∃b off,A=some ⟨b,off,none⟩/\b<n₀/\OC w b off bs):
  SeqStopsK F n Tryz.prog 82 #[.pointer (some ⟨Bs,0,none⟩)] (fun x:El bs=> #[Value.int .i64 (x.1.1:Int),.agg x.1.2.cells.toArray]) (BK n₀ Bs) (fun ys=>ys=bkL bs bs.length)
   (fun pre=>∃k,k<=bs.length/\pre=bkL bs k) bs.length w:=fun l J Jx W hW _ _ hY h0=>by
 have hc':=(hW.cell (p:=⟨Bs,0,none⟩) hBs).trans hc;rcases hI with h|⟨b,off,rfl,hb,hcs0⟩
 ·rw[h] at hc';exact(aaV F n h7 hro l Bs A cap J W hc' h0).mono fun e W' ⟨he,hj⟩=>⟨he,.inl ⟨_,by rw[h];rfl,hj⟩⟩
 ·exact aib F n h7 hro hn l Bs n₀ b off cap bs hreach hb J Jx hY W hc' (fun j x hx=>⟨JY (hcs0 j x hx).1 (hW.mono hn₀) hb,(hcs0 j x hx).2⟩) h0
def Ye (s:Int)(c:au):Int:=bits BinOp.or IntKind.i64 (wrap64 (s*256)) c.toNat
def WH (l:ag (Nat×au)):Int:=l.foldl (fun s x=>Ye s x.2) 0
theorem ai2 (pre:ag (Nat×au))(x:Nat×au):WH (pre++ [x])=Ye (WH pre) x.2:=by simp[WH]
def tkB (rest:ag au)(bad:Bool)(size:Nat):Bool:=bad||decide (rest.length<size)
def tk (rest:ag au)(bad:Bool)(size:Nat):ag au:=if tkB rest bad size=true then [] else rest.take size
def tkR (rest:ag au)(bad:Bool)(size:Nat):ag au:=if tkB rest bad size=true then rest else rest.drop size
def rdN (rest:ag au)(bad:Bool)(size:Nat):Int:=WH (upto (bk (tk rest bad size)) (tk rest bad size).length)
def alZ (s:Int)(c:au):Int:=bits BinOp.or IntKind.u64 (IntKind.u64.wrap (s*256)) c.toNat
end Go.Proofs.YtbaehbbonkljpaaGreatDoor
namespace Go.Proofs.YtbaehbbonkljpaaGreatDoor
open Go Go.RowKit Go.Shelf
attribute [local go_sem] iM
section
variable {F:Fence}{n:Nat}{P:Program}{ops:ax Oper}{Q:Exit->Act->ae->Prop}{a:Act}{w:ae}{rest:ag Oper}{o:Oper}
theorem PH {ob:Obj}(hg:o.guard=none)(ty:TypeId)(x y:Operand)(ho:o.op=.store ty x y)(cells:ax ah)(hx:a.eval x=.pointer (some ⟨w.heap.size,0,none⟩))(hy:a.eval y=.agg cells)
  (t:TypeId)(old:ax ah)(hob:ob=.cells old t (0,0))(hi:(P.info? ty).map (·.size)=some cells.size)(hold:old.size=cells.size)(h1:cells.all (·.oneCell')=true)
  (h:∀W,ai w.heap.size w W->W.heap.size=w.heap.size+1->W.heap[w.heap.size]? =some (.cells cells t (0,0))->Row W w.heap.size cells->KeepsOthers w W->wpListIn F n P ops Q rest (a.put o.dst undef) W):wpListIn F n P ops Q (o::rest) a (w.alloc ob):=by
 subst hob;have hh:((w.alloc (.cells old t)).setRow w.heap.size cells).heap[w.heap.size]? =some (.cells cells t (0,0)):=aQ _ _ _ _ _ _ (aF w _);refine XN hg ty x y ho w.heap.size cells hx hy t old (aF w _) hi hold h1 (h _ (eH (JM w _) (ay _) _) (by simp[World.setRow]) hh (Row.Nk hh) ⟨by simp[World.setRow],fun k ob hk hc=>?_⟩);have hkl:=(KY.1 hk).1;rw[cZ _ _ k _ (by omega),aV _ _ _ hkl];exact hk
end
def Vm (x:Tb)(i:Nat):Bool:=decide (x.version=(i:Int)+1)&&(decide (0<=x.JU)&&decide (x.JU<=(i:Int)))
def RD (ts:ag Kv):Bool:=(List.range ts.length).all fun i=>match ts[i]? with|some x=>Vm x.t i|none=>true
def Nw (st:Int×ag Bool)(x:Nat×Kv):Int×ag Bool:=
 if st.2[x.1+1]?.getD false=true then st
 else (if st.1<0/\(x.2.t.JU=0\/0<x.2.zs.length) then (x.1:Int) else st.1,if 0<x.2.t.JU then st.2.set x.2.t.JU.toNat true else st.2)
def Lu (ts:ag Kv)(pre:ag (El ts)):Int×ag Bool:=pre.foldl (fun st x=>Nw st x.1) (-1,List.replicate (ts.length+1) false)
def TM (ts:ag Kv):Int×Bool:=if RD ts=true then ((Lu ts (bkL ts ts.length)).1,true) else (0,false)
theorem Xd (ts:ag Kv)(pre:ag (El ts))(x:El ts):Lu ts (pre++ [x])=Nw (Lu ts pre) x.1:=by simp[Lu]
theorem X8 (ts:ag Kv)(pre:ag (El ts)):(Lu ts pre).2.length=ts.length+1:=by
 unfold Lu;have:∀(l:ag (El ts)) (st:Int×ag Bool),(l.foldl (fun st x=>Nw st x.1) st).2.length=st.2.length:=by
  intro l
  induction l with
  |nil=>intro st;rfl
  |cons x l ih=>
   intro st;rw[lC,ih];unfold Nw;split
   ·rfl
   ·dsimp only;split
    ·simp
    ·rfl
 rw[this];simp
theorem acf (p:Int)(gl:ag Bool)(x:Nat×Kv)(r:Nat)(hr:x.1+1=r)(hb:gl[r]? =some true):Nw (p,gl) x=(p,gl):=by
 unfold Nw;dsimp only;rw[hr,hb];rfl
theorem afD (p:Int)(gl:ag Bool)(x:Nat×Kv)(r m z:Nat)(hr:x.1+1=r)(hb:gl[r]? =some false)(hm:x.2.t.JU=(m:Int))(hz:x.2.zs.length=z):
  Nw (p,gl) x=(if p<0/\(m=0\/0<z) then (x.1:Int) else p,if 0<m then gl.set m true else gl):=by
 unfold Nw;dsimp only;rw[hr,hb,hm,hz,jo];simp only[jc,Int.natCast_eq_zero,Int.natCast_pos];rfl
theorem ace {ts:ag Kv}(h:RD ts=true)(i:Nat)(x:Kv)(hx:ts[i]? =some x):Vm x.t i=true:=by
 unfold RD at h;rw[iF] at h;have h1:=h i (iU.2 (MF.1 hx).1)
 rwa [hx] at h1
theorem YT {ts:ag Kv}(i:Nat)(x:Kv)(hx:ts[i]? =some x)(h:Vm x.t i=false):RD ts=false:=by
 cases hc:RD ts with
 |false=>rfl
 |true=>rw[ace hc i x hx] at h;cases h
theorem adL {ts:ag Kv}(h:∀j x,ts[j]? =some x->Vm x.t j=true):RD ts=true:=by
 unfold RD;rw[iF];intro i hi;have hl:=iU.1 hi;rw[KL hl];exact h i _ (KL hl)
theorem ZQ (n:Nat)(hn:n<=100000)(W:ae):(Instr.makeSlice 89 (.int .i64 (n:Int)) (.int .i64 (n:Int))).run Tryz.prog W=.ok (.slice (some ⟨W.heap.size,0,none⟩) n n) (W.alloc (.cells (Array.replicate n (.bool false)) 4)):=by
 have hib:(Tryz.prog.info? 4).map (fun i=>(i.zero,i.size,i.bytes))=some (some (.bool false),1,1):=by kernel_rfl
 obtain⟨i0,hi,hz0,hz1,hz2⟩:=dN hib;rw[run_makeSlice (P:=Tryz.prog) (w:=W) 89 4 i0 (.bool false) Tryz.underlying89 hi hz0 .i64 .i64 n n (by omega) (by omega) (by rw[hz1];omega) (by rw[hz2];omega) (by omega),hz1];have e:madeCells (Value.bool false).cells (((n:Int).toNat)*1)=Array.replicate n (.bool false):=by
  apply Array.ext';simp[madeCells,Value.cells,Nat.mod_one];apply List.ext_getElem
  ·simp
  ·intro j h1 h2;simp
 rw[e];simp
structure CI (w:ae)(N n:Nat)(p:Int)(gl:ag Bool)(W:ae):Prop where
 best:Boxed W N 3 (I p)
 gone:Boxed W (N+2) 89 (.slice (some ⟨N+1,0,none⟩) (n+1) (n+1))
 row:W.heap[N+1]? =some (.cells (gl.map Value.bool).toArray 4 (0,0))
 up:ai w.heap.size w W
 sz:N+3<W.heap.size
section
variable {w W W':ae}{N n:Nat}{p:Int}{gl:ag Bool}
theorem CI.grow (h:CI w N n p gl W)(hb:ai W.heap.size W W'):CI w N n p gl W':=by
 have hs:=h.sz;exact⟨(hb.block _ (by omega)).trans h.best,(hb.block _ (by omega)).trans h.gone,(hb.block _ (by omega)).trans h.row,JL h.up hb,LK h.sz hb.size⟩
theorem CI.ahy (h:CI w N n p gl W)(hN:w.heap.size<=N)(v:Int):CI w N n v gl (W.setCell ⟨N,0,none⟩ (I v)):=
 ⟨h.best.set _,h.gone.other (by omega) _,(aN W _ _ _ (by show N+1≠N;omega)).trans h.row,h.up.setCell (p:=⟨N,0,none⟩) hN _,by simpa[World.setCell] using h.sz⟩
theorem CI.aow (h:CI w N n p gl W)(hN:w.heap.size<=N)(m:Nat):CI w N n p (gl.set m true) (W.setCell ⟨N+1,m,none⟩ (.bool true)):=by
 refine⟨(aN W _ _ _ (by show N≠N+1;omega)).trans h.best,(aN W _ _ _ (by show N+2≠N+1;omega)).trans h.gone,?_,h.up.setCell (p:=⟨N+1,m,none⟩) (by show w.heap.size<=N+1;omega) _,by simpa[World.setCell] using h.sz⟩;rw[bJ W _ m _ _ _ h.row];simp[List.map_set]
theorem adM (hN:w.heap.size<=N){o j:Nat}(hj:j<=2)(v:ah):BK w.heap.size (N+3) W (W.setCell ⟨N+j,o,none⟩ v):=
 ⟨(aW _ W).setCell (p:=⟨N+j,o,none⟩) (by show w.heap.size<=N+j;omega) _,iP _ _ _ _ (by intro e;have:=dA Addr.block e;simp only at this;omega)⟩
end
theorem arC {β:Type}{w:ae}{N n B:Nat}(hB:w.heap.size<=B)(f:β->Int×ag Bool):OwnFrom B (fun s W=>CI w N n (f s).1 (f s).2 W):=fun s X Y row hs hg hr=>by
 have key:∀k cs t,X.heap[k]? =some (Obj.cells cs t (0,0))->Y.heap[k]? =X.heap[k]? :=fun k cs t hk=>
  hg.block k (KY.1 hk).1 fun e=>by
   obtain⟨_,o,ho,hc⟩:=hr k e.symm;rw[hk] at ho;cases ho;cases hc
 exact⟨(key _ _ _ hs.best).trans hs.best,(key _ _ _ hs.gone).trans hs.gone,(key _ _ _ hs.row).trans hs.row,hs.up.grown hg hs.up.size (fun k e=>aO hB (hr k e).1),LK hs.sz hg.size⟩
theorem aca {β:Type}{B:Nat}(b:Nat)(t:TypeId)(cs:ax ah):OwnFrom B (fun (_:β) W=>W.heap[b]? =some (.cells cs t (0,0))):=fun s X Y row hs hg hr=>by
 refine(hg.block b (KY.1 hs).1 fun e=>?_).trans hs;obtain⟨_,o,ho,hc⟩:=hr b e.symm;rw[hs] at ho;cases ho;cases hc
def amW (w:ae)(ts:ag Kv)(e:Ending)(w':ae):Prop:=∃p b,e=.returned (.tuple #[I p,.bool b])/\TM ts=(p,b)/\ai w.heap.size w w'
theorem OG {w:ae}{B:Nat}{A:aj Addr}{ts:ag Kv}(h:LJ w B A ts):ts.length=0\/∃b off,A=some ⟨b,off,none⟩/\b<B/\OC w b off ts:=by
 have hl:=KW (s:=68) Kv.cells ts fun x hx=>(h.each x hx).size;rcases h.row with h0|⟨b,off,h1,h2,h3⟩
 ·exact .inl (by omega)
 ·exact .inr ⟨b,off,h1,h2,fun j x hx=>⟨JS.elem (fun x hx=>(h.each x hx).size) h3 j x hx,(h.each x (LQ hx)).size⟩⟩
def ayG (w:ae)(ts:ag Kv)(n:Nat)(i:ah)(wr:ae):Prop:=∃k:Nat,k<=n/\i=.int .i64 k/\(∀j x,j<k->ts[j]? =some x->Vm x.t j=true)/\ai w.heap.size w wr
theorem X9 (A:aj Addr)(c n:Nat)(ts:ag Kv)(w:ae)(hn:ts.length=n)(hn1:n<=1000)(h:LJ w w.heap.size A ts):
  Calls Tryz.prog 41 #[.slice A n c] w (amW w ts):=by
 refine(gX (n:=3)).1 ?_;have hro:Fence.wide.round=none:=rfl;have h1:1<=3:=by omega
 have HN:=JJ hn;have HT:=JJ (OG h);have H1:Hid (∀x∈ts,x.cells.length=68):=JJ fun x hx=>(h.each x hx).size;clear h hn;refine iK Tryz.func41 rfl trivial ?_ hro;simp only[Tryz.ntmps41,bZ,bG,dE,Nat.reduceAdd,Nat.reduceSub,df,dh,dL,dw,bU,dn]
 gi_wp2
 gi_loopw [12] (fun i wr=>ayG w ts n i wr) (fun i _=>n - (intOf i).toNat)
 case atStart=>exact⟨0,aG _,rfl,fun j x hj=>absurd hj (fD _),aW _ _⟩
 case round=>
  obtain⟨k,hk,rfl,hall,hb⟩:=hrel;have Ox:=JJ hall;have HB:=JJ hb;clear hall hb;by_cases hlt:k<n
  ·have hkl:k<ts.length:=by rw[HN.out];exact hlt
   obtain⟨x,hx⟩:∃x,ts[k]? =some x:=⟨_,KL hkl⟩;have h68:=H1.out x (LQ hx);obtain⟨b,off,rfl,hbw,htab⟩:∃b off,A=some ⟨b,off,none⟩/\b<w.heap.size/\OC w b off ts:=by
    rcases HT.out with h0|h0
    ·omega
    ·exact h0
   have HX:=JJ hx;have HCX:Hid (wr.rangeAt b (off+k*68) x.cells):=JJ (JY (htab k x hx).1 HB.out hbw);have L6:Hid ((Tryz.prog.info? 26).map (·.size)=some x.cells.length):=JJ (by rw[h68];kernel_rfl);have SL:Hid ((Tryz.prog.info? 26).map (·.size)=some x.cells.toArray.size):=JJ (by rw[bZ,h68];kernel_rfl);have HZS:Hid (Tryz.zeroCells26.size=x.cells.toArray.size):=JJ ((show Tryz.zeroCells26.size=68 by kernel_rfl).trans (by rw[bZ,h68]));have i0:(0:Int)<=(k:Int):=by omega
   have i1:(k:Int)<(n:Int):=by omega
   have hw:IntKind.i64.wrap ((k:Int)+1)=(k:Int)+1:=by rw[aA];omega
   clear hkl hx h68 htab
   gi_wp2_with (first
    |((with_reducible refine acj 26 ?_);refine Rn rfl _ _ rfl b (off+k*68) rfl x.cells _ HCX.out az rfl L6.out ?_)
    |((with_reducible refine Xf 26 ?_);refine PH rfl _ _ _ rfl x.cells.toArray rfl rfl 26 Tryz.zeroCells26 rfl SL.out HZS.out (J9 _ _ _ _) ?_;intro W5 hb5 hs5 hf5 VX hk5;have c1:W5.cell? ⟨wr.heap.size,1,none⟩=some (I x.t.version):=VX.2 1;have c2:W5.cell? ⟨wr.heap.size,2,none⟩=some (I x.t.JU):=VX.2 2;have VI:=JJ (JL HB.out hb5);clear hb5 hs5 hf5 VX hk5))
   all_goals first
    |(
      refine⟨⟨k+1,by omega,by go_num,fun j y hj hy=>?_,VI.out⟩,by simp[intOf];omega⟩;by_cases hjk:j<k
      ·exact Ox.out j y hjk hy
      ·have e:j=k:=by omega
       subst e;have e2:x=y:=by have h1:=HX.out;rw[hy] at h1;injection h1 with h1;exact h1.symm
       subst e2;unfold Vm;rw[aZ (by omega),aZ (by omega),aZ (by omega)];rfl)
    |(
      have hno:Vm x.t k=false:=by
       cases hq:Vm x.t k with
       |false=>rfl
       |true=>exfalso;unfold Vm at hq;simp only[eX,eP] at hq;omega
      have Za:=JJ hno;clear hno;refine⟨_,results_tmp2 rfl _ _ _,?_⟩;exact⟨0,false,rfl,by unfold TM;rw[YT k x HX.out Za.out];rfl,VI.out⟩)
  ·have hke:k=n:=by omega
   have HCH:Hid (RD ts=true):=JJ (adL fun j x hx=>Ox.out j x (by have h1:=(MF.1 hx).1;have:=HN.out;omega) hx);have HLE:Hid (ai w.heap.size w wr):=HB;have hmk:∀W,(Instr.makeSlice 89 (.int .i64 ((n:Int)+1)) (.int .i64 ((n:Int)+1))).run Tryz.prog W=.ok (.slice (some ⟨W.heap.size,0,none⟩) (n+1) (n+1)) (W.alloc (.cells (Array.replicate (n+1) (.bool false)) 4)):=fun W=>ZQ (n+1) (by omega) W;have hnl:¬(k:Int)<(n:Int):=by omega
   clear hke
   gi_wp2_with (refine⟨trivial,?_⟩;gi_at_call 63;refine(aki Fence.wide 2 trivial hro _ _ _ _).mono ?_;rintro e w' ⟨rfl,rfl⟩)
   have hsz0:(((wr.alloc (.cells #[I (-1)] 3)).alloc (.cells (Array.replicate (n+1) (.bool false)) 4)).alloc (.cells #[.slice (some ⟨wr.heap.size+1,0,none⟩) (n+1) (n+1)] 89)).heap.size=wr.heap.size+3:=by simp
   obtain⟨Wx,hWx⟩:∃Wx,((wr.alloc (.cells #[I (-1)] 3)).alloc (.cells (Array.replicate (n+1) (.bool false)) 4)).alloc (.cells #[.slice (some ⟨wr.heap.size+1,0,none⟩) (n+1) (n+1)] 89)=Wx:=⟨_,rfl⟩;have hbx:ai wr.heap.size wr Wx:=by rw[<-hWx];exact(((aW _ wr).alloc (ay _) _).alloc (by simp) _).alloc (by simp;omega) _
   have hB0:Wx.heap[wr.heap.size]? =some (.cells #[I (-1)] 3 (0,0)):=by rw[<-hWx];exact(aV _ _ _ (by simp;omega)).trans ((aV _ _ _ (by simp)).trans (aF wr _))
   have hB1:Wx.heap[wr.heap.size+1]? =some (.cells (Array.replicate (n+1) (.bool false)) 4 (0,0)):=by rw[<-hWx];have h2:=aF (wr.alloc (.cells #[I (-1)] 3)) (.cells (Array.replicate (n+1) (.bool false)) 4);rw[dO] at h2;exact(aV _ _ _ (by simp)).trans h2
   have hB2:Wx.heap[wr.heap.size+2]? =some (.cells #[.slice (some ⟨wr.heap.size+1,0,none⟩) (n+1) (n+1)] 89 (0,0)):=by rw[<-hWx];have h2:=aF ((wr.alloc (.cells #[I (-1)] 3)).alloc (.cells (Array.replicate (n+1) (.bool false)) 4)) (.cells #[.slice (some ⟨wr.heap.size+1,0,none⟩) (n+1) (n+1)] 89);rw[dO,dO] at h2;exact h2
   rw[hWx] at hsz0⊢;have bS:=qw Wx 32 (.slice A n c);have hb4:=JM Wx (.cells #[.slice A n c] 32);obtain⟨W0,hW0⟩:∃W0,Wx.alloc (.cells #[.slice A n c] 32)=W0:=⟨_,rfl⟩;have aAz:W0.heap.size=wr.heap.size+4:=by rw[<-hW0,dO,hsz0]
   rw[hW0] at bS hb4⊢;rw[hsz0] at bS hb4;have hNw:w.heap.size<=wr.heap.size:=HB.out.size;have hCI:CI w wr.heap.size n (-1) (List.replicate (n+1) false) W0:=⟨(hb4.block _ (by omega)).trans hB0,(hb4.block _ (by omega)).trans hB2,by rw[hb4.block _ (by omega),hB1];simp,(HB.out.trans (hbx.mono hNw)).trans (hb4.mono (by omega)),by omega⟩;have ap8:ts.length=0\/∃b off,A=some ⟨b,off,none⟩/\b<w.heap.size/\OC W0 b off ts:=HT.out.imp id fun ⟨b,off,h1,h2,h3⟩=>⟨b,off,h1,h2,fun j x hx=>⟨JY (h3 j x hx).1 hCI.up h2,(h3 j x hx).2⟩⟩;have hst:=adE Fence.wide (3 - 1) trivial hro (by omega) (wr.heap.size+3) w.heap.size A c ts (by have:=HN.out;omega) W0 (by omega) (by omega) (by rw[HN.out];exact bS.cell) ap8;rw[HN.out] at hst;clear hWx hbx hB0 hB1 hB2 bS hb4 hW0 hsz0 ap8 hmk;refine wpIn_rangeFunc_ownH hro h1 (gf:=82) (lb:= #[.pointer (some ⟨wr.heap.size+3,0,none⟩)]) rfl trivial (lK Tryz.func82 (by kernel_rfl) rfl)
    hst (fun h k=>h.trans k) (ary (by omega) (by omega)) (aW _ _) (fun _=>rfl)
    (fun pre W=>CI w wr.heap.size n (Lu ts pre).1 (Lu ts pre).2 W)
    (fun _ _ _=>False)
    (arC (by omega) _)
    (fun _ _ _ _ _ hs _ _=>hs)
    (by unfold Lu;rw[HN.out];exact hCI)
    (fun x a' W=>∃B,wr.heap.size+3<B/\W.heap[B]? =some (.cells x.1.2.cells.toArray 26 (0,0))/\a'=({tmps:= #[.slice A n c,undef,u2,u3,u4,u5,.pointer (some ⟨wr.heap.size,0,none⟩),.pointer (some ⟨wr.heap.size+1+1,0,none⟩),I x.1.1,.pointer (some ⟨B,0,none⟩),.slice A n c,I n,I k,.bool false,u14,u15,u16,u17,u18,u19,u20,u21,u22,u23,u24,u25,u26,u27,u28,u29,u30,u31,u32,u33,.slice A n c,I n,I (n+1),.slice (some ⟨wr.heap.size+1,0,none⟩) (n+1) (n+1),.slice A n c,.func (.func 82) #[] #[.pointer (some ⟨wr.heap.size+1+1+1,0,none⟩)],I x.1.1,.agg x.1.2.cells.toArray,undef,undef,undef,undef,undef,undef,undef,undef,undef,undef,undef,undef,undef,undef,undef,undef,undef,undef,undef,undef,undef,undef,undef,undef,undef,undef,undef],defers:= []}:Act))
    (fun x a' _ X Y row hs hg hr=>by obtain⟨B,h1,h2,h3⟩:=hs;exact⟨B,h1,aca B _ _ () X Y row h2 hg hr,h3⟩)
    ?assign ?body ?done ?stop
   case assign=>
    rintro l pre x W K hci hK;have h68:=H1.out x.1.2 (LQ x.2);have SL:Hid ((Tryz.prog.info? 26).map (·.size)=some x.1.2.cells.toArray.size):=JJ (by rw[bZ,h68];kernel_rfl);have HZS:Hid (Tryz.zeroCells26.size=x.1.2.cells.toArray.size):=JJ ((show Tryz.zeroCells26.size=68 by kernel_rfl).trans (by rw[bZ,h68]));have HCI:=JJ hci;have hsz:=hci.sz;have hup:=hci.up.size;clear hci h68
    gi_wp2_with ((with_reducible refine Xf 26 ?_);refine PH rfl _ _ _ rfl x.1.2.cells.toArray rfl rfl 26 Tryz.zeroCells26 rfl SL.out HZS.out (J9 _ _ _ _) ?_;intro W5 hb5 hs5 hh5 VX hk5;have VI:=JJ hb5;have HH5:=JJ hh5;have HK5:=JJ hk5;clear hb5 hs5 hh5 VX hk5)
    exact hK _ _ (HK5.out.from _) ⟨VI.out.mono hup,VI.out.cell (p:=⟨wr.heap.size+3,0,none⟩) hsz⟩ (HCI.out.grow VI.out) ⟨W.heap.size,hsz,HH5.out,rfl⟩
   case body=>
    rintro l pre x a' W hl _ hci ⟨B,hB,hblk,rfl⟩ hlt2;have htb:=ace HCH.out x.1.1 x.1.2 x.2;have hxl:x.1.1<n:=by have h1:=(MF.1 x.2).1;have:=HN.out;omega
    unfold Vm at htb;simp only[eX,eP] at htb;obtain⟨hv,hw0,hw1⟩:=htb;obtain⟨⟨p,gl⟩,hst⟩:∃st,Lu ts pre=st:=⟨_,rfl⟩;have hgl:gl.length=n+1:=by have h:=X8 ts pre;rw[hst,HN.out] at h;exact h
    rw[hst] at hci;have HSN:Hid (Lu ts (pre++ [x])=Nw (p,gl) x.1):=JJ (by rw[Xd,hst]);clear hst;have hc1:W.cell? ⟨B,1,none⟩=some (I x.1.2.t.version):=aC W B 1 _ _ _ hblk;have hc2:W.cell? ⟨B,2,none⟩=some (I x.1.2.t.JU):=aC W B 2 _ _ _ hblk;have hc3:W.cell? ⟨B,3,none⟩=some (.slice x.1.2.A x.1.2.zs.length x.1.2.c):=aC W B 3 _ _ _ hblk;obtain⟨m,hm⟩:∃m:Nat,x.1.2.t.JU=(m:Int):=⟨_,(nX hw0).symm⟩;obtain⟨r,hr⟩:∃r:Nat,x.1.1+1=r:=⟨_,rfl⟩;have hvr:x.1.2.t.version=(r:Int):=by omega
    obtain⟨z,hz⟩:∃z,x.1.2.zs.length=z:=⟨_,rfl⟩;obtain⟨b,hb⟩:∃b,gl[r]? =some b:=⟨_,KL (by omega)⟩;obtain⟨b2,hb2⟩:∃b,gl[m]? =some b:=⟨_,KL (by omega)⟩;rw[hvr] at hc1;rw[hm] at hc2;rw[hz] at hc3;have cB:=hci.best.cell;have cG:=hci.gone.cell;have fB:=hci.best.frozen;have hfz:∀i,W.frozen? ⟨wr.heap.size+1,i,none⟩=false:=fun i=>aP _ _ i _ _ hci.row;have hgc:∀j b,gl[j]? =some b->W.cell? ⟨wr.heap.size+1,j,none⟩=some (.bool b):=fun j b hj=>by rw[aC W _ j _ _ _ hci.row];simp[hj]
    have g1:=hgc _ _ hb;have g2:=hgc _ _ hb2;have HCI:=JJ hci;have r0:(0:Int)<=(r:Int):=by omega
    have r1:(r:Int)<(n:Int)+1:=by omega
    have m0:(0:Int)<=(m:Int):=by omega
    have m1:(m:Int)<(n:Int)+1:=by omega
    have n1:¬B=wr.heap.size+1:=by omega
    have n2:¬B=wr.heap.size:=by omega
    clear hci hgc hv hw0 hw1 hvr hb2 hgl hblk;cases b with
    |true=>
     have HS:=JJ (acf p gl x.1 r hr hb);clear hm hz hr hb
     gi_wp2
     exact⟨KeepsFrom.refl _ _,BK.refl _ _ _,by show CI w wr.heap.size n (Lu ts (pre++ [x])).1 (Lu ts (pre++ [x])).2 _;rw[HSN.out,HS.out];exact HCI.out⟩
    |false=>
     have HG:=JJ (afD p gl x.1 r m z hr hb hm hz);clear hm hz hr hb;by_cases hm0:0<m
     ·have Rj:=JJ (HCI.out.aow hNw m);by_cases hp:p<0
      ·by_cases hz0:0<z
       ·have HS:Hid (Nw (p,gl) x.1=((x.1.1:Int),gl.set m true)):=JJ (by rw[HG.out,bD ⟨hp,.inr hz0⟩,bD hm0])
        gi_wp2
        exact⟨((gu _ _ _).trans (gu _ _ _)).from _,(adM (N:=wr.heap.size) (o:=m) (j:=1) hNw (by omega) _).trans (adM (N:=wr.heap.size) (o:=0) (j:=0) hNw (by omega) _),by show CI w wr.heap.size n (Lu ts (pre++ [x])).1 (Lu ts (pre++ [x])).2 _;rw[HSN.out,HS.out];exact Rj.out.ahy hNw _⟩
       ·have hzz:z=0:=by omega
        have HS:Hid (Nw (p,gl) x.1=(p,gl.set m true)):=JJ (by rw[HG.out,bP (by omega),bD hm0])
        gi_wp2
        exact⟨(gu _ _ _).from _,adM (N:=wr.heap.size) (o:=m) (j:=1) hNw (by omega) _,by show CI w wr.heap.size n (Lu ts (pre++ [x])).1 (Lu ts (pre++ [x])).2 _;rw[HSN.out,HS.out];exact Rj.out⟩
      ·have HS:Hid (Nw (p,gl) x.1=(p,gl.set m true)):=JJ (by rw[HG.out,bP (by omega),bD hm0])
       gi_wp2
       all_goals first
        |(exact⟨(gu _ _ _).from _,adM (N:=wr.heap.size) (o:=m) (j:=1) hNw (by omega) _,by show CI w wr.heap.size n (Lu ts (pre++ [x])).1 (Lu ts (pre++ [x])).2 _;rw[HSN.out,HS.out];exact Rj.out⟩)
        |(rename_i _ _ h _;exact absurd h (by simp[undef]))
     ·have hmz:m=0:=by omega
      by_cases hp:p<0
      ·have HS:Hid (Nw (p,gl) x.1=((x.1.1:Int),gl)):=JJ (by rw[HG.out,bD ⟨hp,.inl hmz⟩,bP hm0])
       gi_wp2
       exact⟨(gu _ _ _).from _,adM (N:=wr.heap.size) (o:=0) (j:=0) hNw (by omega) _,by show CI w wr.heap.size n (Lu ts (pre++ [x])).1 (Lu ts (pre++ [x])).2 _;rw[HSN.out,HS.out];exact HCI.out.ahy hNw _⟩
      ·have HS:Hid (Nw (p,gl) x.1=(p,gl)):=JJ (by rw[HG.out,bP (by omega),bP hm0])
       gi_wp2
       all_goals first
        |(exact⟨KeepsFrom.refl _ _,BK.refl _ _ _,by show CI w wr.heap.size n (Lu ts (pre++ [x])).1 (Lu ts (pre++ [x])).2 _;rw[HSN.out,HS.out];exact HCI.out⟩)
        |(rename_i _ _ h _;exact absurd h (by simp[undef]))
   case done=>
    rintro D ys W hD rfl hci hK;have cB:=hci.best.cell;have HCI:=JJ hci;clear hci
    gi_wp2
    refine⟨by simp,.inl ⟨_,_,rfl,jd hK,?_⟩⟩;refine⟨_,results_tmp2 rfl _ _ _,?_⟩;exact⟨_,true,rfl,by unfold TM;rw[HCH.out,HN.out];rfl,HCI.out.up.trans (l9 (w:=W0) (n₀:=w.heap.size) (by omega) W D _ (.deferred none) hD hK rfl rfl)⟩
   case stop=>
    rintro D c pre W _ _ h _;exact h.elim
end Go.Proofs.YtbaehbbonkljpaaGreatDoor
