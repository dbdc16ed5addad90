/- The texts Lf, Op, Fb, in this order. -/
import Derived.Test.YtbaehbbonkljpaaGreatDoorT39
set_option maxRecDepth 10000
set_option maxHeartbeats 8000000
namespace Go.Proofs.YtbaehbbonkljpaaGreatDoor
open Go Go.RowKit
theorem Sl:(Tryz.prog.info? 26).map (fun i=>(i.zero,i.size,i.bytes))=some (some (.agg (JK J8 (.slice none 0 0))),68,112):=by kernel_rfl
section
variable {ops:ax Oper}{rest:ag Oper}{o:Oper}{a:Act}{Q:Exit->Act->ae->Prop}{w:ae}
theorem WI (hgd:o.guard=none)(x:Operand)(ho:o.op=.buildSlice 32 1 #[(0,x)])(cs:ax ah)(hcs:cs.size=68)
  (hx:a.eval x=.agg cs)(h:wpList Tryz.prog ops Q rest (a.put o.dst (.slice (some ⟨w.heap.size,0,none⟩) 1 1)) (w.alloc (.cells cs 26))):wpList Tryz.prog ops Q (o::rest) a w:=by
 obtain⟨i0,hi,hz0,hz1,hz2⟩:=dN Sl;refine kS hgd 32 26 1 _ ho cs i0 (.agg (JK J8 (.slice none 0 0))) dM hi hz0 (by rw[hz1];decide) (by rw[hz1];decide) ?_ h;rw[hz1];simp only[jw,fF,iR,hx];have h:=ku (s:=68) (by omega) [.agg cs] ((Array.range (1*68)).map ((Value.agg (JK J8 (.slice none 0 0))).cells[· %(Value.agg (JK J8 (.slice none 0 0))).cells.size]!)) (fun v hv=>by simp at hv;subst hv;exact hcs) (by simp);have e:([Value.agg cs].flatMap fun v=>v.cells.toList).toArray=cs:=by simp[Value.cells]
 rw[e] at h;exact h
theorem Uu {P:Program}(ty:TypeId){n:Nat}{x:ax (Nat×Operand)}{d:aj Tmp}{t:TypeId}{pos:String}{af:ax Edge}{g:aj (Nat×Bool)}(h:wpList P ops Q (⟨d,.buildSlice ty n x,t,pos,af,g⟩::rest) a w):wpList P ops Q (⟨d,.buildSlice ty n x,t,pos,af,g⟩::rest) a w:=h
end
structure OB where
 QQ:au
 key:ag au
 A:aj Addr
 c:Nat
 its:ag ItV
def OB.cells (r:OB):ag ah:=Extern.Stop.cell r.QQ::(JO r.key++ [.slice r.A r.its.length r.c])
theorem OB.len (r:OB)(h:r.key.length=32):r.cells.length=34:=by simp[OB.cells,JO,h]
structure VT (w:ae)(B:Nat)(r:OB):Prop where
 key:r.key.length=32
 len:r.its.length<=9223372036854775807
 row:JS w B r.A (r.its.flatMap fun x=>x.cells.toList)
 each:∀x∈r.its,Zk w B x
theorem VT.keep {w w':ae}{B:Nat}{r:OB}(h:VT w B r)(hb:ai B w w'):VT w' B r:=⟨h.key,h.len,h.row.keep hb,fun v hv=>(h.each v hv).keep hb⟩
theorem VT.more {w:ae}{B B':Nat}{r:OB}(h:VT w B r)(hB:B<=B'):VT w B' r:=⟨h.key,h.len,h.row.more hB,fun v hv=>(h.each v hv).more hB⟩
theorem aom {W:ae}{b:Nat}{r:OB}(h:MS W b r.cells.toArray):W.rangeAt b 1 (JO r.key):=fun j v hv=>by
 rw[h.2 (1+j)];unfold OB.cells;have hj:=(MF.1 hv).1;rw[eU,kP 1 j,kG,dZ hj];exact hv
theorem ahp (r:OB)(h:r.key.length=32):r.cells.toArray[33]? =some (.slice r.A r.its.length r.c):=by
 unfold OB.cells;rw[eU,show(33:Nat)=32+1 from rfl,kG,bH (by simp[JO,h])];simp[JO,h]
theorem LV.of2 {lo lo' B:Nat}{v:ah}{W:ae}{A:aj Addr}{cs:ag ah}(h:JS W B A cs)(hB:B<=W.heap.size)(h2:UQ lo' A cs)(hlo:lo<=lo')(hv:∀b,lo'<=b->b<B->some b≠v.ownBlock):LV lo v W A cs:=by
 rcases h with h|⟨b,off,e,hb,hc⟩
 ·exact .inl h
 ·rcases h2 with h2|⟨b2,YA,e2,hl⟩
  ·exact .inl h2
  ·rw[e] at e2;injection e2 with e2;injection e2 with e3 e4;subst e3;exact .inr ⟨b,off,e,by omega,by omega,hv b hl hb,hc⟩
theorem MX.of {lo lo' B:Nat}{v:ah}{W:ae}{y:Kv}(h:Ld W B y)(hB:B<=W.heap.size)(h2:VV lo' y)(hlo:lo<=lo')(hv:∀b,lo'<=b->b<B->some b≠v.ownBlock):MX lo v W y:=
 ⟨.of2 h.JX.row hB h2.1 hlo hv,fun z hz=>⟨.of2 (h.JX.each z hz).JQ hB (h2.2 z hz).1 hlo hv,.of2 (h.JX.each z hz).rules hB (h2.2 z hz).2.1 hlo hv,.of2 (h.JX.each z hz).trans hB (h2.2 z hz).2.2.1 hlo hv,.of2 (h.JX.each z hz).J6 hB (h2.2 z hz).2.2.2 hlo hv⟩⟩
theorem LV.VL {lo lo':Nat}{v:ah}{W:ae}{A:aj Addr}{cs:ag ah}(h:LV lo v W A cs)(hl:lo'<=lo):LV lo' v W A cs:=by
 rcases h with h|⟨b,off,h1,h2,h3⟩
 ·exact .inl h
 ·exact .inr ⟨b,off,h1,aO hl h2,h3⟩
theorem LV.vary {lo:Nat}{v v':ah}{W:ae}{A:aj Addr}{cs:ag ah}(h:LV lo v W A cs)(hv:∀b,lo<=b->b<W.heap.size->some b≠v'.ownBlock):LV lo v' W A cs:=by
 rcases h with h|⟨b,off,h1,h2,h3,h4,h5⟩
 ·exact .inl h
 ·exact .inr ⟨b,off,h1,h2,h3,hv b h2 h3,h5⟩
theorem MX.vary {lo lo':Nat}{v v':ah}{W:ae}{y:Kv}(h:MX lo v W y)(hl:lo'<=lo)(hv:∀b,lo<=b->b<W.heap.size->some b≠v'.ownBlock):MX lo' v' W y:=
 ⟨(h.1.vary hv).VL hl,fun z hz=>⟨((h.2 z hz).1.vary hv).VL hl,((h.2 z hz).2.1.vary hv).VL hl,((h.2 z hz).2.2.1.vary hv).VL hl,((h.2 z hz).2.2.2.vary hv).VL hl⟩⟩
theorem MX.low {lo lo':Nat}{v:ah}{W:ae}{y:Kv}(h:MX lo v W y)(hl:lo'<=lo):VV lo' y:=⟨h.1.low hl,fun z hz=>⟨(h.2 z hz).1.low hl,(h.2 z hz).2.1.low hl,(h.2 z hz).2.2.1.low hl,(h.2 z hz).2.2.2.low hl⟩⟩
structure TbF (y:Kv):Prop where
 made:YP y.t
 names:y.t.JX=y.zs.map (·.e)
 prev:y.t.prev.length=32
 Ku:y.t.Ku.length=32
theorem TbF.size {y:Kv}(h:TbF y):y.cells.length=68:=by
 have:=Kq y.t (.slice y.A y.zs.length y.c) h.prev h.Ku;simpa[JK,Kv.cells] using this
theorem TbF.at {y:Kv}(h:TbF y){lo:Nat}{v:ah}{W:ae}(hm:MX lo v W y):Ld W W.heap.size y:=⟨h.names,h.prev,h.Ku,⟨hm.1.at,fun z hz=>(hm.2 z hz).at⟩⟩
structure Wi (w:ae)(rc:ax ah)(k c:Nat)(A:aj Addr)(ts:ag Kv)(W:ae):Prop where
 it:AV w.heap.size 29 rc W
 lo:ai w.heap.size w W
 own:W.ownsRow (w.heap.size+1) 26 68 (.slice A k c) k (ts.flatMap Kv.cells)
 mem:∀y∈ts,MX (w.heap.size+1) (.slice A k c) W y
 each:∀y∈ts,TbF y
section
variable {w W W':ae}{rc:ax ah}{k c:Nat}{A:aj Addr}{ts:ag Kv}
theorem Wi.step (h:Wi w rc k c A ts W)(ho:W'.os=W.os)(htp:W'.tape=W.tape)(hou:W'.output=W.output)(hs:W.heap.size<=W'.heap.size)(hb:∀b,b<W.heap.size->W'.heap[b]? =W.heap[b]?):Wi w rc k c A ts W':=
 have hB:ai W.heap.size W W':=⟨ho,htp,hou,hs,hb⟩
 ⟨h.it.below hB,JL h.lo hB,own_below h.own hB,fun y hy=>(h.mem y hy).keep hs fun b _ h2 h3=>⟨hb b h2,h3⟩,h.each⟩
theorem Wi.grow (h:Wi w rc k c A ts W)(hb:ai W.heap.size W W'):Wi w rc k c A ts W':=h.step hb.os hb.tape hb.output hb.size hb.block
theorem Wi.drew (h:Wi w rc k c A ts W):Wi w rc k c A ts W.drew:=h.grow ((aW _ W).drew)
theorem Wi.lt (h:Wi w rc k c A ts W):w.heap.size<W.heap.size:=h.it.lt
theorem Wi.chain (h:Wi w rc k c A ts W):LJ W W.heap.size A ts:=⟨JS.Le h.own,fun y hy=>(h.each y hy).at (h.mem y hy)⟩
theorem Wi.Tc (h:Wi w rc k c A ts W):∀b,W.heap.size<=b->some b≠(Value.slice A k c).ownBlock:=fun b hb e=>by
 have:=dU h.own b e.symm;omega
theorem Wi.add {Wb w6:ae}{gg cap:Nat}{y:Kv}(h:Wi w rc k c A ts W)(hy:MX (w.heap.size+1) (.slice A k c) W y)(hf:TbF y)(Xg:Wb=W.alloc (.cells y.cells.toArray 26))
  (hown:w6.ownsRow (w.heap.size+1) 26 68 (.slice (some ⟨gg,0,none⟩) (k+1) cap) (k+1) (ts.flatMap Kv.cells++y.cells))(hg:Wb.grownBy w6 (Value.slice A k c).ownBlock)(hat:(Value.slice A k c).ownBlock=some gg\/gg=Wb.heap.size):
  Wi w rc (k+1) cap (some ⟨gg,0,none⟩) (ts++ [y]) w6:=by
 have hsb:Wb.heap.size=W.heap.size+1:=by rw[Xg];simp
 have hlt:=h.lt;have hs6:W.heap.size<=w6.heap.size:=by have:=hg.size;omega
 have hbl:∀b,b<W.heap.size->some b≠(Value.slice A k c).ownBlock->w6.heap[b]? =W.heap[b]? :=fun b hb hn=>
  (hg.block b (by omega) hn).trans (by rw[Xg];exact aV W _ b hb)
 have hlow:∀b,b<w.heap.size+1->some b≠(Value.slice A k c).ownBlock:=MV h.own;have hmm:∀b,w.heap.size+1<=b->b<W.heap.size->some b≠(Value.slice A k c).ownBlock->w6.heap[b]? =W.heap[b]? /\some b≠(Value.slice (some ⟨gg,0,none⟩) (k+1) cap).ownBlock:=fun b h1 h2 h3=>by
  refine⟨hbl b h2 h3,fun e=>?_⟩;have e2:b=gg:=by simpa[Value.ownBlock] using e
  rcases hat with e3|e3
  ·exact h3 (by rw[e2];exact e3.symm)
  ·omega
 have h1:ai w.heap.size w Wb:=by rw[Xg];exact JL h.lo (JM W _)
 have hob:Wb.ownsRow (w.heap.size+1) 26 68 (.slice A k c) k (ts.flatMap Kv.cells):=by rw[Xg];exact own_below h.own (JM W _)
 refine⟨⟨(hbl _ (by omega) (hlow _ (by omega))).trans h.it.var⟩,KJ h1 (KD hob (by omega)) (by omega) hg,by simpa using hown,fun y' hy'=>?_,fun y' hy'=>?_⟩
 ·rcases dm.1 hy' with h1|h1
  ·exact(h.mem y' h1).keep hs6 hmm
  ·obtain rfl:=aY.1 h1;exact hy.keep hs6 hmm
 ·rcases dm.1 hy' with h1|h1
  ·exact h.each y' h1
  ·obtain rfl:=aY.1 h1;exact hf
end
def XH (w:ae)(r:OB)(ib io n k:Nat)(x:ItV)(W:ae):Prop:=
 W.cell? ⟨w.heap.size,0,none⟩=some (.int .u8 (r.QQ.toNat:Int))/\W.cell? ⟨w.heap.size,33,none⟩=some (.slice (some ⟨ib,io,none⟩) n r.c)/\W.rangeAt w.heap.size 1 (JO r.key)/\W.rangeAt ib (io+k*2) x.cells.toList
theorem XH.of {w W:ae}{r:OB}{ib io n k:Nat}{x:ItV}(hk:r.key.length=32)(hn:r.its.length=n)(hA:r.A=some ⟨ib,io,none⟩)(hit:AV w.heap.size 29 r.cells.toArray W)(hlo:ai w.heap.size w W)(hr:w.rangeAt ib (io+k*2) x.cells.toList)(hb:ib<w.heap.size):XH w r ib io n k x W:=
 ⟨hit.cell 0,by rw[hit.cell 33,ahp r hk,hn,hA],aom hit.Nc,JY hr hlo hb⟩
theorem abD (vs:ag RwV)(k:Nat)(e:Ze)(h:(VZ vs)[k]? =some e):k<3/\∃v:RwV,e=⟨QG k,OU v.x⟩:=by
 unfold VZ at h;rw[List.getElem?_mapIdx] at h;cases hv:(vs.take 3)[k]? with
 |none=>rw[hv] at h;cases h
 |some v=>
  rw[hv] at h;have hk:=(MF.1 hv).1;rw[bn] at hk;injection h with h;exact⟨by omega,v,h.symm⟩
theorem aiF (vs:ag RwV):(VZ vs).length<=3:=by
 unfold VZ;rw[List.length_mapIdx,bn];omega
theorem aah {n:Nat}{QQ:au}{x:ItV}{y:Kv}(hn:n<=4)(h1:y.t.J5=(QQ.toNat:Int)%16)(h2:y.t.version=(n:Int)+1)(h3:y.t.JU=(x.wd.toNat:Int)%((n:Int)+1))(h4:n=0->y.t.prev=KA)(h5:y.t.JX=VZ x.vs):YP y.t:=by
 have hb:=MI QQ;have hw1:0<=(x.wd.toNat:Int)%((n:Int)+1):=iL _ (by omega);have hw2:(x.wd.toNat:Int)%((n:Int)+1)<(n:Int)+1:=gG _ (by omega);refine⟨by rw[h1];omega,by rw[h2];omega,by rw[h3,h2];exact⟨hw1,hw2⟩,fun h=>h4 (by rw[h2] at h;omega),by rw[h5];exact aiF _,fun e he=>?_,fun k e he=>?_⟩
 ·rw[h5] at he;obtain⟨k,hk⟩:=fU he;obtain⟨_,v,rfl⟩:=abD _ _ _ hk;exact aiB v.x
 ·rw[h5] at he;obtain⟨_,v,rfl⟩:=abD _ _ _ he;rfl
theorem YP.acD {t:Tb}(h:YP t)(d:ag au):YP {t with Ku:=d}:=⟨h.J5,h.version,h.JU,h.first,h.num,h.JX,h.names⟩
structure TcX (w:ae)(r:OB)(W:ae):Prop where
 it:AV w.heap.size 29 r.cells.toArray W
 lo:ai w.heap.size w W
theorem TcX.start (w:ae)(r:OB):TcX w r (w.alloc (.cells r.cells.toArray 29)):=⟨AV.new w _ _,JM w _⟩
theorem TcX.grow {w W W':ae}{r:OB}(h:TcX w r W)(hb:ai W.heap.size W W'):TcX w r W':=⟨h.it.below hb,JL h.lo hb⟩
theorem TcX.lt {w W:ae}{r:OB}(h:TcX w r W):w.heap.size<W.heap.size:=h.it.lt
structure TcC (KR:ag Int)(r:OB)(k c:Nat)(A:aj Addr)(ts:ag Kv)(W:ae):Prop where
 len:ts.length=k
 cap:k<=c
 form:(A=none/\k=0/\c=0)\/∃b off,A=some ⟨b,off,none⟩
 row:LJ W W.heap.size A ts
 good:∀x∈ts,RV x
 adm:PS KR r.key ts
 QQ:∀x∈ts,x.t.J5=(r.QQ.toNat:Int)%16
theorem TcC.grow {KR:ag Int}{r:OB}{k c:Nat}{A:aj Addr}{ts:ag Kv}{W W':ae}(h:TcC KR r k c A ts W)(hb:ai W.heap.size W W'):TcC KR r k c A ts W':=
 ⟨h.len,h.cap,h.form,h.row.grow hb,h.good,h.adm,h.QQ⟩
theorem TcC.start (KR:ag Int)(r:OB)(W:ae):TcC KR r 0 0 none [] W:=
 ⟨rfl,ay _,.inl ⟨rfl,rfl,rfl⟩,⟨.inl rfl,fun _ h=>nomatch h⟩,(fun _ h=>nomatch h),PS.nil,fun _ h=>nomatch h⟩
structure TcT (V:ae)(vb:Nat)(T:Tb)(y:Kv)(W:ae):Prop where
 lo:ai V.heap.size V W
 hvb:V.heap.size<=vb
 var:AV vb 26 (JK T (.slice y.A y.zs.length y.c)) W
 mem:MX V.heap.size (.slice (some ⟨vb,0,none⟩) 1 1) W y
section
variable {V W W':ae}{vb:Nat}{T T':Tb}{y:Kv}
theorem TcT.new {cs0:ax ah}(hb:ai V.heap.size V W)(hvb:V.heap.size<=vb)(hv:AV vb 26 cs0 W)(hm:MX V.heap.size (.slice (some ⟨vb,0,none⟩) 1 1) W y):
  TcT V vb y.t y (W.setRow vb (JK y.t (.slice y.A y.zs.length y.c))):=
 ⟨JR hb hvb _,hvb,hv.SA _,hm.keep (by simp[World.setRow]) fun b _ _ h3=>⟨cZ _ _ b _ (fun e=>h3 (by rw[e];rfl)),h3⟩⟩
theorem TcT.grow (h:TcT V vb T y W)(hb:ai W.heap.size W W'):TcT V vb T y W':=
 ⟨JL h.lo hb,h.hvb,h.var.below hb,h.mem.keep hb.size fun b _ h2 h3=>⟨hb.block b h2,h3⟩⟩
theorem TcT.set (h:TcT V vb T y W)(o:Nat)(v:ah)(he:(JK T (.slice y.A y.zs.length y.c)).setIfInBounds o v=JK T' (.slice y.A y.zs.length y.c)):TcT V vb T' y (W.setCell ⟨vb,o,none⟩ v):=by
 have hv:=h.var.put o v;rw[he] at hv;exact⟨h.lo.setCell h.hvb v,h.hvb,hv,h.mem.keep (by simp) fun b _ _ h3=>⟨aN W _ b v (fun e=>h3 (by rw[e];rfl)),h3⟩⟩
end
structure TcF (KR:ag Int)(r:OB)(x:ItV)(k:Nat)(ts:ag Kv)(y:Kv)(T:Tb):Prop where
 QQ:T.J5=(r.QQ.toNat:Int)%16
 ver:T.version=(k:Int)+1
 wdr:T.JU=(x.wd.toNat:Int)%((k:Int)+1)
 JX:T.JX=VZ x.vs
 names:T.JX=y.zs.map (·.e)
 prev:T.prev.length=32
 Ku:T.Ku.length=32
 first:k=0->T.prev=KA
 link:∀z,ts[k - 1]? =some z->OE KR (PN z.t++z.t.Ku)=T.prev
section
variable {KR:ag Int}{r:OB}{x:ItV}{k c:Nat}{A:aj Addr}{ts:ag Kv}{y:Kv}{T:Tb}{W W':ae}
theorem TcF.made (h:TcF KR r x k ts y T)(hk:k<=4):YP T:=aah (y:=⟨T,none,0,[]⟩) hk h.QQ h.ver h.wdr h.first h.JX
theorem TcF.good (h:TcF KR r x k ts y T)(hk:k<=4):TbG T:=(h.made hk).good h.prev h.Ku
theorem TcF.up (h:TcF KR r x k ts y T)(hk:k<=4):OV y.zs:=(h.made hk).up h.names
theorem alN (d:ag au):PN {T with Ku:=d}=PN T:=by
 unfold PN;rfl
theorem TcF.awk (h:TcF KR r x k ts y T)(hk:k<=4){d:ag au}(hd:d.length=32){A':aj Addr}{c':Nat}{ys:ag L9}(he:ys.map (·.e)=T.JX):RV ⟨{T with Ku:=d},A',c',ys⟩:=
 ⟨((h.made hk).acD d).good h.prev hd,OV.congr (he.trans h.names) (h.up hk)⟩
theorem TcF.next (h:TcF KR r x k ts y T)(hC:TcC KR r k c A ts W){d:ag au}(hd:QR KR r.key (PN T)=d):Uk KR r.key ts {T with Ku:=d}=0:=by
 refine X5 ?_ ?_ fun z hz=>?_
 ·rw[alN,hd]
 ·rw[hC.len];exact h.ver
 ·rw[hC.len] at hz;exact⟨h.link z hz,(hC.QQ z (LQ hz)).trans h.QQ.symm⟩
theorem TcC.snoc (hC:TcC KR r k c A ts W)(h:TcF KR r x k ts y T)(hk:k<=4){d:ag au}(hd:QR KR r.key (PN T)=d){A':aj Addr}{c':Nat}{zs:ag L9}(he:zs.map (·.e)=T.JX){A2:aj Addr}{c2:Nat}{ys:ag Kv}(hc:k+1<=c2)(hy:ys.map Pq=(ts++ [(⟨{T with Ku:=d},A',c',zs⟩:Kv)]).map Pq)
  (hr:LJ W' W'.heap.size A2 ys):TcC KR r (k+1) c2 A2 ys W':=by
 have hl:ys.length=k+1:=by rw[ahA hy,KN,hC.len];rfl
 have hg:∀x∈ts++ [(⟨{T with Ku:=d},A',c',zs⟩:Kv)],RV x/\x.t.J5=(r.QQ.toNat:Int)%16:=fun x hx=>by
  rcases dm.1 hx with h1|h1
  ·exact⟨hC.good x h1,hC.QQ x h1⟩
  ·obtain rfl:=aY.1 h1;exact⟨h.awk hk (by rw[<-hd];exact Ql _ _ _) he,h.QQ⟩
 refine⟨hl,hc,.inr ?_,hr,RV.congr hy fun x hx=>(hg x hx).1,PS.congr hy (hC.adm.snoc (h.next hC hd)),fun x hx=>?_⟩
 ·rcases OG hr with h1|⟨b,off,h1,_⟩
  ·omega
  ·exact⟨b,off,h1⟩
 ·obtain⟨j,hj⟩:=fU hx;obtain⟨z,h1,h2,_⟩:=ahB hy hj;rw[<-h2];exact(hg z (LQ h1)).2
end
inductive Yz (x:Kv):Kv->Prop
 |J5 (v:Int):0<=v->v<18->Yz x ⟨{x.t with J5:=v},x.A,x.c,x.zs⟩
 |version (v:Int):0<=v->v<8->Yz x ⟨{x.t with version:=v},x.A,x.c,x.zs⟩
 |JU (v:Int):0<=v->v<8->Yz x ⟨{x.t with JU:=v},x.A,x.c,x.zs⟩
 |prev (j:Nat) (u:au):j<32->Yz x ⟨{x.t with prev:=x.t.prev.set j u},x.A,x.c,x.zs⟩
 |Ku (j:Nat) (u:au):j<32->Yz x ⟨{x.t with Ku:=x.t.Ku.set j u},x.A,x.c,x.zs⟩
 |JX (k:Nat):k<=x.zs.length->Yz x ⟨{x.t with JX:=x.t.JX.take k},x.A,x.c,x.zs.take k⟩
structure BtO (w:ae)(g:Nat)(ts:ag Kv)(W:ae):Prop where
 lo:ai w.heap.size w W
 ge:w.heap.size<=g
 cur:∃(cur:ax ah) (t:TypeId),W.heap[g]? =some (.cells cur t (0,0))/\∀(j:Nat) (v:ah),(ts.flatMap Kv.cells)[j]? =some v->cur[j]? =some v
 each:∀x∈ts,Ld w w.heap.size x
theorem anL {ts:ag Kv}{i f:Nat}{x:Kv}{w:ae}{B:Nat}(he:∀x∈ts,Ld w B x)(hx:ts[i]? =some x)(hf:f<68):(ts.flatMap Kv.cells)[i*68+f]? =x.cells[f]? :=
 flat_get (s:=68) Kv.cells ts (fun x hx=>(he x hx).size) i f x hx hf
section
variable {w W:ae}{g i f:Nat}{ts:ag Kv}{x y:Kv}{v:ah}
theorem BtO.lt (h:BtO w g ts W):g<W.heap.size:=by
 obtain⟨cur,t,h1,_⟩:=h.cur;exact(KY.1 h1).1
theorem BtO.cell (h:BtO w g ts W)(hx:ts[i]? =some x)(hf:f<68):W.cell? ⟨g,i*68+f,none⟩=x.cells[f]? :=by
 obtain⟨cur,t,h1,h2⟩:=h.cur;have hl:=(h.each x (LQ hx)).size;obtain⟨u,hu⟩:∃u,x.cells[f]? =some u:=⟨_,KL (by omega)⟩;rw[hu,aC W g _ _ _ _ h1];exact h2 _ _ ((anL h.each hx hf).trans hu)
theorem BtO.Oo (h:BtO w g ts W)(o:Nat):W.frozen? ⟨g,o,none⟩=false:=by
 obtain⟨cur,t,h1,_⟩:=h.cur;exact aP W g o _ _ h1
theorem afH (ts:ag Kv)(i f:Nat)(x y:Kv)(v:ah)(hs:∀x∈ts,x.cells.length=68)(hx:ts[i]? =some x)(hf:f<68)(hy:y.cells=x.cells.set f v):(ts.set i y).flatMap Kv.cells=(ts.flatMap Kv.cells).set (i*68+f) v:=by
 induction ts generalizing i with
 |nil=>cases hx
 |cons a ts ih=>
  have ha:=hs a (gI ..);cases i with
  |zero=>
   obtain rfl:a=x:=iO hx;rw[iy,dI,dI,hy,kX _ _ (by omega),gU,aT]
  |succ i=>
   rw[iQ,dI,dI,ih i (fun x hx=>hs x (iE _ hx)) hx,eY _ _ (by omega)];congr 2;omega
theorem BtO.set (h:BtO w g ts W)(hx:ts[i]? =some x)(hf:f<68)(hy:y.cells=x.cells.set f v)(ht:Ld w w.heap.size y):BtO w g (ts.set i y) (W.setCell ⟨g,i*68+f,none⟩ v):=by
 obtain⟨cur,t,h1,h2⟩:=h.cur;have hs:∀x∈ts,x.cells.length=68:=fun x hx=>(h.each x hx).size;refine⟨h.lo.setCell (p:=⟨g,i*68+f,none⟩) h.ge v,h.ge,⟨_,t,bJ W g _ _ _ v h1,fun j u hu=>?_⟩,fun z hz=>?_⟩
 ·rw[afH ts i f x y v hs hx hf hy] at hu;by_cases hj:j=i*68+f
  ·subst hj;have hl:=(MF.1 hu).1;rw[eu] at hl;rw[iJ hl] at hu;have h3:=h2 _ _ (KL hl);rw[Array.getElem?_setIfInBounds_self_of_lt (KY.1 h3).1];exact hu
  ·rw[gQ (by omega)] at hu;rw[bf (by omega)];exact h2 _ _ hu
 ·rcases jY hz with h3|h3
  ·exact h.each z h3
  ·exact h3▸ht
theorem BtO.chain (h:BtO w g ts W):LJ W W.heap.size (some ⟨g,0,none⟩) ts:=by
 obtain⟨cur,t,h1,h2⟩:=h.cur;exact⟨.inr ⟨g,0,rfl,h.lt,fun j u hu=>by rw[aT,aC W g _ _ _ _ h1];exact h2 j u hu⟩,fun x hx=>((h.each x hx).keep h.lo).more h.lo.size⟩
end
end Go.Proofs.YtbaehbbonkljpaaGreatDoor
