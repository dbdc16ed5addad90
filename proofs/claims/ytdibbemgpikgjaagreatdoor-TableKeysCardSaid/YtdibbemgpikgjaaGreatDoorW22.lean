/- The texts Khm, Ld, Lea, Lf, Lg, in this order. -/
import Derived.Test.YtdibbemgpikgjaaGreatDoorW00
import Derived.Test.YtdibbemgpikgjaaGreatDoorW04
import Derived.Test.YtdibbemgpikgjaaGreatDoorW19
import Derived.Test.YtdibbemgpikgjaaGreatDoorW20
import Derived.Test.YtdibbemgpikgjaaGreatDoorW21
set_option maxRecDepth 10000
set_option maxHeartbeats 8000000
namespace Go.Proofs.YtdibbemgpikgjaaGreatDoor
open Go Go.RowKit
theorem S9 (x:Du) (G O:Option Addr) (gc oc:Nat) (w:World) (hgl:x.bZ.length≤9223372036854775807) (hol:x.dJ.length≤9223372036854775807) (hg:aA w w.heap.size G (x.bZ.map Extern.Stop.cell)) (ho:aA w w.heap.size O (x.dJ.map Extern.Stop.cell)):
  Calls Tryz.prog 32 #[.agg (fP x G O gc oc)] w (NJ w (fJ x)):=by
 rcases Nat.mod_two_eq_zero_or_one x.cal.toNat with h|h
 ·exact made_0 x G O gc oc w h hgl hol hg ho
 ·exact made_1 x G O gc oc w h hgl hol hg ho
structure DF where
 x:Du
 G:Option Addr
 O:Option Addr
 gc:Nat
 oc:Nat
def DF.cells (v:DF):List Value:=(fP v.x v.G v.O v.gc v.oc).toList
structure Fh (w:World) (B:Nat) (v:DF):Prop where
 gl:v.x.bZ.length≤9223372036854775807
 ol:v.x.dJ.length≤9223372036854775807
 g:aA w B v.G (v.x.bZ.map Extern.Stop.cell)
 o:aA w B v.O (v.x.dJ.map Extern.Stop.cell)
theorem Fh.keep {w w':World} {B:Nat} {v:DF} (h:Fh w B v) (hb:Below B w w'):Fh w' B v:=⟨h.gl,h.ol,h.g.keep hb,h.o.keep hb⟩
theorem Fh.more {w:World} {B B':Nat} {v:DF} (h:Fh w B v) (hB:B≤B'):Fh w B' v:=⟨h.gl,h.ol,h.g.more hB,h.o.more hB⟩
structure Hq where
 A:Option Addr
 c:Nat
 vs:List DF
 wd:UInt8
def Hq.cells (x:Hq):Array Value:= #[.slice x.A x.vs.length x.c,Extern.Stop.cell x.wd]
structure DD (w:World) (B:Nat) (x:Hq):Prop where
 len:x.vs.length≤9223372036854775807
 row:aA w B x.A (x.vs.flatMap DF.cells)
 each:∀v∈x.vs,Fh w B v
theorem DD.keep {w w':World} {B:Nat} {x:Hq} (h:DD w B x) (hb:Below B w w'):DD w' B x:=⟨h.len,h.row.keep hb,fun v hv=>(h.each v hv).keep hb⟩
theorem DD.more {w:World} {B B':Nat} {x:Hq} (h:DD w B x) (hB:B≤B'):DD w B' x:=⟨h.len,h.row.more hB,fun v hv=>(h.each v hv).more hB⟩
theorem LV.of {lo lo':Nat} {v:Value} {W:World} {A:Option Addr} {cs:List Value} (h:aA W W.heap.size A cs) (h2:oQ lo' A cs) (hlo:lo≤lo') (hv:∀b,lo'≤b→some b≠v.ownBlock):LV lo v W A cs:=by
 rcases h with h|⟨b,off,e,hb,hc⟩
 ·exact .inl h
 ·rcases h2 with h2|⟨b2,zK,e2,hl⟩
  ·exact .inl h2
  ·rw [e] at e2;injection e2 with e2;injection e2 with e3 e4;subst e3;exact .inr ⟨b,off,e,by omega,hb,hv b hl,hc⟩
theorem gB.of {lo lo':Nat} {v:Value} {W:World} {s:Zs} {z:Zn} (h:jy W W.heap.size s z) (h2:Bh lo' s z) (hlo:lo≤lo') (hv:∀b,lo'≤b→some b≠v.ownBlock):gB lo v W s z:=
 ⟨.of h.az h2.1 hlo hv, .of h.rules h2.2.1 hlo hv, .of h.trans h2.2.2.1 hlo hv, .of h.aK h2.2.2.2 hlo hv⟩
structure pU (w:World) (ib:Array Value) (T:Tb) (k:Nat) (Az:Option Addr) (cz:Nat) (ys:List dD) (W:World):Prop where
 it:AV w.heap.size 50 ib W
 r:AV (w.heap.size+1) 37 (ai bQ (.slice none 0 0)) W
 t:AV (w.heap.size+2) 37 (ai T (.slice Az k cz)) W
 lo:Below w.heap.size w W
 own:W.ownsRow (w.heap.size+3) 90 9 (.slice Az k cz) k (aO ys)
 mem:∀y∈ys,gB (w.heap.size+3) (.slice Az k cz) W y.s y.e.z
section
variable {w W W':World} {ib:Array Value} {T:Tb} {k cz:Nat} {Az:Option Addr} {ys:List dD}
theorem pU.grow (h:pU w ib T k Az cz ys W) (hb:Below W.heap.size W W'):pU w ib T k Az cz ys W':=
 ⟨h.it.below hb,h.r.below hb,h.t.below hb,ah h.lo hb,own_below h.own hb,fun y hy=>(h.mem y hy).keep hb.size fun b _ h2 h3=>⟨hb.block b h2,h3⟩⟩
theorem pU.drew (h:pU w ib T k Az cz ys W):pU w ib T k Az cz ys W.drew:=h.grow ((Below.refl _ W).drew)
theorem pU.lt (h:pU w ib T k Az cz ys W):w.heap.size+2<W.heap.size:=h.t.lt
theorem pU.qU (h:pU w ib T k Az cz ys W):∀b,W.heap.size≤b→some b≠(Value.slice Az k cz).ownBlock:=fun b hb e=>by
 have:=World.ownsRow.lt h.own b e.symm;omega
theorem pU.add {Wb w6:World} {gg cap:Nat} {y:dD} (h:pU w ib T k Az cz ys W) (hy:gB (w.heap.size+3) (.slice Az k cz) W y.s y.e.z) (FQ:Wb=W.alloc (.cells y.cells 90))
  (hown:w6.ownsRow (w.heap.size+3) 90 9 (.slice (some ⟨gg,0,none⟩) (k+1) cap) (k+1) (aO ys++y.cells.toList)) (hg:Wb.grownBy w6 (Value.slice Az k cz).ownBlock) (hat:(Value.slice Az k cz).ownBlock=some gg∨gg=Wb.heap.size):
  pU w ib T (k+1) (some ⟨gg,0,none⟩) cap (ys++ [y]) (w6.setCell ⟨w.heap.size+2,3,none⟩ (.slice (some ⟨gg,0,none⟩) (k+1) cap)):=by
 have hsb:Wb.heap.size=W.heap.size+1:=by rw [FQ];simp
 have hlt:=h.lt;have hs6:W.heap.size≤w6.heap.size:=by have:=hg.size;omega
 have hbl:∀b,b<W.heap.size→some b≠(Value.slice Az k cz).ownBlock→w6.heap[b]? =W.heap[b]? :=fun b hb hn=>
  (hg.block b (by omega) hn).trans (by rw [FQ];exact Below.heap_alloc W _ b hb)
 have hlow:∀b,b<w.heap.size+3→some b≠(Value.slice Az k cz).ownBlock:=eQ h.own;have hgg:=kH hown;have hset:∀b,b≠w.heap.size+2→(w6.setCell ⟨w.heap.size+2,3,none⟩ (.slice (some ⟨gg,0,none⟩) (k+1) cap)).heap[b]? =w6.heap[b]? :=fun b hb=>heap_setCell_other w6 ⟨w.heap.size+2,3,none⟩ b _ hb;have hsz:(w6.setCell ⟨w.heap.size+2,3,none⟩ (.slice (some ⟨gg,0,none⟩) (k+1) cap)).heap.size=w6.heap.size:=by simp [World.setCell]
 have hmm:∀b,w.heap.size+3≤b→b<W.heap.size→some b≠(Value.slice Az k cz).ownBlock→(w6.setCell ⟨w.heap.size+2,3,none⟩ (.slice (some ⟨gg,0,none⟩) (k+1) cap)).heap[b]? =W.heap[b]? ∧some b≠(Value.slice (some ⟨gg,0,none⟩) (k+1) cap).ownBlock:=fun b h1 h2 h3=>by
  refine ⟨(hset b (by omega)).trans (hbl b h2 h3),fun e=>?_⟩;have e2:b=gg:=by simpa [Value.ownBlock] using e
  rcases hat with e3|e3
  ·exact h3 (by rw [e2];exact e3.symm)
  ·omega
 refine ⟨⟨(hset _ (by omega)).trans ((hbl _ (by omega) (hlow _ (by omega))).trans h.it.var)⟩,⟨(hset _ (by omega)).trans ((hbl _ (by omega) (hlow _ (by omega))).trans h.r.var)⟩,?_,?_,?_,?_⟩
 ·have h1:AV (w.heap.size+2) 37 (ai T (.slice Az k cz)) w6:=⟨(hbl _ (by omega) (hlow _ (by omega))).trans h.t.var⟩;have h2:=h1.put 3 (.slice (some ⟨gg,0,none⟩) (k+1) cap);rw [nH] at h2;exact h2
 ·have h1:Below w.heap.size w Wb:=by rw [FQ];exact ah h.lo (ag W _)
  have hob:Wb.ownsRow (w.heap.size+3) 90 9 (.slice Az k cz) k (aO ys):=by rw [FQ];exact own_below h.own (ag W _)
  exact (dm h1 (bD hob (by omega)) (by omega) hg).setCell (p:=⟨w.heap.size+2,3,none⟩) (show w.heap.size≤w.heap.size+2 by omega) _
 ·have h1:=dW (p:=⟨w.heap.size+2,3,none⟩) (u:= .slice (some ⟨gg,0,none⟩) (k+1) cap) hown (fun e=>absurd (show w.heap.size+2=gg by simpa [Value.ownBlock] using e) (by omega));have e:aO (ys++ [y])=aO ys++y.cells.toList:=by simp [aO]
  rw [e];exact h1
 ·intro y' hy';rcases List.mem_append.1 hy' with h1|h1
  ·exact (h.mem y' h1).keep (by rw [hsz];exact hs6) hmm
  ·obtain rfl:=List.mem_singleton.1 h1;exact hy.keep (by rw [hsz];exact hs6) hmm
end
theorem jE (W:World) (bb:Nat) (x:Int) (h:W.heap[bb]? =some (.cells #[.int .u8 x] 5 (0,0))):(convert 32 9 (.slice (some ⟨bb,0,none⟩) 1 1)).run Tryz.prog W= .ok (.string ⟨#[UInt8.ofNat x.toNat]⟩) W:=by
 have e:(⟨#[UInt8.ofNat x.toNat]⟩:ByteArray)=strOfNums [x]:=rfl;rw [e];refine run_convert_bytes_arg _ _ _ Tryz.underlying32 Tryz.underlying5 bb 0 1 1 [x] rfl (fun i hi=>?_) _ Tryz.underlying9;have:i=0:=by omega
 subst this;exact cell_of_row W bb 0 _ _ _ h
theorem iO (k:Nat):(⟨#[122]⟩:ByteArray)++⟨#[UInt8.ofNat (97+(k:Int)).toNat]⟩=bP k:=by
 have e:(97+(k:Int)).toNat=97+k:=by omega
 rw [e];rfl
def xu (vs:List DF):List Ze:=(vs.take 3).mapIdx fun i v=>⟨bP i,fJ v.x⟩
theorem LP (vs:List DF) (k:Nat) (v:DF) (hv:vs[k]? =some v):(vs.take (k+1)).mapIdx (fun i v=>(⟨bP i,fJ v.x⟩:Ze))=(vs.take k).mapIdx (fun i v=>(⟨bP i,fJ v.x⟩:Ze))++ [⟨bP k,fJ v.x⟩]:=by
 have hk:=(gu.1 hv).1;have e:vs.take (k+1)=vs.take k++ [v]:=by
  rw [List.take_add_one,hv];rfl
 rw [e,List.mapIdx_append];simp [List.length_take,Nat.min_eq_left (Nat.le_of_lt hk)]
def dX (w:World) (zb zo m ic k:Nat) (v:DF) (W:World):Prop:=W.cell? ⟨w.heap.size,0,none⟩=some (.slice (some ⟨zb,zo,none⟩) m ic)∧W.rangeAt zb (zo+k*14) v.cells
theorem dX.of {w W:World} {zb zo m ic k:Nat} {v:DF} {x:Value} (hit:AV w.heap.size 50 #[.slice (some ⟨zb,zo,none⟩) m ic,x] W) (hlo:Below w.heap.size w W) (hr:w.rangeAt zb (zo+k*14) v.cells) (hb:zb<w.heap.size):dX w zb zo m ic k v W:=
 ⟨hit.cell 0,aN hr hlo hb⟩
theorem gB.grow {lo:Nat} {v:Value} {W W':World} {s:Zs} {z:Zn} (h:gB lo v W s z) (hb:Below W.heap.size W W'):gB lo v W' s z:=h.keep hb.size fun b _ h2 h3=>⟨hb.block b h2,h3⟩
theorem pU.start (w:World) (ib:Array Value) (T:Tb) (z:Array Value):pU w ib T 0 none 0 [] ((((w.alloc (.cells ib 50)).alloc (.cells (ai bQ (.slice none 0 0)) 37)).alloc (.cells z 37)).setRow (w.heap.size+2) (ai T (.slice none 0 0))):=by
 obtain ⟨W,hW⟩:∃W,(w.alloc (.cells ib 50)).alloc (.cells (ai bQ (.slice none 0 0)) 37)=W:=⟨_,rfl⟩;have hs:W.heap.size=w.heap.size+2:=by rw [←hW];simp
 have hb:Below w.heap.size w W:=by rw [←hW];exact ah (ag w _) (ag _ _)
 have h1:AV w.heap.size 50 ib W:=by rw [←hW];exact ⟨heap_alloc2_old w _ _⟩
 have h2:AV (w.heap.size+1) 37 (ai bQ (.slice none 0 0)) W:=by rw [←hW];exact ⟨heap_alloc2_new w _ _⟩
 have h3:=AV.new W z 37;rw [hs] at h3;rw [hW];have hb2:=ag W (.cells z 37);exact ⟨(h1.below hb2).rV (by omega) _,(h2.below hb2).rV (by omega) _,h3.pG _,aB (ah hb hb2) (by omega) _,World.ownsRow_nil _ _ _ _,fun _ h=>nomatch h⟩
theorem pU.mid {w W w6:World} {ib:Array Value} {T:Tb} {k cz:Nat} {Az:Option Addr} {ys:List dD} (h:pU w ib T k Az cz ys W) (o:Obj) (hg:(W.alloc o).grownBy w6 (Value.slice Az k cz).ownBlock):AV w.heap.size 50 ib w6∧AV (w.heap.size+2) 37 (ai T (.slice Az k cz)) w6∧Below w.heap.size w w6:=by
 have hlt:=h.lt;have hbl:∀b,b<W.heap.size→some b≠(Value.slice Az k cz).ownBlock→w6.heap[b]? =W.heap[b]? :=fun b hb hn=>
  (hg.block b (by simp;omega) hn).trans (Below.heap_alloc W _ b hb)
 have hlow:∀b,b<w.heap.size+3→some b≠(Value.slice Az k cz).ownBlock:=eQ h.own;exact ⟨⟨(hbl _ (by omega) (hlow _ (by omega))).trans h.it.var⟩,⟨(hbl _ (by omega) (hlow _ (by omega))).trans h.t.var⟩,dm (ah h.lo (ag W o)) (bD (own_below h.own (ag W o)) (by omega)) (by simp;omega) hg⟩
theorem xw {w w':World} {lo e size n:Nat} {v:Value} {xs:List Value} (h:w.ownsRow lo e size v n xs) (_hs:w.heap.size≤w'.heap.size) (hb:∀b,lo≤b→b<w.heap.size→w'.heap[b]? =w.heap[b]?):w'.ownsRow lo e size v n xs:=by
 refine ⟨h.1,?_⟩;rcases h.2 with h2|⟨g,cap,cur,h1,h2,h3,h4⟩
 ·exact .inl h2
 ·exact .inr ⟨g,cap,cur,h1,h2,(hb g h2 (bT.1 h3).1).trans h3,h4⟩
theorem IW:∀(vs pre old suf:List Value),old.length=vs.length→xA (pre++old++suf).toArray pre.length vs=(pre++vs++suf).toArray
 | [],pre,old,suf,h=>by
  have:old= []:=List.eq_nil_of_length_eq_zero h;simp [xA,this]
 |v::r,pre,old,suf,h=>by
  obtain ⟨x,old',rfl⟩:∃x old',old=x::old':=by
   cases old with
   |nil=>simp at h
   |cons x o=>exact ⟨x,o,rfl⟩
  have h2:=IW r (pre++ [v]) old' suf (by simpa using h);have e:(pre++x::old'++suf).toArray.setIfInBounds pre.length v=((pre++ [v])++old'++suf).toArray:=by simp
  unfold xA;rw [e];simpa using h2
theorem Jg (t:Tb) (v:Value) (m:List UInt8) (h1:t.prev.length=32) (h2:m.length=32):xA (ai t v) 4 (aj m)=ai {t with prev:=m} v:=by
 have h:=IW (aj m) [I t.aT,I t.version,I t.aJ,v] (aj t.prev) (aj t.bz) (by simp [aj,h1,h2]);have e1:ai t v=([I t.aT,I t.version,I t.aJ,v]++aj t.prev++aj t.bz).toArray:=by simp [ai,lg]
 have e2:ai {t with prev:=m} v=([I t.aT,I t.version,I t.aJ,v]++aj m++aj t.bz).toArray:=by simp [ai,lg]
 rw [e1,e2];exact h
theorem pU.prev {w W:World} {ib:Array Value} {T:Tb} {k cz:Nat} {Az:Option Addr} {ys:List dD} (h:pU w ib T k Az cz ys W) (hp:T.prev.length=32) (d:List UInt8) (hd:d.length=32):
  pU w ib {T with prev:=d} k Az cz ys (W.setCells (w.heap.size+2) 4 (cD d).toList):=by
 have ho:∀b,b≠w.heap.size+2→(W.setCells (w.heap.size+2) 4 (cD d).toList).heap[b]? =W.heap[b]? :=fun b hb=>nT _ _ _ _ b hb;have hs:(W.setCells (w.heap.size+2) 4 (cD d).toList).heap.size=W.heap.size:=uz _ _ _ _;have ht:=h.t.setQ 4 (cD d).toList;rw [show xA _ 4 (cD d).toList=_ from Jg T _ d hp hd] at ht;refine ⟨h.it.VA (by omega) _ _,h.r.VA (by omega) _ _,ht,nN (by omega) _ _ _ h.lo,?_,fun y hy=>(h.mem y hy).keep (by rw [hs];omega) fun b h1 h2 h3=>⟨ho b (by omega),h3⟩⟩;exact xw h.own (by rw [hs];omega) fun b h1 _=>ho b (by omega)
theorem pU.fin {w W:World} {ib:Array Value} {T:Tb} {k cz:Nat} {Az:Option Addr} {ys:List dD} (h:pU w ib T k Az cz ys W) (hp:T.prev.length=32) (hm:T.bz.length=32) (cs:Array Value):
  kM (W.setRow (w.heap.size+1) cs) (W.setRow (w.heap.size+1) cs).heap.size ⟨{T with aS:=ys.map (·.e)},Az,cz,ys⟩∧Below w.heap.size w (W.setRow (w.heap.size+1) cs):=by
 have ho:∀b,b≠w.heap.size+1→(W.setRow (w.heap.size+1) cs).heap[b]? =W.heap[b]? :=fun b hb=>setRow_other _ _ b _ hb;have hs:(W.setRow (w.heap.size+1) cs).heap.size=W.heap.size:=by simp [World.setRow]
 have h1:pU w ib T k Az cz ys W:=h;refine ⟨⟨rfl,hp,hm,⟨aA.dS (xw h.own (by rw [hs];omega) fun b h1 _=>ho b (by omega)),fun y hy=>((h.mem y hy).keep (v':= .slice Az k cz) (by rw [hs];omega) fun b h1 h2 h3=>⟨ho b (by omega),h3⟩).at⟩⟩,aB h.lo (Nat.le_succ _) _⟩
theorem lh (y:dD):∀u∈y.cells.toList,u.oneCell'=true:=by
 have h:=wR [y];simpa [aO] using h
def vI (lo:Nat) (y:dI):Prop:=oQ lo y.A (aO y.zs)∧∀z∈y.zs,Bh lo z.s z.e.z
theorem LV.low {lo lo':Nat} {v:Value} {W:World} {A:Option Addr} {cs:List Value} (h:LV lo v W A cs) (hl:lo'≤lo):oQ lo' A cs:=by
 rcases h with h|⟨b,off,h1,h2,_⟩
 ·exact .inl h
 ·exact .inr ⟨b,off,h1,Nat.le_trans hl h2⟩
theorem pU.low {w W:World} {ib:Array Value} {T T':Tb} {k cz:Nat} {Az:Option Addr} {ys:List dD} (h:pU w ib T k Az cz ys W):vI w.heap.size ⟨T',Az,cz,ys⟩:=by
 refine ⟨?_,fun y hy=>?_⟩
 ·rcases h.own.2 with ⟨hv,hn⟩|⟨g,cap,cur,hv,hg,_⟩
  ·refine .inl ?_;show (aO ys).length=0;rw [h.own.1,hn,Nat.zero_mul]
  ·injection hv with h1 _ _;exact .inr ⟨g,0,h1,by omega⟩
 ·obtain ⟨h1,h2,h3,h4⟩:=h.mem y hy;exact ⟨h1.low (by omega),h2.low (by omega),h3.low (by omega),h4.low (by omega)⟩
theorem rQ:(Tryz.prog.info? 37).map (fun i=>(i.zero,i.size,i.bytes))=some (some (.agg (ai bQ (.slice none 0 0))),68,112):=by kernel_rfl
section
variable {ops:Array Oper} {rest:List Oper} {o:Oper} {a:Act} {Q:Exit→Act→World→Prop} {w:World}
theorem wQ (hgd:o.guard=none) (x:Operand) (ho:o.op= .buildSlice 28 1 #[(0,x)]) (cs:Array Value) (hcs:cs.size=68)
  (hx:a.eval x= .agg cs) (h:wpList Tryz.prog ops Q rest (a.put o.dst (.slice (some ⟨w.heap.size,0,none⟩) 1 1)) (w.alloc (.cells cs 37))):wpList Tryz.prog ops Q (o::rest) a w:=by
 obtain ⟨i0,hi,hz0,hz1,hz2⟩:=info_parts rQ;refine wpList_buildSlice hgd 28 37 1 _ ho cs i0 (.agg (ai bQ (.slice none 0 0))) Tryz.underlying28 hi hz0 (by rw [hz1];decide) (by rw [hz1];decide) ?_ h;rw [hz1];simp only [List.map_toArray,List.map_cons,List.map_nil,hx];have h:=Go.Great.fill_whole (s:=68) (by omega) [.agg cs] ((Array.range (1*68)).map ((Value.agg (ai bQ (.slice none 0 0))).cells[· %(Value.agg (ai bQ (.slice none 0 0))).cells.size]!)) (fun v hv=>by simp at hv;subst hv;exact hcs) (by simp);have e:([Value.agg cs].flatMap fun v=>v.cells.toList).toArray=cs:=by simp [Value.cells]
 rw [e] at h;exact h
theorem rO {P:Program} (ty:TypeId) {n:Nat} {x:Array (Nat×Operand)} {d:Option Tmp} {t:TypeId} {pos:String} {af:Array Edge} {g:Option (Nat×Bool)} (h:wpList P ops Q (⟨d, .buildSlice ty n x,t,pos,af,g⟩::rest) a w):wpList P ops Q (⟨d, .buildSlice ty n x,t,pos,af,g⟩::rest) a w:=h
end
structure l9 where
 Dw:UInt8
 key:List UInt8
 A:Option Addr
 c:Nat
 its:List Hq
def l9.cells (r:l9):List Value:=Extern.Stop.cell r.Dw::(aj r.key++ [.slice r.A r.its.length r.c])
theorem l9.len (r:l9) (h:r.key.length=32):r.cells.length=34:=by simp [l9.cells,aj,h]
structure vH (w:World) (B:Nat) (r:l9):Prop where
 key:r.key.length=32
 len:r.its.length≤9223372036854775807
 row:aA w B r.A (r.its.flatMap fun x=>x.cells.toList)
 each:∀x∈r.its,DD w B x
theorem vH.keep {w w':World} {B:Nat} {r:l9} (h:vH w B r) (hb:Below B w w'):vH w' B r:=⟨h.key,h.len,h.row.keep hb,fun v hv=>(h.each v hv).keep hb⟩
theorem vH.more {w:World} {B B':Nat} {r:l9} (h:vH w B r) (hB:B≤B'):vH w B' r:=⟨h.key,h.len,h.row.more hB,fun v hv=>(h.each v hv).more hB⟩
theorem Oj {W:World} {b:Nat} {r:l9} (h:fH W b r.cells.toArray):W.rangeAt b 1 (aj r.key):=fun j v hv=>by
 rw [h.2 (1+j)];unfold l9.cells;have hj:=(gu.1 hv).1;rw [List.getElem?_toArray,Nat.add_comm 1 j,List.getElem?_cons_succ,List.getElem?_append_left hj];exact hv
theorem Oi (r:l9) (h:r.key.length=32):r.cells.toArray[33]? =some (.slice r.A r.its.length r.c):=by
 unfold l9.cells;rw [List.getElem?_toArray,show (33:Nat)=32+1 from rfl,List.getElem?_cons_succ,List.getElem?_append_right (by simp [aj,h])];simp [aj,h]
theorem LV.V7 {lo lo' B:Nat} {v:Value} {W:World} {A:Option Addr} {cs:List Value} (h:aA W B A cs) (hB:B≤W.heap.size) (h2:oQ lo' A cs) (hlo:lo≤lo') (hv:∀b,lo'≤b→b<B→some b≠v.ownBlock):LV lo v W A cs:=by
 rcases h with h|⟨b,off,e,hb,hc⟩
 ·exact .inl h
 ·rcases h2 with h2|⟨b2,zK,e2,hl⟩
  ·exact .inl h2
  ·rw [e] at e2;injection e2 with e2;injection e2 with e3 e4;subst e3;exact .inr ⟨b,off,e,by omega,by omega,hv b hl hb,hc⟩
theorem iU.of {lo lo' B:Nat} {v:Value} {W:World} {y:dI} (h:kM W B y) (hB:B≤W.heap.size) (h2:vI lo' y) (hlo:lo≤lo') (hv:∀b,lo'≤b→b<B→some b≠v.ownBlock):iU lo v W y:=
 ⟨.V7 h.aS.row hB h2.1 hlo hv,fun z hz=>⟨.V7 (h.aS.each z hz).az hB (h2.2 z hz).1 hlo hv, .V7 (h.aS.each z hz).rules hB (h2.2 z hz).2.1 hlo hv, .V7 (h.aS.each z hz).trans hB (h2.2 z hz).2.2.1 hlo hv, .V7 (h.aS.each z hz).aK hB (h2.2 z hz).2.2.2 hlo hv⟩⟩
theorem LV.wI {lo lo':Nat} {v:Value} {W:World} {A:Option Addr} {cs:List Value} (h:LV lo v W A cs) (hl:lo'≤lo):LV lo' v W A cs:=by
 rcases h with h|⟨b,off,h1,h2,h3⟩
 ·exact .inl h
 ·exact .inr ⟨b,off,h1,Nat.le_trans hl h2,h3⟩
theorem LV.vary {lo:Nat} {v v':Value} {W:World} {A:Option Addr} {cs:List Value} (h:LV lo v W A cs) (hv:∀b,lo≤b→b<W.heap.size→some b≠v'.ownBlock):LV lo v' W A cs:=by
 rcases h with h|⟨b,off,h1,h2,h3,h4,h5⟩
 ·exact .inl h
 ·exact .inr ⟨b,off,h1,h2,h3,hv b h2 h3,h5⟩
theorem iU.vary {lo lo':Nat} {v v':Value} {W:World} {y:dI} (h:iU lo v W y) (hl:lo'≤lo) (hv:∀b,lo≤b→b<W.heap.size→some b≠v'.ownBlock):iU lo' v' W y:=
 ⟨(h.1.vary hv).wI hl,fun z hz=>⟨((h.2 z hz).1.vary hv).wI hl,((h.2 z hz).2.1.vary hv).wI hl,((h.2 z hz).2.2.1.vary hv).wI hl,((h.2 z hz).2.2.2.vary hv).wI hl⟩⟩
theorem iU.low {lo lo':Nat} {v:Value} {W:World} {y:dI} (h:iU lo v W y) (hl:lo'≤lo):vI lo' y:=⟨h.1.low hl,fun z hz=>⟨(h.2 z hz).1.low hl,(h.2 z hz).2.1.low hl,(h.2 z hz).2.2.1.low hl,(h.2 z hz).2.2.2.low hl⟩⟩
structure Zj (y:dI):Prop where
 made:Fj y.t
 names:y.t.aS=y.zs.map (·.e)
 prev:y.t.prev.length=32
 bz:y.t.bz.length=32
theorem Zj.size {y:dI} (h:Zj y):y.cells.length=68:=by
 have:=bF y.t (.slice y.A y.zs.length y.c) h.prev h.bz;simpa [ai,dI.cells] using this
theorem Zj.at {y:dI} (h:Zj y) {lo:Nat} {v:Value} {W:World} (hm:iU lo v W y):kM W W.heap.size y:=⟨h.names,h.prev,h.bz,⟨hm.1.at,fun z hz=>(hm.2 z hz).at⟩⟩
structure xh (w:World) (rc:Array Value) (k c:Nat) (A:Option Addr) (ts:List dI) (W:World):Prop where
 it:AV w.heap.size 26 rc W
 lo:Below w.heap.size w W
 own:W.ownsRow (w.heap.size+1) 37 68 (.slice A k c) k (ts.flatMap dI.cells)
 mem:∀y∈ts,iU (w.heap.size+1) (.slice A k c) W y
 each:∀y∈ts,Zj y
section
variable {w W W':World} {rc:Array Value} {k c:Nat} {A:Option Addr} {ts:List dI}
theorem xh.step (h:xh w rc k c A ts W) (ho:W'.os=W.os) (htp:W'.tape=W.tape) (hou:W'.output=W.output) (hs:W.heap.size≤W'.heap.size) (hb:∀b,b<W.heap.size→W'.heap[b]? =W.heap[b]?):xh w rc k c A ts W':=
 have hB:Below W.heap.size W W':=⟨ho,htp,hou,hs,hb⟩
 ⟨h.it.below hB,ah h.lo hB,own_below h.own hB,fun y hy=>(h.mem y hy).keep hs fun b _ h2 h3=>⟨hb b h2,h3⟩,h.each⟩
theorem xh.grow (h:xh w rc k c A ts W) (hb:Below W.heap.size W W'):xh w rc k c A ts W':=h.step hb.os hb.tape hb.output hb.size hb.block
theorem xh.drew (h:xh w rc k c A ts W):xh w rc k c A ts W.drew:=h.grow ((Below.refl _ W).drew)
theorem xh.lt (h:xh w rc k c A ts W):w.heap.size<W.heap.size:=h.it.lt
theorem xh.chain (h:xh w rc k c A ts W):jd W W.heap.size A ts:=⟨aA.dS h.own,fun y hy=>(h.each y hy).at (h.mem y hy)⟩
theorem xh.qU (h:xh w rc k c A ts W):∀b,W.heap.size≤b→some b≠(Value.slice A k c).ownBlock:=fun b hb e=>by
 have:=World.ownsRow.lt h.own b e.symm;omega
theorem xh.add {Wb w6:World} {gg cap:Nat} {y:dI} (h:xh w rc k c A ts W) (hy:iU (w.heap.size+1) (.slice A k c) W y) (hf:Zj y) (FQ:Wb=W.alloc (.cells y.cells.toArray 37))
  (hown:w6.ownsRow (w.heap.size+1) 37 68 (.slice (some ⟨gg,0,none⟩) (k+1) cap) (k+1) (ts.flatMap dI.cells++y.cells)) (hg:Wb.grownBy w6 (Value.slice A k c).ownBlock) (hat:(Value.slice A k c).ownBlock=some gg∨gg=Wb.heap.size):
  xh w rc (k+1) cap (some ⟨gg,0,none⟩) (ts++ [y]) w6:=by
 have hsb:Wb.heap.size=W.heap.size+1:=by rw [FQ];simp
 have hlt:=h.lt;have hs6:W.heap.size≤w6.heap.size:=by have:=hg.size;omega
 have hbl:∀b,b<W.heap.size→some b≠(Value.slice A k c).ownBlock→w6.heap[b]? =W.heap[b]? :=fun b hb hn=>
  (hg.block b (by omega) hn).trans (by rw [FQ];exact Below.heap_alloc W _ b hb)
 have hlow:∀b,b<w.heap.size+1→some b≠(Value.slice A k c).ownBlock:=eQ h.own;have hmm:∀b,w.heap.size+1≤b→b<W.heap.size→some b≠(Value.slice A k c).ownBlock→w6.heap[b]? =W.heap[b]? ∧some b≠(Value.slice (some ⟨gg,0,none⟩) (k+1) cap).ownBlock:=fun b h1 h2 h3=>by
  refine ⟨hbl b h2 h3,fun e=>?_⟩;have e2:b=gg:=by simpa [Value.ownBlock] using e
  rcases hat with e3|e3
  ·exact h3 (by rw [e2];exact e3.symm)
  ·omega
 have h1:Below w.heap.size w Wb:=by rw [FQ];exact ah h.lo (ag W _)
 have hob:Wb.ownsRow (w.heap.size+1) 37 68 (.slice A k c) k (ts.flatMap dI.cells):=by rw [FQ];exact own_below h.own (ag W _)
 refine ⟨⟨(hbl _ (by omega) (hlow _ (by omega))).trans h.it.var⟩,dm h1 (bD hob (by omega)) (by omega) hg,by simpa using hown,fun y' hy'=>?_,fun y' hy'=>?_⟩
 ·rcases List.mem_append.1 hy' with h1|h1
  ·exact (h.mem y' h1).keep hs6 hmm
  ·obtain rfl:=List.mem_singleton.1 h1;exact hy.keep hs6 hmm
 ·rcases List.mem_append.1 hy' with h1|h1
  ·exact h.each y' h1
  ·obtain rfl:=List.mem_singleton.1 h1;exact hf
end
def yh (w:World) (r:l9) (ib io n k:Nat) (x:Hq) (W:World):Prop:=
 W.cell? ⟨w.heap.size,0,none⟩=some (.int .u8 (r.Dw.toNat:Int))∧W.cell? ⟨w.heap.size,33,none⟩=some (.slice (some ⟨ib,io,none⟩) n r.c)∧W.rangeAt w.heap.size 1 (aj r.key)∧W.rangeAt ib (io+k*2) x.cells.toList
theorem yh.of {w W:World} {r:l9} {ib io n k:Nat} {x:Hq} (hk:r.key.length=32) (hn:r.its.length=n) (hA:r.A=some ⟨ib,io,none⟩) (hit:AV w.heap.size 26 r.cells.toArray W) (hlo:Below w.heap.size w W) (hr:w.rangeAt ib (io+k*2) x.cells.toList) (hb:ib<w.heap.size):yh w r ib io n k x W:=
 ⟨hit.cell 0,by rw [hit.cell 33,Oi r hk,hn,hA],Oj hit.jg,aN hr hlo hb⟩
theorem EH (vs:List DF) (k:Nat) (e:Ze) (h:(xu vs)[k]? =some e):k<3∧∃v:DF,e=⟨bP k,fJ v.x⟩:=by
 unfold xu at h;rw [List.getElem?_mapIdx] at h;cases hv:(vs.take 3)[k]? with
 |none=>rw [hv] at h;cases h
 |some v=>
  rw [hv] at h;have hk:=(gu.1 hv).1;rw [List.length_take] at hk;injection h with h;exact ⟨by omega,v,h.symm⟩
theorem Px (vs:List DF):(xu vs).length≤3:=by
 unfold xu;rw [List.length_mapIdx,List.length_take];omega
theorem Jf {n:Nat} {Dw:UInt8} {x:Hq} {y:dI} (hn:n≤4) (h1:y.t.aT=(Dw.toNat:Int)%16) (h2:y.t.version=(n:Int)+1) (h3:y.t.aJ=(x.wd.toNat:Int)%((n:Int)+1)) (h4:n=0→y.t.prev=aX) (h5:y.t.aS=xu x.vs):Fj y.t:=by
 have hb:=dn Dw;have hw1:0≤(x.wd.toNat:Int)%((n:Int)+1):=Int.emod_nonneg _ (by omega);have hw2:(x.wd.toNat:Int)%((n:Int)+1)<(n:Int)+1:=Int.emod_lt_of_pos _ (by omega);refine ⟨by rw [h1];omega,by rw [h2];omega,by rw [h3,h2];exact ⟨hw1,hw2⟩,fun h=>h4 (by rw [h2] at h;omega),by rw [h5];exact Px _,fun e he=>?_,fun k e he=>?_⟩
 ·rw [h5] at he;obtain ⟨k,hk⟩:=List.getElem?_of_mem he;obtain ⟨_,v,rfl⟩:=EH _ _ _ hk;exact Pq v.x
 ·rw [h5] at he;obtain ⟨_,v,rfl⟩:=EH _ _ _ he;rfl
theorem Fj.Me {t:Tb} (h:Fj t) (d:List UInt8):Fj {t with bz:=d}:=⟨h.aT,h.version,h.aJ,h.first,h.num,h.aS,h.names⟩
def Xj (lo:Nat) (A:Option Addr) (ts:List dI):Prop:=oQ lo A (ts.flatMap dI.cells)∧∀y∈ts,vI lo y
theorem xh.fin {w W:World} {rc:Array Value} {k c:Nat} {A:Option Addr} {ts:List dI} (h:xh w rc k c A ts W):Xj w.heap.size A ts:=by
 refine ⟨?_,fun y hy=>(h.mem y hy).low (Nat.le_succ _)⟩;rcases h.own.2 with ⟨hv,hn⟩|⟨g,cap,cur,hv,hg,_⟩
 ·refine .inl ?_;rw [h.own.1,hn,Nat.zero_mul]
 ·injection hv with h1 _ _;exact .inr ⟨g,0,h1,by omega⟩
theorem vI.mono {lo lo':Nat} {y:dI} (h:vI lo y) (hl:lo'≤lo):vI lo' y:=
 have f:∀ {A cs},oQ lo A cs→oQ lo' A cs:=fun h=>h.imp id fun ⟨b,off,e,h1⟩=>⟨b,off,e,Nat.le_trans hl h1⟩
 ⟨f h.1,fun z hz=>⟨f (h.2 z hz).1,f (h.2 z hz).2.1,f (h.2 z hz).2.2.1,f (h.2 z hz).2.2.2⟩⟩
theorem iU.grow {lo:Nat} {v:Value} {W W':World} {y:dI} (h:iU lo v W y) (hb:Below W.heap.size W W'):iU lo v W' y:=h.keep hb.size fun b _ h2 h3=>⟨hb.block b h2,h3⟩
theorem V6 {vb B B':Nat} (h:vb<B):∀b,B≤b→b<B'→some b≠(Value.slice (some ⟨vb,0,none⟩) 1 1).ownBlock:=fun b h1 _ e=>by
 have e2:b=vb:=by simpa [Value.ownBlock] using e
 omega
theorem Oc {lo:Nat} (B:Nat):∀b,lo≤b→b<B→some b≠(Value.slice (some ⟨B,0,none⟩) 1 1).ownBlock:=fun b _ h1 e=>by
 have e2:b=B:=by simpa [Value.ownBlock] using e
 omega
structure Ve (w:World) (r:l9) (V:World) (k c:Nat) (A:Option Addr) (ts:List dI) (vb:Nat) (y:dI) (W:World):Prop where
 md:xh w r.cells.toArray k c A ts W
 var:AV vb 37 (ai y.t (.slice y.A y.zs.length y.c)) W
 mem:iU (w.heap.size+1) (.slice A k c) W y
 each:Zj y
theorem Ve.of {w V W:World} {r:l9} {k c vb:Nat} {A:Option Addr} {ts:List dI} {y:dI} {d:List UInt8} (h:xh w r.cells.toArray k c A ts V) {cs:Array Value} (hb:Below V.heap.size V (W.setRow vb cs)) (hv:AV vb 37 (ai {y.t with bz:=d} (.slice y.A y.zs.length y.c)) (W.setRow vb cs))
  (hm:iU V.heap.size (.slice (some ⟨vb,0,none⟩) 1 1) W y) (ht:kM W W.heap.size y) (hM:Fj y.t) (hd:d.length=32):Ve w r V k c A ts vb ⟨{y.t with bz:=d},y.A,y.c,y.zs⟩ (W.setRow vb cs):=by
 have hs:(W.setRow vb cs).heap.size=W.heap.size:=by simp [World.setRow]
 have hlt:=h.lt;have hm2:iU V.heap.size (.slice (some ⟨vb,0,none⟩) 1 1) (W.setRow vb cs) y:=hm.keep (by omega) fun b _ _ h3=>⟨setRow_other _ _ b _ (fun e=>h3 (by rw [e];rfl)),h3⟩;have UE:iU (w.heap.size+1) (.slice A k c) (W.setRow vb cs) y:=hm2.vary (by omega) fun b h1 _=>h.qU b h1;exact ⟨h.grow hb,hv,UE,⟨hM.Me d,ht.names,ht.prev,hd⟩⟩
end Go.Proofs.YtdibbemgpikgjaaGreatDoor
