/- The texts Ld, Lea, Lf, in this order. -/
import Derived.Test.YtdibbemgpikgjaaGreatW00
import Derived.Test.YtdibbemgpikgjaaGreatW09
import Derived.Test.YtdibbemgpikgjaaGreatW22
import Derived.Test.YtdibbemgpikgjaaGreatW23
set_option maxRecDepth 10000
set_option maxHeartbeats 8000000
namespace Go.Proofs.YtdibbemgpikgjaaGreat
open Go Go.RowKit
structure Ej where
 x:EY
 G:Option Addr
 O:Option Addr
 gc:Nat
 oc:Nat
def Ej.cells (v:Ej):List Value:=(mf v.x v.G v.O v.gc v.oc).toList
structure Gq (w:World) (B:Nat) (v:Ej):Prop where
 gl:v.x.dW.length≤9223372036854775807
 ol:v.x.iK.length≤9223372036854775807
 g:aB w B v.G (v.x.dW.map Extern.Stop.cell)
 o:aB w B v.O (v.x.iK.map Extern.Stop.cell)
theorem Gq.keep {w w':World} {B:Nat} {v:Ej} (h:Gq w B v) (hb:Below B w w'):Gq w' B v:=⟨h.gl,h.ol,h.g.keep hb,h.o.keep hb⟩
theorem Gq.more {w:World} {B B':Nat} {v:Ej} (h:Gq w B v) (hB:B≤B'):Gq w B' v:=⟨h.gl,h.ol,h.g.more hB,h.o.more hB⟩
structure IZ where
 A:Option Addr
 c:Nat
 vs:List Ej
 wd:UInt8
def IZ.cells (x:IZ):Array Value:= #[.slice x.A x.vs.length x.c,Extern.Stop.cell x.wd]
structure Ei (w:World) (B:Nat) (x:IZ):Prop where
 len:x.vs.length≤9223372036854775807
 row:aB w B x.A (x.vs.flatMap Ej.cells)
 each:∀v∈x.vs,Gq w B v
theorem Ei.keep {w w':World} {B:Nat} {x:IZ} (h:Ei w B x) (hb:Below B w w'):Ei w' B x:=⟨h.len,h.row.keep hb,fun v hv=>(h.each v hv).keep hb⟩
theorem Ei.more {w:World} {B B':Nat} {x:IZ} (h:Ei w B x) (hB:B≤B'):Ei w B' x:=⟨h.len,h.row.more hB,fun v hv=>(h.each v hv).more hB⟩
theorem LV.of {lo lo':Nat} {v:Value} {W:World} {A:Option Addr} {cs:List Value} (h:aB W W.heap.size A cs) (h2:sW lo' A cs) (hlo:lo≤lo') (hv:∀b,lo'≤b→some b≠v.ownBlock):LV lo v W A cs:=by
 rcases h with h|⟨b,off,e,hb,hc⟩
 ·exact .inl h
 ·rcases h2 with h2|⟨b2,xH,e2,hl⟩
  ·exact .inl h2
  ·rw [e] at e2;injection e2 with e2;injection e2 with e3 e4;subst e3;exact .inr ⟨b,off,e,by omega,hb,hv b hl,hc⟩
theorem gQ.of {lo lo':Nat} {v:Value} {W:World} {s:Zs} {z:Zn} (h:jR W W.heap.size s z) (h2:I8 lo' s z) (hlo:lo≤lo') (hv:∀b,lo'≤b→some b≠v.ownBlock):gQ lo v W s z:=
 ⟨.of h.aj h2.1 hlo hv, .of h.rules h2.2.1 hlo hv, .of h.trans h2.2.2.1 hlo hv, .of h.az h2.2.2.2 hlo hv⟩
structure pW (w:World) (ib:Array Value) (T:Tb) (k:Nat) (Az:Option Addr) (cz:Nat) (ys:List dA) (W:World):Prop where
 it:AV w.heap.size 80 ib W
 r:AV (w.heap.size+1) 32 (ai bn (.slice none 0 0)) W
 t:AV (w.heap.size+2) 32 (ai T (.slice Az k cz)) W
 lo:Below w.heap.size w W
 own:W.ownsRow (w.heap.size+3) 55 9 (.slice Az k cz) k (aP ys)
 mem:∀y∈ys,gQ (w.heap.size+3) (.slice Az k cz) W y.s y.e.z
section
variable {w W W':World} {ib:Array Value} {T:Tb} {k cz:Nat} {Az:Option Addr} {ys:List dA}
theorem pW.grow (h:pW w ib T k Az cz ys W) (hb:Below W.heap.size W W'):pW w ib T k Az cz ys W':=
 ⟨h.it.below hb,h.r.below hb,h.t.below hb,ah h.lo hb,own_below h.own hb,fun y hy=>(h.mem y hy).keep hb.size fun b _ h2 h3=>⟨hb.block b h2,h3⟩⟩
theorem pW.drew (h:pW w ib T k Az cz ys W):pW w ib T k Az cz ys W.drew:=h.grow ((Below.refl _ W).drew)
theorem pW.lt (h:pW w ib T k Az cz ys W):w.heap.size+2<W.heap.size:=h.t.lt
theorem pW.qQ (h:pW w ib T k Az cz ys W):∀b,W.heap.size≤b→some b≠(Value.slice Az k cz).ownBlock:=fun b hb e=>by
 have:=World.ownsRow.lt h.own b e.symm;omega
theorem pW.add {Wb w6:World} {gg cap:Nat} {y:dA} (h:pW w ib T k Az cz ys W) (hy:gQ (w.heap.size+3) (.slice Az k cz) W y.s y.e.z) (GM:Wb=W.alloc (.cells y.cells 55))
  (hown:w6.ownsRow (w.heap.size+3) 55 9 (.slice (some ⟨gg,0,none⟩) (k+1) cap) (k+1) (aP ys++y.cells.toList)) (hg:Wb.grownBy w6 (Value.slice Az k cz).ownBlock) (hat:(Value.slice Az k cz).ownBlock=some gg∨gg=Wb.heap.size):
  pW w ib T (k+1) (some ⟨gg,0,none⟩) cap (ys++ [y]) (w6.setCell ⟨w.heap.size+2,3,none⟩ (.slice (some ⟨gg,0,none⟩) (k+1) cap)):=by
 have hsb:Wb.heap.size=W.heap.size+1:=by rw [GM];simp
 have hlt:=h.lt;have hs6:W.heap.size≤w6.heap.size:=by have:=hg.size;omega
 have hbl:∀b,b<W.heap.size→some b≠(Value.slice Az k cz).ownBlock→w6.heap[b]? =W.heap[b]? :=fun b hb hn=>
  (hg.block b (by omega) hn).trans (by rw [GM];exact Below.heap_alloc W _ b hb)
 have hlow:∀b,b<w.heap.size+3→some b≠(Value.slice Az k cz).ownBlock:=eG h.own;have hgg:=fM hown;have hset:∀b,b≠w.heap.size+2→(w6.setCell ⟨w.heap.size+2,3,none⟩ (.slice (some ⟨gg,0,none⟩) (k+1) cap)).heap[b]? =w6.heap[b]? :=fun b hb=>heap_setCell_other w6 ⟨w.heap.size+2,3,none⟩ b _ hb;have hsz:(w6.setCell ⟨w.heap.size+2,3,none⟩ (.slice (some ⟨gg,0,none⟩) (k+1) cap)).heap.size=w6.heap.size:=by simp [World.setCell]
 have hmm:∀b,w.heap.size+3≤b→b<W.heap.size→some b≠(Value.slice Az k cz).ownBlock→(w6.setCell ⟨w.heap.size+2,3,none⟩ (.slice (some ⟨gg,0,none⟩) (k+1) cap)).heap[b]? =W.heap[b]? ∧some b≠(Value.slice (some ⟨gg,0,none⟩) (k+1) cap).ownBlock:=fun b h1 h2 h3=>by
  refine ⟨(hset b (by omega)).trans (hbl b h2 h3),fun e=>?_⟩;have e2:b=gg:=by simpa [Value.ownBlock] using e
  rcases hat with e3|e3
  ·exact h3 (by rw [e2];exact e3.symm)
  ·omega
 refine ⟨⟨(hset _ (by omega)).trans ((hbl _ (by omega) (hlow _ (by omega))).trans h.it.var)⟩,⟨(hset _ (by omega)).trans ((hbl _ (by omega) (hlow _ (by omega))).trans h.r.var)⟩,?_,?_,?_,?_⟩
 ·have h1:AV (w.heap.size+2) 32 (ai T (.slice Az k cz)) w6:=⟨(hbl _ (by omega) (hlow _ (by omega))).trans h.t.var⟩;have h2:=h1.put 3 (.slice (some ⟨gg,0,none⟩) (k+1) cap);rw [lM] at h2;exact h2
 ·have h1:Below w.heap.size w Wb:=by rw [GM];exact ah h.lo (ag W _)
  have hob:Wb.ownsRow (w.heap.size+3) 55 9 (.slice Az k cz) k (aP ys):=by rw [GM];exact own_below h.own (ag W _)
  exact (bZ h1 (aX hob (by omega)) (by omega) hg).setCell (p:=⟨w.heap.size+2,3,none⟩) (show w.heap.size≤w.heap.size+2 by omega) _
 ·have h1:=dn (p:=⟨w.heap.size+2,3,none⟩) (u:= .slice (some ⟨gg,0,none⟩) (k+1) cap) hown (fun e=>absurd (show w.heap.size+2=gg by simpa [Value.ownBlock] using e) (by omega));have e:aP (ys++ [y])=aP ys++y.cells.toList:=by simp [aP]
  rw [e];exact h1
 ·intro y' hy';rcases List.mem_append.1 hy' with h1|h1
  ·exact (h.mem y' h1).keep (by rw [hsz];exact hs6) hmm
  ·obtain rfl:=List.mem_singleton.1 h1;exact hy.keep (by rw [hsz];exact hs6) hmm
end
theorem jU (W:World) (bb:Nat) (x:Int) (h:W.heap[bb]? =some (.cells #[.int .u8 x] 5 (0,0))):(convert 22 9 (.slice (some ⟨bb,0,none⟩) 1 1)).run Tryz.prog W= .ok (.string ⟨#[UInt8.ofNat x.toNat]⟩) W:=by
 have e:(⟨#[UInt8.ofNat x.toNat]⟩:ByteArray)=strOfNums [x]:=rfl;rw [e];refine run_convert_bytes_arg _ _ _ Tryz.underlying22 Tryz.underlying5 bb 0 1 1 [x] rfl (fun i hi=>?_) _ Tryz.underlying9;have:i=0:=by omega
 subst this;exact cell_of_row W bb 0 _ _ _ h
theorem iZ (k:Nat):(⟨#[122]⟩:ByteArray)++⟨#[UInt8.ofNat (97+(k:Int)).toNat]⟩=aU k:=by
 have e:(97+(k:Int)).toNat=97+k:=by omega
 rw [e];rfl
def xG (vs:List Ej):List Ze:=(vs.take 3).mapIdx fun i v=>⟨aU i,jK v.x⟩
theorem MW (vs:List Ej) (k:Nat) (v:Ej) (hv:vs[k]? =some v):(vs.take (k+1)).mapIdx (fun i v=>(⟨aU i,jK v.x⟩:Ze))=(vs.take k).mapIdx (fun i v=>(⟨aU i,jK v.x⟩:Ze))++ [⟨aU k,jK v.x⟩]:=by
 have hk:=(iP.1 hv).1;have e:vs.take (k+1)=vs.take k++ [v]:=by
  rw [List.take_add_one,hv];rfl
 rw [e,List.mapIdx_append];simp [List.length_take,Nat.min_eq_left (Nat.le_of_lt hk)]
def eY (w:World) (zb zo m ic k:Nat) (v:Ej) (W:World):Prop:=W.cell? ⟨w.heap.size,0,none⟩=some (.slice (some ⟨zb,zo,none⟩) m ic)∧W.rangeAt zb (zo+k*14) v.cells
theorem eY.of {w W:World} {zb zo m ic k:Nat} {v:Ej} {x:Value} (hit:AV w.heap.size 80 #[.slice (some ⟨zb,zo,none⟩) m ic,x] W) (hlo:Below w.heap.size w W) (hr:w.rangeAt zb (zo+k*14) v.cells) (hb:zb<w.heap.size):eY w zb zo m ic k v W:=
 ⟨hit.cell 0,aW hr hlo hb⟩
theorem gQ.grow {lo:Nat} {v:Value} {W W':World} {s:Zs} {z:Zn} (h:gQ lo v W s z) (hb:Below W.heap.size W W'):gQ lo v W' s z:=h.keep hb.size fun b _ h2 h3=>⟨hb.block b h2,h3⟩
theorem pW.start (w:World) (ib:Array Value) (T:Tb) (z:Array Value):pW w ib T 0 none 0 [] ((((w.alloc (.cells ib 80)).alloc (.cells (ai bn (.slice none 0 0)) 32)).alloc (.cells z 32)).setRow (w.heap.size+2) (ai T (.slice none 0 0))):=by
 obtain ⟨W,hW⟩:∃W,(w.alloc (.cells ib 80)).alloc (.cells (ai bn (.slice none 0 0)) 32)=W:=⟨_,rfl⟩;have hs:W.heap.size=w.heap.size+2:=by rw [←hW];simp
 have hb:Below w.heap.size w W:=by rw [←hW];exact ah (ag w _) (ag _ _)
 have h1:AV w.heap.size 80 ib W:=by rw [←hW];exact ⟨heap_alloc2_old w _ _⟩
 have h2:AV (w.heap.size+1) 32 (ai bn (.slice none 0 0)) W:=by rw [←hW];exact ⟨heap_alloc2_new w _ _⟩
 have h3:=AV.new W z 32;rw [hs] at h3;rw [hW];have hb2:=ag W (.cells z 32);exact ⟨(h1.below hb2).qW (by omega) _,(h2.below hb2).qW (by omega) _,h3.oH _,aC (ah hb hb2) (by omega) _,World.ownsRow_nil _ _ _ _,fun _ h=>nomatch h⟩
theorem pW.mid {w W w6:World} {ib:Array Value} {T:Tb} {k cz:Nat} {Az:Option Addr} {ys:List dA} (h:pW w ib T k Az cz ys W) (o:Obj) (hg:(W.alloc o).grownBy w6 (Value.slice Az k cz).ownBlock):AV w.heap.size 80 ib w6∧AV (w.heap.size+2) 32 (ai T (.slice Az k cz)) w6∧Below w.heap.size w w6:=by
 have hlt:=h.lt;have hbl:∀b,b<W.heap.size→some b≠(Value.slice Az k cz).ownBlock→w6.heap[b]? =W.heap[b]? :=fun b hb hn=>
  (hg.block b (by simp;omega) hn).trans (Below.heap_alloc W _ b hb)
 have hlow:∀b,b<w.heap.size+3→some b≠(Value.slice Az k cz).ownBlock:=eG h.own;exact ⟨⟨(hbl _ (by omega) (hlow _ (by omega))).trans h.it.var⟩,⟨(hbl _ (by omega) (hlow _ (by omega))).trans h.t.var⟩,bZ (ah h.lo (ag W o)) (aX (own_below h.own (ag W o)) (by omega)) (by simp;omega) hg⟩
theorem xI {w w':World} {lo e size n:Nat} {v:Value} {xs:List Value} (h:w.ownsRow lo e size v n xs) (_hs:w.heap.size≤w'.heap.size) (hb:∀b,lo≤b→b<w.heap.size→w'.heap[b]? =w.heap[b]?):w'.ownsRow lo e size v n xs:=by
 refine ⟨h.1,?_⟩;rcases h.2 with h2|⟨g,cap,cur,h1,h2,h3,h4⟩
 ·exact .inl h2
 ·exact .inr ⟨g,cap,cur,h1,h2,(hb g h2 (bY.1 h3).1).trans h3,h4⟩
theorem JO:∀(vs pre old suf:List Value),old.length=vs.length→xN (pre++old++suf).toArray pre.length vs=(pre++vs++suf).toArray
 | [],pre,old,suf,h=>by
  have:old= []:=List.eq_nil_of_length_eq_zero h;simp [xN,this]
 |v::r,pre,old,suf,h=>by
  obtain ⟨x,old',rfl⟩:∃x old',old=x::old':=by
   cases old with
   |nil=>simp at h
   |cons x o=>exact ⟨x,o,rfl⟩
  have h2:=JO r (pre++ [v]) old' suf (by simpa using h);have e:(pre++x::old'++suf).toArray.setIfInBounds pre.length v=((pre++ [v])++old'++suf).toArray:=by simp
  unfold xN;rw [e];simpa using h2
theorem J3 (t:Tb) (v:Value) (m:List UInt8) (h1:t.prev.length=32) (h2:m.length=32):xN (ai t v) 4 (au m)=ai {t with prev:=m} v:=by
 have h:=JO (au m) [I t.bC,I t.version,I t.aH,v] (au t.prev) (au t.bJ) (by simp [au,h1,h2]);have e1:ai t v=([I t.bC,I t.version,I t.aH,v]++au t.prev++au t.bJ).toArray:=by simp [ai,kV]
 have e2:ai {t with prev:=m} v=([I t.bC,I t.version,I t.aH,v]++au m++au t.bJ).toArray:=by simp [ai,kV]
 rw [e1,e2];exact h
theorem pW.prev {w W:World} {ib:Array Value} {T:Tb} {k cz:Nat} {Az:Option Addr} {ys:List dA} (h:pW w ib T k Az cz ys W) (hp:T.prev.length=32) (d:List UInt8) (hd:d.length=32):
  pW w ib {T with prev:=d} k Az cz ys (W.setCells (w.heap.size+2) 4 (cD d).toList):=by
 have ho:∀b,b≠w.heap.size+2→(W.setCells (w.heap.size+2) 4 (cD d).toList).heap[b]? =W.heap[b]? :=fun b hb=>nY _ _ _ _ b hb;have hs:(W.setCells (w.heap.size+2) 4 (cD d).toList).heap.size=W.heap.size:=uz _ _ _ _;have ht:=h.t.setQ 4 (cD d).toList;rw [show xN _ 4 (cD d).toList=_ from J3 T _ d hp hd] at ht;refine ⟨h.it.WV (by omega) _ _,h.r.WV (by omega) _ _,ht,jv (by omega) _ _ _ h.lo,?_,fun y hy=>(h.mem y hy).keep (by rw [hs];omega) fun b h1 h2 h3=>⟨ho b (by omega),h3⟩⟩;exact xI h.own (by rw [hs];omega) fun b h1 _=>ho b (by omega)
theorem pW.fin {w W:World} {ib:Array Value} {T:Tb} {k cz:Nat} {Az:Option Addr} {ys:List dA} (h:pW w ib T k Az cz ys W) (hp:T.prev.length=32) (hm:T.bJ.length=32) (cs:Array Value):
  lS (W.setRow (w.heap.size+1) cs) (W.setRow (w.heap.size+1) cs).heap.size ⟨{T with aK:=ys.map (·.e)},Az,cz,ys⟩∧Below w.heap.size w (W.setRow (w.heap.size+1) cs):=by
 have ho:∀b,b≠w.heap.size+1→(W.setRow (w.heap.size+1) cs).heap[b]? =W.heap[b]? :=fun b hb=>setRow_other _ _ b _ hb;have hs:(W.setRow (w.heap.size+1) cs).heap.size=W.heap.size:=by simp [World.setRow]
 have h1:pW w ib T k Az cz ys W:=h;refine ⟨⟨rfl,hp,hm,⟨aB.fA (xI h.own (by rw [hs];omega) fun b h1 _=>ho b (by omega)),fun y hy=>((h.mem y hy).keep (v':= .slice Az k cz) (by rw [hs];omega) fun b h1 h2 h3=>⟨ho b (by omega),h3⟩).at⟩⟩,aC h.lo (Nat.le_succ _) _⟩
theorem lI (y:dA):∀u∈y.cells.toList,u.oneCell'=true:=by
 have h:=wW [y];simpa [aP] using h
def vN (lo:Nat) (y:fH):Prop:=sW lo y.A (aP y.zs)∧∀z∈y.zs,I8 lo z.s z.e.z
theorem LV.low {lo lo':Nat} {v:Value} {W:World} {A:Option Addr} {cs:List Value} (h:LV lo v W A cs) (hl:lo'≤lo):sW lo' A cs:=by
 rcases h with h|⟨b,off,h1,h2,_⟩
 ·exact .inl h
 ·exact .inr ⟨b,off,h1,Nat.le_trans hl h2⟩
theorem pW.low {w W:World} {ib:Array Value} {T T':Tb} {k cz:Nat} {Az:Option Addr} {ys:List dA} (h:pW w ib T k Az cz ys W):vN w.heap.size ⟨T',Az,cz,ys⟩:=by
 refine ⟨?_,fun y hy=>?_⟩
 ·rcases h.own.2 with ⟨hv,hn⟩|⟨g,cap,cur,hv,hg,_⟩
  ·refine .inl ?_;show (aP ys).length=0;rw [h.own.1,hn,Nat.zero_mul]
  ·injection hv with h1 _ _;exact .inr ⟨g,0,h1,by omega⟩
 ·obtain ⟨h1,h2,h3,h4⟩:=h.mem y hy;exact ⟨h1.low (by omega),h2.low (by omega),h3.low (by omega),h4.low (by omega)⟩
def Y3 (w:World) (n:Nat) (JD:UInt8) (x:IZ) (e:Ending) (w':World):Prop:=
 ∃y:fH,e= .returned (.agg (ai y.t (.slice y.A y.zs.length y.c)))∧lS w' w'.heap.size y∧y.t.bC=(JD.toNat:Int)%16∧y.t.version=(n:Int)+1∧y.t.aH=(x.wd.toNat:Int)%((n:Int)+1)∧(n=0→y.t.prev=aS)∧y.t.aK=xG x.vs∧vN w.heap.size y∧Below w.heap.size w w'
theorem rP:(Tryz.prog.info? 32).map (fun i=>(i.zero,i.size,i.bytes))=some (some (.agg (ai bn (.slice none 0 0))),68,112):=by kernel_rfl
section
variable {ops:Array Oper} {rest:List Oper} {o:Oper} {a:Act} {Q:Exit→Act→World→Prop} {w:World}
theorem wS (hgd:o.guard=none) (x:Operand) (ho:o.op= .buildSlice 39 1 #[(0,x)]) (cs:Array Value) (hcs:cs.size=68)
  (hx:a.eval x= .agg cs) (h:wpList Tryz.prog ops Q rest (a.put o.dst (.slice (some ⟨w.heap.size,0,none⟩) 1 1)) (w.alloc (.cells cs 32))):wpList Tryz.prog ops Q (o::rest) a w:=by
 obtain ⟨i0,hi,hz0,hz1,hz2⟩:=info_parts rP;refine wpList_buildSlice hgd 39 32 1 _ ho cs i0 (.agg (ai bn (.slice none 0 0))) Tryz.underlying39 hi hz0 (by rw [hz1];decide) (by rw [hz1];decide) ?_ h;rw [hz1];simp only [List.map_toArray,List.map_cons,List.map_nil,hx];have h:=Go.Great.fill_whole (s:=68) (by omega) [.agg cs] ((Array.range (1*68)).map ((Value.agg (ai bn (.slice none 0 0))).cells[· %(Value.agg (ai bn (.slice none 0 0))).cells.size]!)) (fun v hv=>by simp at hv;subst hv;exact hcs) (by simp);have e:([Value.agg cs].flatMap fun v=>v.cells.toList).toArray=cs:=by simp [Value.cells]
 rw [e] at h;exact h
theorem rJ {P:Program} (ty:TypeId) {n:Nat} {x:Array (Nat×Operand)} {d:Option Tmp} {t:TypeId} {pos:String} {af:Array Edge} {g:Option (Nat×Bool)} (h:wpList P ops Q (⟨d, .buildSlice ty n x,t,pos,af,g⟩::rest) a w):wpList P ops Q (⟨d, .buildSlice ty n x,t,pos,af,g⟩::rest) a w:=h
end
structure oQ where
 JD:UInt8
 key:List UInt8
 A:Option Addr
 c:Nat
 its:List IZ
def oQ.cells (r:oQ):List Value:=Extern.Stop.cell r.JD::(au r.key++ [.slice r.A r.its.length r.c])
theorem oQ.len (r:oQ) (h:r.key.length=32):r.cells.length=34:=by simp [oQ.cells,au,h]
structure vM (w:World) (B:Nat) (r:oQ):Prop where
 key:r.key.length=32
 len:r.its.length≤9223372036854775807
 row:aB w B r.A (r.its.flatMap fun x=>x.cells.toList)
 each:∀x∈r.its,Ei w B x
theorem vM.keep {w w':World} {B:Nat} {r:oQ} (h:vM w B r) (hb:Below B w w'):vM w' B r:=⟨h.key,h.len,h.row.keep hb,fun v hv=>(h.each v hv).keep hb⟩
theorem vM.more {w:World} {B B':Nat} {r:oQ} (h:vM w B r) (hB:B≤B'):vM w B' r:=⟨h.key,h.len,h.row.more hB,fun v hv=>(h.each v hv).more hB⟩
theorem XT {W:World} {b:Nat} {r:oQ} (h:pX W b r.cells.toArray):W.rangeAt b 1 (au r.key):=fun j v hv=>by
 rw [h.2 (1+j)];unfold oQ.cells;have hj:=(iP.1 hv).1;rw [List.getElem?_toArray,Nat.add_comm 1 j,List.getElem?_cons_succ,List.getElem?_append_left hj];exact hv
theorem O1 (r:oQ) (h:r.key.length=32):r.cells.toArray[33]? =some (.slice r.A r.its.length r.c):=by
 unfold oQ.cells;rw [List.getElem?_toArray,show (33:Nat)=32+1 from rfl,List.getElem?_cons_succ,List.getElem?_append_right (by simp [au,h])];simp [au,h]
theorem LV.Xz {lo lo' B:Nat} {v:Value} {W:World} {A:Option Addr} {cs:List Value} (h:aB W B A cs) (hB:B≤W.heap.size) (h2:sW lo' A cs) (hlo:lo≤lo') (hv:∀b,lo'≤b→b<B→some b≠v.ownBlock):LV lo v W A cs:=by
 rcases h with h|⟨b,off,e,hb,hc⟩
 ·exact .inl h
 ·rcases h2 with h2|⟨b2,xH,e2,hl⟩
  ·exact .inl h2
  ·rw [e] at e2;injection e2 with e2;injection e2 with e3 e4;subst e3;exact .inr ⟨b,off,e,by omega,by omega,hv b hl hb,hc⟩
theorem jd.of {lo lo' B:Nat} {v:Value} {W:World} {y:fH} (h:lS W B y) (hB:B≤W.heap.size) (h2:vN lo' y) (hlo:lo≤lo') (hv:∀b,lo'≤b→b<B→some b≠v.ownBlock):jd lo v W y:=
 ⟨.Xz h.aK.row hB h2.1 hlo hv,fun z hz=>⟨.Xz (h.aK.each z hz).aj hB (h2.2 z hz).1 hlo hv, .Xz (h.aK.each z hz).rules hB (h2.2 z hz).2.1 hlo hv, .Xz (h.aK.each z hz).trans hB (h2.2 z hz).2.2.1 hlo hv, .Xz (h.aK.each z hz).az hB (h2.2 z hz).2.2.2 hlo hv⟩⟩
theorem LV.xE {lo lo':Nat} {v:Value} {W:World} {A:Option Addr} {cs:List Value} (h:LV lo v W A cs) (hl:lo'≤lo):LV lo' v W A cs:=by
 rcases h with h|⟨b,off,h1,h2,h3⟩
 ·exact .inl h
 ·exact .inr ⟨b,off,h1,Nat.le_trans hl h2,h3⟩
theorem LV.vary {lo:Nat} {v v':Value} {W:World} {A:Option Addr} {cs:List Value} (h:LV lo v W A cs) (hv:∀b,lo≤b→b<W.heap.size→some b≠v'.ownBlock):LV lo v' W A cs:=by
 rcases h with h|⟨b,off,h1,h2,h3,h4,h5⟩
 ·exact .inl h
 ·exact .inr ⟨b,off,h1,h2,h3,hv b h2 h3,h5⟩
theorem jd.vary {lo lo':Nat} {v v':Value} {W:World} {y:fH} (h:jd lo v W y) (hl:lo'≤lo) (hv:∀b,lo≤b→b<W.heap.size→some b≠v'.ownBlock):jd lo' v' W y:=
 ⟨(h.1.vary hv).xE hl,fun z hz=>⟨((h.2 z hz).1.vary hv).xE hl,((h.2 z hz).2.1.vary hv).xE hl,((h.2 z hz).2.2.1.vary hv).xE hl,((h.2 z hz).2.2.2.vary hv).xE hl⟩⟩
theorem jd.low {lo lo':Nat} {v:Value} {W:World} {y:fH} (h:jd lo v W y) (hl:lo'≤lo):vN lo' y:=⟨h.1.low hl,fun z hz=>⟨(h.2 z hz).1.low hl,(h.2 z hz).2.1.low hl,(h.2 z hz).2.2.1.low hl,(h.2 z hz).2.2.2.low hl⟩⟩
structure TbF (y:fH):Prop where
 made:IB y.t
 names:y.t.aK=y.zs.map (·.e)
 prev:y.t.prev.length=32
 bJ:y.t.bJ.length=32
theorem TbF.size {y:fH} (h:TbF y):y.cells.length=68:=by
 have:=aZ y.t (.slice y.A y.zs.length y.c) h.prev h.bJ;simpa [ai,fH.cells] using this
theorem TbF.at {y:fH} (h:TbF y) {lo:Nat} {v:Value} {W:World} (hm:jd lo v W y):lS W W.heap.size y:=⟨h.names,h.prev,h.bJ,⟨hm.1.at,fun z hz=>(hm.2 z hz).at⟩⟩
structure yM (w:World) (rc:Array Value) (k c:Nat) (A:Option Addr) (ts:List fH) (W:World):Prop where
 it:AV w.heap.size 27 rc W
 lo:Below w.heap.size w W
 own:W.ownsRow (w.heap.size+1) 32 68 (.slice A k c) k (ts.flatMap fH.cells)
 mem:∀y∈ts,jd (w.heap.size+1) (.slice A k c) W y
 each:∀y∈ts,TbF y
section
variable {w W W':World} {rc:Array Value} {k c:Nat} {A:Option Addr} {ts:List fH}
theorem yM.step (h:yM w rc k c A ts W) (ho:W'.os=W.os) (htp:W'.tape=W.tape) (hou:W'.output=W.output) (hs:W.heap.size≤W'.heap.size) (hb:∀b,b<W.heap.size→W'.heap[b]? =W.heap[b]?):yM w rc k c A ts W':=
 have hB:Below W.heap.size W W':=⟨ho,htp,hou,hs,hb⟩
 ⟨h.it.below hB,ah h.lo hB,own_below h.own hB,fun y hy=>(h.mem y hy).keep hs fun b _ h2 h3=>⟨hb b h2,h3⟩,h.each⟩
theorem yM.grow (h:yM w rc k c A ts W) (hb:Below W.heap.size W W'):yM w rc k c A ts W':=h.step hb.os hb.tape hb.output hb.size hb.block
theorem yM.drew (h:yM w rc k c A ts W):yM w rc k c A ts W.drew:=h.grow ((Below.refl _ W).drew)
theorem yM.lt (h:yM w rc k c A ts W):w.heap.size<W.heap.size:=h.it.lt
theorem yM.chain (h:yM w rc k c A ts W):kU W W.heap.size A ts:=⟨aB.fA h.own,fun y hy=>(h.each y hy).at (h.mem y hy)⟩
theorem yM.qQ (h:yM w rc k c A ts W):∀b,W.heap.size≤b→some b≠(Value.slice A k c).ownBlock:=fun b hb e=>by
 have:=World.ownsRow.lt h.own b e.symm;omega
theorem yM.add {Wb w6:World} {gg cap:Nat} {y:fH} (h:yM w rc k c A ts W) (hy:jd (w.heap.size+1) (.slice A k c) W y) (hf:TbF y) (GM:Wb=W.alloc (.cells y.cells.toArray 32))
  (hown:w6.ownsRow (w.heap.size+1) 32 68 (.slice (some ⟨gg,0,none⟩) (k+1) cap) (k+1) (ts.flatMap fH.cells++y.cells)) (hg:Wb.grownBy w6 (Value.slice A k c).ownBlock) (hat:(Value.slice A k c).ownBlock=some gg∨gg=Wb.heap.size):
  yM w rc (k+1) cap (some ⟨gg,0,none⟩) (ts++ [y]) w6:=by
 have hsb:Wb.heap.size=W.heap.size+1:=by rw [GM];simp
 have hlt:=h.lt;have hs6:W.heap.size≤w6.heap.size:=by have:=hg.size;omega
 have hbl:∀b,b<W.heap.size→some b≠(Value.slice A k c).ownBlock→w6.heap[b]? =W.heap[b]? :=fun b hb hn=>
  (hg.block b (by omega) hn).trans (by rw [GM];exact Below.heap_alloc W _ b hb)
 have hlow:∀b,b<w.heap.size+1→some b≠(Value.slice A k c).ownBlock:=eG h.own;have hmm:∀b,w.heap.size+1≤b→b<W.heap.size→some b≠(Value.slice A k c).ownBlock→w6.heap[b]? =W.heap[b]? ∧some b≠(Value.slice (some ⟨gg,0,none⟩) (k+1) cap).ownBlock:=fun b h1 h2 h3=>by
  refine ⟨hbl b h2 h3,fun e=>?_⟩;have e2:b=gg:=by simpa [Value.ownBlock] using e
  rcases hat with e3|e3
  ·exact h3 (by rw [e2];exact e3.symm)
  ·omega
 have h1:Below w.heap.size w Wb:=by rw [GM];exact ah h.lo (ag W _)
 have hob:Wb.ownsRow (w.heap.size+1) 32 68 (.slice A k c) k (ts.flatMap fH.cells):=by rw [GM];exact own_below h.own (ag W _)
 refine ⟨⟨(hbl _ (by omega) (hlow _ (by omega))).trans h.it.var⟩,bZ h1 (aX hob (by omega)) (by omega) hg,by simpa using hown,fun y' hy'=>?_,fun y' hy'=>?_⟩
 ·rcases List.mem_append.1 hy' with h1|h1
  ·exact (h.mem y' h1).keep hs6 hmm
  ·obtain rfl:=List.mem_singleton.1 h1;exact hy.keep hs6 hmm
 ·rcases List.mem_append.1 hy' with h1|h1
  ·exact h.each y' h1
  ·obtain rfl:=List.mem_singleton.1 h1;exact hf
end
def yL (w:World) (r:oQ) (ib io n k:Nat) (x:IZ) (W:World):Prop:=
 W.cell? ⟨w.heap.size,0,none⟩=some (.int .u8 (r.JD.toNat:Int))∧W.cell? ⟨w.heap.size,33,none⟩=some (.slice (some ⟨ib,io,none⟩) n r.c)∧W.rangeAt w.heap.size 1 (au r.key)∧W.rangeAt ib (io+k*2) x.cells.toList
theorem yL.of {w W:World} {r:oQ} {ib io n k:Nat} {x:IZ} (hk:r.key.length=32) (hn:r.its.length=n) (hA:r.A=some ⟨ib,io,none⟩) (hit:AV w.heap.size 27 r.cells.toArray W) (hlo:Below w.heap.size w W) (hr:w.rangeAt ib (io+k*2) x.cells.toList) (hb:ib<w.heap.size):yL w r ib io n k x W:=
 ⟨hit.cell 0,by rw [hit.cell 33,O1 r hk,hn,hA],XT hit.lu,aW hr hlo hb⟩
theorem FO (vs:List Ej) (k:Nat) (e:Ze) (h:(xG vs)[k]? =some e):k<3∧∃v:Ej,e=⟨aU k,jK v.x⟩:=by
 unfold xG at h;rw [List.getElem?_mapIdx] at h;cases hv:(vs.take 3)[k]? with
 |none=>rw [hv] at h;cases h
 |some v=>
  rw [hv] at h;have hk:=(iP.1 hv).1;rw [List.length_take] at hk;injection h with h;exact ⟨by omega,v,h.symm⟩
theorem Qp (vs:List Ej):(xG vs).length≤3:=by
 unfold xG;rw [List.length_mapIdx,List.length_take];omega
theorem JZ {n:Nat} {JD:UInt8} {x:IZ} {y:fH} (hn:n≤4) (h1:y.t.bC=(JD.toNat:Int)%16) (h2:y.t.version=(n:Int)+1) (h3:y.t.aH=(x.wd.toNat:Int)%((n:Int)+1)) (h4:n=0→y.t.prev=aS) (h5:y.t.aK=xG x.vs):IB y.t:=by
 have hb:=gy JD;have hw1:0≤(x.wd.toNat:Int)%((n:Int)+1):=Int.emod_nonneg _ (by omega);have hw2:(x.wd.toNat:Int)%((n:Int)+1)<(n:Int)+1:=Int.emod_lt_of_pos _ (by omega);refine ⟨by rw [h1];omega,by rw [h2];omega,by rw [h3,h2];exact ⟨hw1,hw2⟩,fun h=>h4 (by rw [h2] at h;omega),by rw [h5];exact Qp _,fun e he=>?_,fun k e he=>?_⟩
 ·rw [h5] at he;obtain ⟨k,hk⟩:=List.getElem?_of_mem he;obtain ⟨_,v,rfl⟩:=FO _ _ _ hk;exact Ql v.x
 ·rw [h5] at he;obtain ⟨_,v,rfl⟩:=FO _ _ _ he;rfl
theorem IB.sealed {t:Tb} (h:IB t) (d:List UInt8):IB {t with bJ:=d}:=⟨h.bC,h.version,h.aH,h.first,h.num,h.aK,h.names⟩
end Go.Proofs.YtdibbemgpikgjaaGreat
