/- The texts Ld, Lea, Lf, Fb, Lg, Ea, in this order. -/
import Derived.Test.YtdibbemgpikgjaaGreatDoorY00
import Derived.Laws.BitsAllLaws
import Derived.Test.YtdibbemgpikgjaaGreatDoorY13
import Derived.Test.YtdibbemgpikgjaaGreatDoorY27
import Derived.Test.YtdibbemgpikgjaaGreatDoorY30
import Derived.Test.YtdibbemgpikgjaaGreatDoorY31
import Derived.Test.YtdibbemgpikgjaaGreatDoorY32
import Derived.Test.YtdibbemgpikgjaaGreatDoorY33
import Derived.Test.YtdibbemgpikgjaaGreatDoorY34
set_option maxRecDepth 10000
set_option maxHeartbeats 8000000
namespace Go.Proofs.YtdibbemgpikgjaaGreatDoor
open Go Go.RowKit
structure DN where
 x:Eu
 G:Option Addr
 O:Option Addr
 gc:Nat
 oc:Nat
def DN.cells (v:DN):List Value:=(lL v.x v.G v.O v.gc v.oc).toList
structure FK (w:World) (B:Nat) (v:DN):Prop where
 gl:v.x.dO.length≤9223372036854775807
 ol:v.x.iy.length≤9223372036854775807
 g:aA w B v.G (v.x.dO.map Extern.Stop.cell)
 o:aA w B v.O (v.x.iy.map Extern.Stop.cell)
theorem FK.keep {w w':World} {B:Nat} {v:DN} (h:FK w B v) (hb:Below B w w'):FK w' B v:=⟨h.gl,h.ol,h.g.keep hb,h.o.keep hb⟩
theorem FK.more {w:World} {B B':Nat} {v:DN} (h:FK w B v) (hB:B≤B'):FK w B' v:=⟨h.gl,h.ol,h.g.more hB,h.o.more hB⟩
structure Ih where
 A:Option Addr
 c:Nat
 vs:List DN
 wd:UInt8
def Ih.cells (x:Ih):Array Value:= #[.slice x.A x.vs.length x.c,Extern.Stop.cell x.wd]
structure DL (w:World) (B:Nat) (x:Ih):Prop where
 len:x.vs.length≤9223372036854775807
 row:aA w B x.A (x.vs.flatMap DN.cells)
 each:∀v∈x.vs,FK w B v
theorem DL.keep {w w':World} {B:Nat} {x:Ih} (h:DL w B x) (hb:Below B w w'):DL w' B x:=⟨h.len,h.row.keep hb,fun v hv=>(h.each v hv).keep hb⟩
theorem DL.more {w:World} {B B':Nat} {x:Ih} (h:DL w B x) (hB:B≤B'):DL w B' x:=⟨h.len,h.row.more hB,fun v hv=>(h.each v hv).more hB⟩
theorem LV.of {lo lo':Nat} {v:Value} {W:World} {A:Option Addr} {cs:List Value} (h:aA W W.heap.size A cs) (h2:sK lo' A cs) (hlo:lo≤lo') (hv:∀b,lo'≤b→some b≠v.ownBlock):LV lo v W A cs:=by
 rcases h with h|⟨b,off,e,hb,hc⟩
 ·exact .inl h
 ·rcases h2 with h2|⟨b2,xq,e2,hl⟩
  ·exact .inl h2
  ·rw [e] at e2;injection e2 with e2;injection e2 with e3 e4;subst e3;exact .inr ⟨b,off,e,by omega,hb,hv b hl,hc⟩
theorem gG.of {lo lo':Nat} {v:Value} {W:World} {s:Zs} {z:Zn} (h:jG W W.heap.size s z) (h2:Io lo' s z) (hlo:lo≤lo') (hv:∀b,lo'≤b→some b≠v.ownBlock):gG lo v W s z:=
 ⟨.of h.az h2.1 hlo hv, .of h.rules h2.2.1 hlo hv, .of h.trans h2.2.2.1 hlo hv, .of h.aN h2.2.2.2 hlo hv⟩
structure oK (w:World) (ib:Array Value) (T:Tb) (k:Nat) (Az:Option Addr) (cz:Nat) (ys:List dB) (W:World):Prop where
 it:AV w.heap.size 50 ib W
 r:AV (w.heap.size+1) 37 (ai bQ (.slice none 0 0)) W
 t:AV (w.heap.size+2) 37 (ai T (.slice Az k cz)) W
 lo:Below w.heap.size w W
 own:W.ownsRow (w.heap.size+3) 90 9 (.slice Az k cz) k (aO ys)
 mem:∀y∈ys,gG (w.heap.size+3) (.slice Az k cz) W y.s y.e.z
section
variable {w W W':World} {ib:Array Value} {T:Tb} {k cz:Nat} {Az:Option Addr} {ys:List dB}
theorem oK.grow (h:oK w ib T k Az cz ys W) (hb:Below W.heap.size W W'):oK w ib T k Az cz ys W':=
 ⟨h.it.below hb,h.r.below hb,h.t.below hb,ah h.lo hb,own_below h.own hb,fun y hy=>(h.mem y hy).keep hb.size fun b _ h2 h3=>⟨hb.block b h2,h3⟩⟩
theorem oK.drew (h:oK w ib T k Az cz ys W):oK w ib T k Az cz ys W.drew:=h.grow ((Below.refl _ W).drew)
theorem oK.lt (h:oK w ib T k Az cz ys W):w.heap.size+2<W.heap.size:=h.t.lt
theorem oK.qP (h:oK w ib T k Az cz ys W):∀b,W.heap.size≤b→some b≠(Value.slice Az k cz).ownBlock:=fun b hb e=>by
 have:=World.ownsRow.lt h.own b e.symm;omega
theorem oK.add {Wb w6:World} {gg cap:Nat} {y:dB} (h:oK w ib T k Az cz ys W) (hy:gG (w.heap.size+3) (.slice Az k cz) W y.s y.e.z) (Gg:Wb=W.alloc (.cells y.cells 90))
  (hown:w6.ownsRow (w.heap.size+3) 90 9 (.slice (some ⟨gg,0,none⟩) (k+1) cap) (k+1) (aO ys++y.cells.toList)) (hg:Wb.grownBy w6 (Value.slice Az k cz).ownBlock) (hat:(Value.slice Az k cz).ownBlock=some gg∨gg=Wb.heap.size):
  oK w ib T (k+1) (some ⟨gg,0,none⟩) cap (ys++ [y]) (w6.setCell ⟨w.heap.size+2,3,none⟩ (.slice (some ⟨gg,0,none⟩) (k+1) cap)):=by
 have hsb:Wb.heap.size=W.heap.size+1:=by rw [Gg];simp
 have hlt:=h.lt;have hs6:W.heap.size≤w6.heap.size:=by have:=hg.size;omega
 have hbl:∀b,b<W.heap.size→some b≠(Value.slice Az k cz).ownBlock→w6.heap[b]? =W.heap[b]? :=fun b hb hn=>
  (hg.block b (by omega) hn).trans (by rw [Gg];exact Below.heap_alloc W _ b hb)
 have hlow:∀b,b<w.heap.size+3→some b≠(Value.slice Az k cz).ownBlock:=eU h.own;have hgg:=kG hown;have hset:∀b,b≠w.heap.size+2→(w6.setCell ⟨w.heap.size+2,3,none⟩ (.slice (some ⟨gg,0,none⟩) (k+1) cap)).heap[b]? =w6.heap[b]? :=fun b hb=>heap_setCell_other w6 ⟨w.heap.size+2,3,none⟩ b _ hb;have hsz:(w6.setCell ⟨w.heap.size+2,3,none⟩ (.slice (some ⟨gg,0,none⟩) (k+1) cap)).heap.size=w6.heap.size:=by simp [World.setCell]
 have hmm:∀b,w.heap.size+3≤b→b<W.heap.size→some b≠(Value.slice Az k cz).ownBlock→(w6.setCell ⟨w.heap.size+2,3,none⟩ (.slice (some ⟨gg,0,none⟩) (k+1) cap)).heap[b]? =W.heap[b]? ∧some b≠(Value.slice (some ⟨gg,0,none⟩) (k+1) cap).ownBlock:=fun b h1 h2 h3=>by
  refine ⟨(hset b (by omega)).trans (hbl b h2 h3),fun e=>?_⟩;have e2:b=gg:=by simpa [Value.ownBlock] using e
  rcases hat with e3|e3
  ·exact h3 (by rw [e2];exact e3.symm)
  ·omega
 refine ⟨⟨(hset _ (by omega)).trans ((hbl _ (by omega) (hlow _ (by omega))).trans h.it.var)⟩,⟨(hset _ (by omega)).trans ((hbl _ (by omega) (hlow _ (by omega))).trans h.r.var)⟩,?_,?_,?_,?_⟩
 ·have h1:AV (w.heap.size+2) 37 (ai T (.slice Az k cz)) w6:=⟨(hbl _ (by omega) (hlow _ (by omega))).trans h.t.var⟩;have h2:=h1.put 3 (.slice (some ⟨gg,0,none⟩) (k+1) cap);rw [nD] at h2;exact h2
 ·have h1:Below w.heap.size w Wb:=by rw [Gg];exact ah h.lo (ag W _)
  have hob:Wb.ownsRow (w.heap.size+3) 90 9 (.slice Az k cz) k (aO ys):=by rw [Gg];exact own_below h.own (ag W _)
  exact (bG h1 (bf hob (by omega)) (by omega) hg).setCell (p:=⟨w.heap.size+2,3,none⟩) (show w.heap.size≤w.heap.size+2 by omega) _
 ·have h1:=dW (p:=⟨w.heap.size+2,3,none⟩) (u:= .slice (some ⟨gg,0,none⟩) (k+1) cap) hown (fun e=>absurd (show w.heap.size+2=gg by simpa [Value.ownBlock] using e) (by omega));have e:aO (ys++ [y])=aO ys++y.cells.toList:=by simp [aO]
  rw [e];exact h1
 ·intro y' hy';rcases List.mem_append.1 hy' with h1|h1
  ·exact (h.mem y' h1).keep (by rw [hsz];exact hs6) hmm
  ·obtain rfl:=List.mem_singleton.1 h1;exact hy.keep (by rw [hsz];exact hs6) hmm
end
theorem jI (W:World) (bb:Nat) (x:Int) (h:W.heap[bb]? =some (.cells #[.int .u8 x] 5 (0,0))):(convert 32 9 (.slice (some ⟨bb,0,none⟩) 1 1)).run Tryz.prog W= .ok (.string ⟨#[UInt8.ofNat x.toNat]⟩) W:=by
 have e:(⟨#[UInt8.ofNat x.toNat]⟩:ByteArray)=strOfNums [x]:=rfl;rw [e];refine run_convert_bytes_arg _ _ _ Tryz.underlying32 Tryz.underlying5 bb 0 1 1 [x] rfl (fun i hi=>?_) _ Tryz.underlying9;have:i=0:=by omega
 subst this;exact cell_of_row W bb 0 _ _ _ h
theorem iL (k:Nat):(⟨#[122]⟩:ByteArray)++⟨#[UInt8.ofNat (97+(k:Int)).toNat]⟩=bW k:=by
 have e:(97+(k:Int)).toNat=97+k:=by omega
 rw [e];rfl
def xn (vs:List DN):List Ze:=(vs.take 3).mapIdx fun i v=>⟨bW i,jl v.x⟩
theorem Me (vs:List DN) (k:Nat) (v:DN) (hv:vs[k]? =some v):(vs.take (k+1)).mapIdx (fun i v=>(⟨bW i,jl v.x⟩:Ze))=(vs.take k).mapIdx (fun i v=>(⟨bW i,jl v.x⟩:Ze))++ [⟨bW k,jl v.x⟩]:=by
 have hk:=(eG.1 hv).1;have e:vs.take (k+1)=vs.take k++ [v]:=by
  rw [List.take_add_one,hv];rfl
 rw [e,List.mapIdx_append];simp [List.length_take,Nat.min_eq_left (Nat.le_of_lt hk)]
def dX (w:World) (zb zo m ic k:Nat) (v:DN) (W:World):Prop:=W.cell? ⟨w.heap.size,0,none⟩=some (.slice (some ⟨zb,zo,none⟩) m ic)∧W.rangeAt zb (zo+k*14) v.cells
theorem dX.of {w W:World} {zb zo m ic k:Nat} {v:DN} {x:Value} (hit:AV w.heap.size 50 #[.slice (some ⟨zb,zo,none⟩) m ic,x] W) (hlo:Below w.heap.size w W) (hr:w.rangeAt zb (zo+k*14) v.cells) (hb:zb<w.heap.size):dX w zb zo m ic k v W:=
 ⟨hit.cell 0,aQ hr hlo hb⟩
theorem gG.grow {lo:Nat} {v:Value} {W W':World} {s:Zs} {z:Zn} (h:gG lo v W s z) (hb:Below W.heap.size W W'):gG lo v W' s z:=h.keep hb.size fun b _ h2 h3=>⟨hb.block b h2,h3⟩
theorem oK.start (w:World) (ib:Array Value) (T:Tb) (z:Array Value):oK w ib T 0 none 0 [] ((((w.alloc (.cells ib 50)).alloc (.cells (ai bQ (.slice none 0 0)) 37)).alloc (.cells z 37)).setRow (w.heap.size+2) (ai T (.slice none 0 0))):=by
 obtain ⟨W,hW⟩:∃W,(w.alloc (.cells ib 50)).alloc (.cells (ai bQ (.slice none 0 0)) 37)=W:=⟨_,rfl⟩;have hs:W.heap.size=w.heap.size+2:=by rw [←hW];simp
 have hb:Below w.heap.size w W:=by rw [←hW];exact ah (ag w _) (ag _ _)
 have h1:AV w.heap.size 50 ib W:=by rw [←hW];exact ⟨heap_alloc2_old w _ _⟩
 have h2:AV (w.heap.size+1) 37 (ai bQ (.slice none 0 0)) W:=by rw [←hW];exact ⟨heap_alloc2_new w _ _⟩
 have h3:=AV.new W z 37;rw [hs] at h3;rw [hW];have hb2:=ag W (.cells z 37);exact ⟨(h1.below hb2).rP (by omega) _,(h2.below hb2).rP (by omega) _,h3.oZ _,aB (ah hb hb2) (by omega) _,World.ownsRow_nil _ _ _ _,fun _ h=>nomatch h⟩
theorem oK.mid {w W w6:World} {ib:Array Value} {T:Tb} {k cz:Nat} {Az:Option Addr} {ys:List dB} (h:oK w ib T k Az cz ys W) (o:Obj) (hg:(W.alloc o).grownBy w6 (Value.slice Az k cz).ownBlock):AV w.heap.size 50 ib w6∧AV (w.heap.size+2) 37 (ai T (.slice Az k cz)) w6∧Below w.heap.size w w6:=by
 have hlt:=h.lt;have hbl:∀b,b<W.heap.size→some b≠(Value.slice Az k cz).ownBlock→w6.heap[b]? =W.heap[b]? :=fun b hb hn=>
  (hg.block b (by simp;omega) hn).trans (Below.heap_alloc W _ b hb)
 have hlow:∀b,b<w.heap.size+3→some b≠(Value.slice Az k cz).ownBlock:=eU h.own;exact ⟨⟨(hbl _ (by omega) (hlow _ (by omega))).trans h.it.var⟩,⟨(hbl _ (by omega) (hlow _ (by omega))).trans h.t.var⟩,bG (ah h.lo (ag W o)) (bf (own_below h.own (ag W o)) (by omega)) (by simp;omega) hg⟩
theorem xu {w w':World} {lo e size n:Nat} {v:Value} {xs:List Value} (h:w.ownsRow lo e size v n xs) (_hs:w.heap.size≤w'.heap.size) (hb:∀b,lo≤b→b<w.heap.size→w'.heap[b]? =w.heap[b]?):w'.ownsRow lo e size v n xs:=by
 refine ⟨h.1,?_⟩;rcases h.2 with h2|⟨g,cap,cur,h1,h2,h3,h4⟩
 ·exact .inl h2
 ·exact .inr ⟨g,cap,cur,h1,h2,(hb g h2 (bT.1 h3).1).trans h3,h4⟩
theorem Ja:∀(vs pre old suf:List Value),old.length=vs.length→xy (pre++old++suf).toArray pre.length vs=(pre++vs++suf).toArray
 | [],pre,old,suf,h=>by
  have:old= []:=List.eq_nil_of_length_eq_zero h;simp [xy,this]
 |v::r,pre,old,suf,h=>by
  obtain ⟨x,old',rfl⟩:∃x old',old=x::old':=by
   cases old with
   |nil=>simp at h
   |cons x o=>exact ⟨x,o,rfl⟩
  have h2:=Ja r (pre++ [v]) old' suf (by simpa using h);have e:(pre++x::old'++suf).toArray.setIfInBounds pre.length v=((pre++ [v])++old'++suf).toArray:=by simp
  unfold xy;rw [e];simpa using h2
theorem Jt (t:Tb) (v:Value) (m:List UInt8) (h1:t.prev.length=32) (h2:m.length=32):xy (ai t v) 4 (aj m)=ai {t with prev:=m} v:=by
 have h:=Ja (aj m) [I t.aP,I t.version,I t.aC,v] (aj t.prev) (aj t.bn) (by simp [aj,h1,h2]);have e1:ai t v=([I t.aP,I t.version,I t.aC,v]++aj t.prev++aj t.bn).toArray:=by simp [ai,fF]
 have e2:ai {t with prev:=m} v=([I t.aP,I t.version,I t.aC,v]++aj m++aj t.bn).toArray:=by simp [ai,fF]
 rw [e1,e2];exact h
theorem oK.prev {w W:World} {ib:Array Value} {T:Tb} {k cz:Nat} {Az:Option Addr} {ys:List dB} (h:oK w ib T k Az cz ys W) (hp:T.prev.length=32) (d:List UInt8) (hd:d.length=32):
  oK w ib {T with prev:=d} k Az cz ys (W.setCells (w.heap.size+2) 4 (cD d).toList):=by
 have ho:∀b,b≠w.heap.size+2→(W.setCells (w.heap.size+2) 4 (cD d).toList).heap[b]? =W.heap[b]? :=fun b hb=>nR _ _ _ _ b hb;have hs:(W.setCells (w.heap.size+2) 4 (cD d).toList).heap.size=W.heap.size:=uo _ _ _ _;have ht:=h.t.setQ 4 (cD d).toList;rw [show xy _ 4 (cD d).toList=_ from Jt T _ d hp hd] at ht;refine ⟨h.it.VX (by omega) _ _,h.r.VX (by omega) _ _,ht,nM (by omega) _ _ _ h.lo,?_,fun y hy=>(h.mem y hy).keep (by rw [hs];omega) fun b h1 h2 h3=>⟨ho b (by omega),h3⟩⟩;exact xu h.own (by rw [hs];omega) fun b h1 _=>ho b (by omega)
theorem oK.fin {w W:World} {ib:Array Value} {T:Tb} {k cz:Nat} {Az:Option Addr} {ys:List dB} (h:oK w ib T k Az cz ys W) (hp:T.prev.length=32) (hm:T.bn.length=32) (cs:Array Value):
  jE (W.setRow (w.heap.size+1) cs) (W.setRow (w.heap.size+1) cs).heap.size ⟨{T with aK:=ys.map (·.e)},Az,cz,ys⟩∧Below w.heap.size w (W.setRow (w.heap.size+1) cs):=by
 have ho:∀b,b≠w.heap.size+1→(W.setRow (w.heap.size+1) cs).heap[b]? =W.heap[b]? :=fun b hb=>setRow_other _ _ b _ hb;have hs:(W.setRow (w.heap.size+1) cs).heap.size=W.heap.size:=by simp [World.setRow]
 have h1:oK w ib T k Az cz ys W:=h;refine ⟨⟨rfl,hp,hm,⟨aA.eQ (xu h.own (by rw [hs];omega) fun b h1 _=>ho b (by omega)),fun y hy=>((h.mem y hy).keep (v':= .slice Az k cz) (by rw [hs];omega) fun b h1 h2 h3=>⟨ho b (by omega),h3⟩).at⟩⟩,aB h.lo (Nat.le_succ _) _⟩
theorem kY (y:dB):∀u∈y.cells.toList,u.oneCell'=true:=by
 have h:=wJ [y];simpa [aO] using h
def vC (lo:Nat) (y:bI):Prop:=sK lo y.A (aO y.zs)∧∀z∈y.zs,Io lo z.s z.e.z
theorem LV.low {lo lo':Nat} {v:Value} {W:World} {A:Option Addr} {cs:List Value} (h:LV lo v W A cs) (hl:lo'≤lo):sK lo' A cs:=by
 rcases h with h|⟨b,off,h1,h2,_⟩
 ·exact .inl h
 ·exact .inr ⟨b,off,h1,Nat.le_trans hl h2⟩
theorem oK.low {w W:World} {ib:Array Value} {T T':Tb} {k cz:Nat} {Az:Option Addr} {ys:List dB} (h:oK w ib T k Az cz ys W):vC w.heap.size ⟨T',Az,cz,ys⟩:=by
 refine ⟨?_,fun y hy=>?_⟩
 ·rcases h.own.2 with ⟨hv,hn⟩|⟨g,cap,cur,hv,hg,_⟩
  ·refine .inl ?_;show (aO ys).length=0;rw [h.own.1,hn,Nat.zero_mul]
  ·injection hv with h1 _ _;exact .inr ⟨g,0,h1,by omega⟩
 ·obtain ⟨h1,h2,h3,h4⟩:=h.mem y hy;exact ⟨h1.low (by omega),h2.low (by omega),h3.low (by omega),h4.low (by omega)⟩
theorem oQ:(Tryz.prog.info? 37).map (fun i=>(i.zero,i.size,i.bytes))=some (some (.agg (ai bQ (.slice none 0 0))),68,112):=by kernel_rfl
section
variable {ops:Array Oper} {rest:List Oper} {o:Oper} {a:Act} {Q:Exit→Act→World→Prop} {w:World}
theorem wH (hgd:o.guard=none) (x:Operand) (ho:o.op= .buildSlice 28 1 #[(0,x)]) (cs:Array Value) (hcs:cs.size=68)
  (hx:a.eval x= .agg cs) (h:wpList Tryz.prog ops Q rest (a.put o.dst (.slice (some ⟨w.heap.size,0,none⟩) 1 1)) (w.alloc (.cells cs 37))):wpList Tryz.prog ops Q (o::rest) a w:=by
 obtain ⟨i0,hi,hz0,hz1,hz2⟩:=info_parts oQ;refine wpList_buildSlice hgd 28 37 1 _ ho cs i0 (.agg (ai bQ (.slice none 0 0))) Tryz.underlying28 hi hz0 (by rw [hz1];decide) (by rw [hz1];decide) ?_ h;rw [hz1];simp only [List.map_toArray,List.map_cons,List.map_nil,hx];have h:=Go.Great.fill_whole (s:=68) (by omega) [.agg cs] ((Array.range (1*68)).map ((Value.agg (ai bQ (.slice none 0 0))).cells[· %(Value.agg (ai bQ (.slice none 0 0))).cells.size]!)) (fun v hv=>by simp at hv;subst hv;exact hcs) (by simp);have e:([Value.agg cs].flatMap fun v=>v.cells.toList).toArray=cs:=by simp [Value.cells]
 rw [e] at h;exact h
theorem rJ {P:Program} (ty:TypeId) {n:Nat} {x:Array (Nat×Operand)} {d:Option Tmp} {t:TypeId} {pos:String} {af:Array Edge} {g:Option (Nat×Bool)} (h:wpList P ops Q (⟨d, .buildSlice ty n x,t,pos,af,g⟩::rest) a w):wpList P ops Q (⟨d, .buildSlice ty n x,t,pos,af,g⟩::rest) a w:=h
end
structure l9 where
 DC:UInt8
 key:List UInt8
 A:Option Addr
 c:Nat
 its:List Ih
def l9.cells (r:l9):List Value:=Extern.Stop.cell r.DC::(aj r.key++ [.slice r.A r.its.length r.c])
theorem l9.len (r:l9) (h:r.key.length=32):r.cells.length=34:=by simp [l9.cells,aj,h]
structure vw (w:World) (B:Nat) (r:l9):Prop where
 key:r.key.length=32
 len:r.its.length≤9223372036854775807
 row:aA w B r.A (r.its.flatMap fun x=>x.cells.toList)
 each:∀x∈r.its,DL w B x
theorem vw.keep {w w':World} {B:Nat} {r:l9} (h:vw w B r) (hb:Below B w w'):vw w' B r:=⟨h.key,h.len,h.row.keep hb,fun v hv=>(h.each v hv).keep hb⟩
theorem vw.more {w:World} {B B':Nat} {r:l9} (h:vw w B r) (hB:B≤B'):vw w B' r:=⟨h.key,h.len,h.row.more hB,fun v hv=>(h.each v hv).more hB⟩
theorem OE {W:World} {b:Nat} {r:l9} (h:fD W b r.cells.toArray):W.rangeAt b 1 (aj r.key):=fun j v hv=>by
 rw [h.2 (1+j)];unfold l9.cells;have hj:=(eG.1 hv).1;rw [List.getElem?_toArray,Nat.add_comm 1 j,List.getElem?_cons_succ,List.getElem?_append_left hj];exact hv
theorem OD (r:l9) (h:r.key.length=32):r.cells.toArray[33]? =some (.slice r.A r.its.length r.c):=by
 unfold l9.cells;rw [List.getElem?_toArray,show (33:Nat)=32+1 from rfl,List.getElem?_cons_succ,List.getElem?_append_right (by simp [aj,h])];simp [aj,h]
theorem LV.WW {lo lo' B:Nat} {v:Value} {W:World} {A:Option Addr} {cs:List Value} (h:aA W B A cs) (hB:B≤W.heap.size) (h2:sK lo' A cs) (hlo:lo≤lo') (hv:∀b,lo'≤b→b<B→some b≠v.ownBlock):LV lo v W A cs:=by
 rcases h with h|⟨b,off,e,hb,hc⟩
 ·exact .inl h
 ·rcases h2 with h2|⟨b2,xq,e2,hl⟩
  ·exact .inl h2
  ·rw [e] at e2;injection e2 with e2;injection e2 with e3 e4;subst e3;exact .inr ⟨b,off,e,by omega,by omega,hv b hl hb,hc⟩
theorem iQ.of {lo lo' B:Nat} {v:Value} {W:World} {y:bI} (h:jE W B y) (hB:B≤W.heap.size) (h2:vC lo' y) (hlo:lo≤lo') (hv:∀b,lo'≤b→b<B→some b≠v.ownBlock):iQ lo v W y:=
 ⟨.WW h.aK.row hB h2.1 hlo hv,fun z hz=>⟨.WW (h.aK.each z hz).az hB (h2.2 z hz).1 hlo hv, .WW (h.aK.each z hz).rules hB (h2.2 z hz).2.1 hlo hv, .WW (h.aK.each z hz).trans hB (h2.2 z hz).2.2.1 hlo hv, .WW (h.aK.each z hz).aN hB (h2.2 z hz).2.2.2 hlo hv⟩⟩
theorem LV.uX {lo lo':Nat} {v:Value} {W:World} {A:Option Addr} {cs:List Value} (h:LV lo v W A cs) (hl:lo'≤lo):LV lo' v W A cs:=by
 rcases h with h|⟨b,off,h1,h2,h3⟩
 ·exact .inl h
 ·exact .inr ⟨b,off,h1,Nat.le_trans hl h2,h3⟩
theorem LV.vary {lo:Nat} {v v':Value} {W:World} {A:Option Addr} {cs:List Value} (h:LV lo v W A cs) (hv:∀b,lo≤b→b<W.heap.size→some b≠v'.ownBlock):LV lo v' W A cs:=by
 rcases h with h|⟨b,off,h1,h2,h3,h4,h5⟩
 ·exact .inl h
 ·exact .inr ⟨b,off,h1,h2,h3,hv b h2 h3,h5⟩
theorem iQ.vary {lo lo':Nat} {v v':Value} {W:World} {y:bI} (h:iQ lo v W y) (hl:lo'≤lo) (hv:∀b,lo≤b→b<W.heap.size→some b≠v'.ownBlock):iQ lo' v' W y:=
 ⟨(h.1.vary hv).uX hl,fun z hz=>⟨((h.2 z hz).1.vary hv).uX hl,((h.2 z hz).2.1.vary hv).uX hl,((h.2 z hz).2.2.1.vary hv).uX hl,((h.2 z hz).2.2.2.vary hv).uX hl⟩⟩
theorem iQ.low {lo lo':Nat} {v:Value} {W:World} {y:bI} (h:iQ lo v W y) (hl:lo'≤lo):vC lo' y:=⟨h.1.low hl,fun z hz=>⟨(h.2 z hz).1.low hl,(h.2 z hz).2.1.low hl,(h.2 z hz).2.2.1.low hl,(h.2 z hz).2.2.2.low hl⟩⟩
structure Z4 (y:bI):Prop where
 made:FN y.t
 names:y.t.aK=y.zs.map (·.e)
 prev:y.t.prev.length=32
 bn:y.t.bn.length=32
theorem Z4.size {y:bI} (h:Z4 y):y.cells.length=68:=by
 have:=bF y.t (.slice y.A y.zs.length y.c) h.prev h.bn;simpa [ai,bI.cells] using this
theorem Z4.at {y:bI} (h:Z4 y) {lo:Nat} {v:Value} {W:World} (hm:iQ lo v W y):jE W W.heap.size y:=⟨h.names,h.prev,h.bn,⟨hm.1.at,fun z hz=>(hm.2 z hz).at⟩⟩
structure vT (w:World) (rc:Array Value) (k c:Nat) (A:Option Addr) (ts:List bI) (W:World):Prop where
 it:AV w.heap.size 26 rc W
 lo:Below w.heap.size w W
 own:W.ownsRow (w.heap.size+1) 37 68 (.slice A k c) k (ts.flatMap bI.cells)
 mem:∀y∈ts,iQ (w.heap.size+1) (.slice A k c) W y
 each:∀y∈ts,Z4 y
section
variable {w W W':World} {rc:Array Value} {k c:Nat} {A:Option Addr} {ts:List bI}
theorem vT.step (h:vT w rc k c A ts W) (ho:W'.os=W.os) (htp:W'.tape=W.tape) (hou:W'.output=W.output) (hs:W.heap.size≤W'.heap.size) (hb:∀b,b<W.heap.size→W'.heap[b]? =W.heap[b]?):vT w rc k c A ts W':=
 have hB:Below W.heap.size W W':=⟨ho,htp,hou,hs,hb⟩
 ⟨h.it.below hB,ah h.lo hB,own_below h.own hB,fun y hy=>(h.mem y hy).keep hs fun b _ h2 h3=>⟨hb b h2,h3⟩,h.each⟩
theorem vT.grow (h:vT w rc k c A ts W) (hb:Below W.heap.size W W'):vT w rc k c A ts W':=h.step hb.os hb.tape hb.output hb.size hb.block
theorem vT.drew (h:vT w rc k c A ts W):vT w rc k c A ts W.drew:=h.grow ((Below.refl _ W).drew)
theorem vT.lt (h:vT w rc k c A ts W):w.heap.size<W.heap.size:=h.it.lt
theorem vT.chain (h:vT w rc k c A ts W):gq W W.heap.size A ts:=⟨aA.eQ h.own,fun y hy=>(h.each y hy).at (h.mem y hy)⟩
theorem vT.qP (h:vT w rc k c A ts W):∀b,W.heap.size≤b→some b≠(Value.slice A k c).ownBlock:=fun b hb e=>by
 have:=World.ownsRow.lt h.own b e.symm;omega
theorem vT.add {Wb w6:World} {gg cap:Nat} {y:bI} (h:vT w rc k c A ts W) (hy:iQ (w.heap.size+1) (.slice A k c) W y) (hf:Z4 y) (Gg:Wb=W.alloc (.cells y.cells.toArray 37))
  (hown:w6.ownsRow (w.heap.size+1) 37 68 (.slice (some ⟨gg,0,none⟩) (k+1) cap) (k+1) (ts.flatMap bI.cells++y.cells)) (hg:Wb.grownBy w6 (Value.slice A k c).ownBlock) (hat:(Value.slice A k c).ownBlock=some gg∨gg=Wb.heap.size):
  vT w rc (k+1) cap (some ⟨gg,0,none⟩) (ts++ [y]) w6:=by
 have hsb:Wb.heap.size=W.heap.size+1:=by rw [Gg];simp
 have hlt:=h.lt;have hs6:W.heap.size≤w6.heap.size:=by have:=hg.size;omega
 have hbl:∀b,b<W.heap.size→some b≠(Value.slice A k c).ownBlock→w6.heap[b]? =W.heap[b]? :=fun b hb hn=>
  (hg.block b (by omega) hn).trans (by rw [Gg];exact Below.heap_alloc W _ b hb)
 have hlow:∀b,b<w.heap.size+1→some b≠(Value.slice A k c).ownBlock:=eU h.own;have hmm:∀b,w.heap.size+1≤b→b<W.heap.size→some b≠(Value.slice A k c).ownBlock→w6.heap[b]? =W.heap[b]? ∧some b≠(Value.slice (some ⟨gg,0,none⟩) (k+1) cap).ownBlock:=fun b h1 h2 h3=>by
  refine ⟨hbl b h2 h3,fun e=>?_⟩;have e2:b=gg:=by simpa [Value.ownBlock] using e
  rcases hat with e3|e3
  ·exact h3 (by rw [e2];exact e3.symm)
  ·omega
 have h1:Below w.heap.size w Wb:=by rw [Gg];exact ah h.lo (ag W _)
 have hob:Wb.ownsRow (w.heap.size+1) 37 68 (.slice A k c) k (ts.flatMap bI.cells):=by rw [Gg];exact own_below h.own (ag W _)
 refine ⟨⟨(hbl _ (by omega) (hlow _ (by omega))).trans h.it.var⟩,bG h1 (bf hob (by omega)) (by omega) hg,by simpa using hown,fun y' hy'=>?_,fun y' hy'=>?_⟩
 ·rcases List.mem_append.1 hy' with h1|h1
  ·exact (h.mem y' h1).keep hs6 hmm
  ·obtain rfl:=List.mem_singleton.1 h1;exact hy.keep hs6 hmm
 ·rcases List.mem_append.1 hy' with h1|h1
  ·exact h.each y' h1
  ·obtain rfl:=List.mem_singleton.1 h1;exact hf
end
def yg (w:World) (r:l9) (ib io n k:Nat) (x:Ih) (W:World):Prop:=
 W.cell? ⟨w.heap.size,0,none⟩=some (.int .u8 (r.DC.toNat:Int))∧W.cell? ⟨w.heap.size,33,none⟩=some (.slice (some ⟨ib,io,none⟩) n r.c)∧W.rangeAt w.heap.size 1 (aj r.key)∧W.rangeAt ib (io+k*2) x.cells.toList
theorem yg.of {w W:World} {r:l9} {ib io n k:Nat} {x:Ih} (hk:r.key.length=32) (hn:r.its.length=n) (hA:r.A=some ⟨ib,io,none⟩) (hit:AV w.heap.size 26 r.cells.toArray W) (hlo:Below w.heap.size w W) (hr:w.rangeAt ib (io+k*2) x.cells.toList) (hb:ib<w.heap.size):yg w r ib io n k x W:=
 ⟨hit.cell 0,by rw [hit.cell 33,OD r hk,hn,hA],OE hit.iY,aQ hr hlo hb⟩
theorem EW (vs:List DN) (k:Nat) (e:Ze) (h:(xn vs)[k]? =some e):k<3∧∃v:DN,e=⟨bW k,jl v.x⟩:=by
 unfold xn at h;rw [List.getElem?_mapIdx] at h;cases hv:(vs.take 3)[k]? with
 |none=>rw [hv] at h;cases h
 |some v=>
  rw [hv] at h;have hk:=(eG.1 hv).1;rw [List.length_take] at hk;injection h with h;exact ⟨by omega,v,h.symm⟩
theorem PZ (vs:List DN):(xn vs).length≤3:=by
 unfold xn;rw [List.length_mapIdx,List.length_take];omega
theorem Js {n:Nat} {DC:UInt8} {x:Ih} {y:bI} (hn:n≤4) (h1:y.t.aP=(DC.toNat:Int)%16) (h2:y.t.version=(n:Int)+1) (h3:y.t.aC=(x.wd.toNat:Int)%((n:Int)+1)) (h4:n=0→y.t.prev=aU) (h5:y.t.aK=xn x.vs):FN y.t:=by
 have hb:=eu DC;have hw1:0≤(x.wd.toNat:Int)%((n:Int)+1):=Int.emod_nonneg _ (by omega);have hw2:(x.wd.toNat:Int)%((n:Int)+1)<(n:Int)+1:=Int.emod_lt_of_pos _ (by omega);refine ⟨by rw [h1];omega,by rw [h2];omega,by rw [h3,h2];exact ⟨hw1,hw2⟩,fun h=>h4 (by rw [h2] at h;omega),by rw [h5];exact PZ _,fun e he=>?_,fun k e he=>?_⟩
 ·rw [h5] at he;obtain ⟨k,hk⟩:=List.getElem?_of_mem he;obtain ⟨_,v,rfl⟩:=EW _ _ _ hk;exact PX v.x
 ·rw [h5] at he;obtain ⟨_,v,rfl⟩:=EW _ _ _ he;rfl
theorem FN.MM {t:Tb} (h:FN t) (d:List UInt8):FN {t with bn:=d}:=⟨h.aP,h.version,h.aC,h.first,h.num,h.aK,h.names⟩
inductive zF (x:bI):bI→Prop
 |aP (v:Int):0≤v→v<18→zF x ⟨{x.t with aP:=v},x.A,x.c,x.zs⟩
 |version (v:Int):0≤v→v<8→zF x ⟨{x.t with version:=v},x.A,x.c,x.zs⟩
 |aC (v:Int):0≤v→v<8→zF x ⟨{x.t with aC:=v},x.A,x.c,x.zs⟩
 |prev (j:Nat) (u:UInt8):j<32→zF x ⟨{x.t with prev:=x.t.prev.set j u},x.A,x.c,x.zs⟩
 |bn (j:Nat) (u:UInt8):j<32→zF x ⟨{x.t with bn:=x.t.bn.set j u},x.A,x.c,x.zs⟩
 |aK (k:Nat):k≤x.zs.length→zF x ⟨{x.t with aK:=x.t.aK.take k},x.A,x.c,x.zs.take k⟩
structure NG (w:World) (g:Nat) (ts:List bI) (W:World):Prop where
 lo:Below w.heap.size w W
 ge:w.heap.size≤g
 cur:∃(cur:Array Value) (t:TypeId),W.heap[g]? =some (.cells cur t (0,0))∧∀(j:Nat) (v:Value),(ts.flatMap bI.cells)[j]? =some v→cur[j]? =some v
 each:∀x∈ts,jE w w.heap.size x
theorem VY {ts:List bI} {i f:Nat} {x:bI} {w:World} {B:Nat} (he:∀x∈ts,jE w B x) (hx:ts[i]? =some x) (hf:f<68):(ts.flatMap bI.cells)[i*68+f]? =x.cells[f]? :=
 flat_get (s:=68) bI.cells ts (fun x hx=>(he x hx).size) i f x hx hf
section
variable {w W:World} {g i f:Nat} {ts:List bI} {x y:bI} {v:Value}
theorem NG.lt (h:NG w g ts W):g<W.heap.size:=by
 obtain ⟨cur,t,h1,_⟩:=h.cur;exact (bT.1 h1).1
theorem NG.cell (h:NG w g ts W) (hx:ts[i]? =some x) (hf:f<68):W.cell? ⟨g,i*68+f,none⟩=x.cells[f]? :=by
 obtain ⟨cur,t,h1,h2⟩:=h.cur;have hl:=(h.each x (dS hx)).size;obtain ⟨u,hu⟩:∃u,x.cells[f]? =some u:=⟨_,bZ (by omega)⟩;rw [hu,cell_of_row W g _ _ _ _ h1];exact h2 _ _ ((VY h.each hx hf).trans hu)
theorem NG.dZ (h:NG w g ts W) (o:Nat):W.frozen? ⟨g,o,none⟩=false:=by
 obtain ⟨cur,t,h1,_⟩:=h.cur;exact frozen_of_row W g o _ _ h1
theorem Lh (ts:List bI) (i f:Nat) (x y:bI) (v:Value) (hs:∀x∈ts,x.cells.length=68) (hx:ts[i]? =some x) (hf:f<68) (hy:y.cells=x.cells.set f v):(ts.set i y).flatMap bI.cells=(ts.flatMap bI.cells).set (i*68+f) v:=by
 induction ts generalizing i with
 |nil=>cases hx
 |cons a ts ih=>
  have ha:=hs a (List.mem_cons_self ..);cases i with
  |zero=>
   obtain rfl:a=x:=Option.some.inj hx;rw [List.set_cons_zero,List.flatMap_cons,List.flatMap_cons,hy,List.set_append_left _ _ (by omega),Nat.zero_mul,Nat.zero_add]
  |succ i=>
   rw [List.set_cons_succ,List.flatMap_cons,List.flatMap_cons,ih i (fun x hx=>hs x (List.mem_cons_of_mem _ hx)) hx,List.set_append_right _ _ (by omega)];congr 2;omega
theorem NG.set (h:NG w g ts W) (hx:ts[i]? =some x) (hf:f<68) (hy:y.cells=x.cells.set f v) (ht:jE w w.heap.size y):NG w g (ts.set i y) (W.setCell ⟨g,i*68+f,none⟩ v):=by
 obtain ⟨cur,t,h1,h2⟩:=h.cur;have hs:∀x∈ts,x.cells.length=68:=fun x hx=>(h.each x hx).size;refine ⟨h.lo.setCell (p:=⟨g,i*68+f,none⟩) h.ge v,h.ge,⟨_,t,heap_setCell_same W g _ _ _ v h1,fun j u hu=>?_⟩,fun z hz=>?_⟩
 ·rw [Lh ts i f x y v hs hx hf hy] at hu;by_cases hj:j=i*68+f
  ·subst hj;have hl:=(eG.1 hu).1;rw [List.length_set] at hl;rw [List.getElem?_set_self hl] at hu;have h3:=h2 _ _ (bZ hl);rw [Array.getElem?_setIfInBounds_self_of_lt (bT.1 h3).1];exact hu
  ·rw [List.getElem?_set_ne (by omega)] at hu;rw [Array.getElem?_setIfInBounds_ne (by omega)];exact h2 _ _ hu
 ·rcases List.mem_or_eq_of_mem_set hz with h3|h3
  ·exact h.each z h3
  ·exact h3▸ht
theorem NG.chain (h:NG w g ts W):gq W W.heap.size (some ⟨g,0,none⟩) ts:=by
 obtain ⟨cur,t,h1,h2⟩:=h.cur;exact ⟨.inr ⟨g,0,rfl,h.lt,fun j u hu=>by rw [Nat.zero_add,cell_of_row W g _ _ _ _ h1];exact h2 j u hu⟩,fun x hx=>((h.each x hx).keep h.lo).more h.lo.size⟩
end
def XR (lo:Nat) (A:Option Addr) (ts:List bI):Prop:=sK lo A (ts.flatMap bI.cells)∧∀y∈ts,vC lo y
theorem vT.fin {w W:World} {rc:Array Value} {k c:Nat} {A:Option Addr} {ts:List bI} (h:vT w rc k c A ts W):XR w.heap.size A ts:=by
 refine ⟨?_,fun y hy=>(h.mem y hy).low (Nat.le_succ _)⟩;rcases h.own.2 with ⟨hv,hn⟩|⟨g,cap,cur,hv,hg,_⟩
 ·refine .inl ?_;rw [h.own.1,hn,Nat.zero_mul]
 ·injection hv with h1 _ _;exact .inr ⟨g,0,h1,by omega⟩
theorem vC.mono {lo lo':Nat} {y:bI} (h:vC lo y) (hl:lo'≤lo):vC lo' y:=
 have f:∀ {A cs},sK lo A cs→sK lo' A cs:=fun h=>h.imp id fun ⟨b,off,e,h1⟩=>⟨b,off,e,Nat.le_trans hl h1⟩
 ⟨f h.1,fun z hz=>⟨f (h.2 z hz).1,f (h.2 z hz).2.1,f (h.2 z hz).2.2.1,f (h.2 z hz).2.2.2⟩⟩
theorem iQ.grow {lo:Nat} {v:Value} {W W':World} {y:bI} (h:iQ lo v W y) (hb:Below W.heap.size W W'):iQ lo v W' y:=h.keep hb.size fun b _ h2 h3=>⟨hb.block b h2,h3⟩
theorem WV {vb B B':Nat} (h:vb<B):∀b,B≤b→b<B'→some b≠(Value.slice (some ⟨vb,0,none⟩) 1 1).ownBlock:=fun b h1 _ e=>by
 have e2:b=vb:=by simpa [Value.ownBlock] using e
 omega
theorem Ox {lo:Nat} (B:Nat):∀b,lo≤b→b<B→some b≠(Value.slice (some ⟨B,0,none⟩) 1 1).ownBlock:=fun b _ h1 e=>by
 have e2:b=B:=by simpa [Value.ownBlock] using e
 omega
structure VF (w:World) (r:l9) (V:World) (k c:Nat) (A:Option Addr) (ts:List bI) (vb:Nat) (y:bI) (W:World):Prop where
 md:vT w r.cells.toArray k c A ts W
 var:AV vb 37 (ai y.t (.slice y.A y.zs.length y.c)) W
 mem:iQ (w.heap.size+1) (.slice A k c) W y
 each:Z4 y
theorem VF.of {w V W:World} {r:l9} {k c vb:Nat} {A:Option Addr} {ts:List bI} {y:bI} {d:List UInt8} (h:vT w r.cells.toArray k c A ts V) {cs:Array Value} (hb:Below V.heap.size V (W.setRow vb cs)) (hv:AV vb 37 (ai {y.t with bn:=d} (.slice y.A y.zs.length y.c)) (W.setRow vb cs))
  (hm:iQ V.heap.size (.slice (some ⟨vb,0,none⟩) 1 1) W y) (ht:jE W W.heap.size y) (hM:FN y.t) (hd:d.length=32):VF w r V k c A ts vb ⟨{y.t with bn:=d},y.A,y.c,y.zs⟩ (W.setRow vb cs):=by
 have hs:(W.setRow vb cs).heap.size=W.heap.size:=by simp [World.setRow]
 have hlt:=h.lt;have hm2:iQ V.heap.size (.slice (some ⟨vb,0,none⟩) 1 1) (W.setRow vb cs) y:=hm.keep (by omega) fun b _ _ h3=>⟨setRow_other _ _ b _ (fun e=>h3 (by rw [e];rfl)),h3⟩;have U3:iQ (w.heap.size+1) (.slice A k c) (W.setRow vb cs) y:=hm2.vary (by omega) fun b h1 _=>h.qP b h1;exact ⟨h.grow hb,hv,U3,⟨hM.MM d,ht.names,ht.prev,hd⟩⟩
theorem JB (x y:Int):bits BinOp.or IntKind.u32 x y=bits BinOp.or IntKind.u32 y x:=by simp only [bits,BitVec.or_comm]
theorem kD (x n s:Int) (h:amt (-n)=s) (hs:s=32 - n):dY x n=kX x (amt (-n)):=by
 rw [h];subst hs;unfold dY kX;rw [JB,show (32:Int) - (32 - n)=n by omega]
theorem tr7 (x:Int):dY x 7=kX x (amt (-7)):=kD x 7 25 (by decide+kernel) (by decide)
theorem tr18 (x:Int):dY x 18=kX x (amt (-18)):=kD x 18 14 (by decide+kernel) (by decide)
theorem tr17 (x:Int):dY x 17=kX x (amt (-17)):=kD x 17 15 (by decide+kernel) (by decide)
theorem tr19 (x:Int):dY x 19=kX x (amt (-19)):=kD x 19 13 (by decide+kernel) (by decide)
theorem tr6 (x:Int):dY x 6=kX x (amt (-6)):=kD x 6 26 (by decide+kernel) (by decide)
theorem tr11 (x:Int):dY x 11=kX x (amt (-11)):=kD x 11 21 (by decide+kernel) (by decide)
theorem tr25 (x:Int):dY x 25=kX x (amt (-25)):=kD x 25 7 (by decide+kernel) (by decide)
theorem tr2 (x:Int):dY x 2=kX x (amt (-2)):=kD x 2 30 (by decide+kernel) (by decide)
theorem tr13 (x:Int):dY x 13=kX x (amt (-13)):=kD x 13 19 (by decide+kernel) (by decide)
theorem tr22 (x:Int):dY x 22=kX x (amt (-22)):=kD x 22 10 (by decide+kernel) (by decide)
theorem Gq (a b i m:Nat) (hm:m=2 ^ i) (h:b<m):(a*m) ||| b=a*m+b:=by
 subst hm;rw [←Nat.shiftLeft_eq,Nat.shiftLeft_add_eq_or_of_lt h]
theorem UC (x0 x1 x2 x3:Int) (a0:0≤x0) (b0:x0<256) (a1:0≤x1) (b1:x1<256) (a2:0≤x2) (b2:x2<256) (a3:0≤x3) (b3:x3<256):
  Qw x0 x1 x2 x3=x0*16777216+x1*65536+x2*256+x3:=by
 obtain ⟨n0,rfl⟩:=Int.eq_ofNat_of_zero_le a0;obtain ⟨n1,rfl⟩:=Int.eq_ofNat_of_zero_le a1;obtain ⟨n2,rfl⟩:=Int.eq_ofNat_of_zero_le a2;obtain ⟨n3,rfl⟩:=Int.eq_ofNat_of_zero_le a3;have w:∀n:Nat,n<4294967296→IntKind.u32.wrap (n:Int)=(n:Int):=fun n h=>by rw [IntKind.wrap_u32'];omega
 unfold Qw;rw [w n0 (by omega),w n1 (by omega),w n2 (by omega),w n3 (by omega)];rw [show (n0:Int)*16777216=((n0*16777216:Nat):Int) by omega,show (n1:Int)*65536=((n1*65536:Nat):Int) by omega,show (n2:Int)*256=((n2*256:Nat):Int) by omega];rw [w _ (by omega),w _ (by omega),w _ (by omega)];rw [u32_or_nat _ _ (by omega) (by omega),Gq n0 (n1*65536) 24 16777216 (by decide) (by omega)];rw [u32_or_nat _ _ (by omega) (by omega),show n0*16777216+n1*65536=(n0*256+n1)*65536 by omega,Gq _ (n2*256) 16 65536 (by decide) (by omega)];rw [u32_or_nat _ _ (by omega) (by omega),show (n0*256+n1)*65536+n2*256=((n0*256+n1)*256+n2)*256 by omega,Gq _ n3 8 256 (by decide) (by omega)];omega
theorem Xx (e:Int) (h0:0≤e) (h1:e<4294967296):bits BinOp.xor IntKind.u32 (if IntKind.u32.signed=true then -1 else IntKind.u32.max) e=4294967295 - e:=by
 obtain ⟨n,rfl⟩:=Int.eq_ofNat_of_zero_le h0;rw [show (if IntKind.u32.signed=true then (-1:Int) else IntKind.u32.max)=((4294967295:Nat):Int) from by decide,u32_xor_nat _ _ (by decide) (by omega)];have h2:4294967295 ^^^ n=4294967295 - n:=by
  have h:=congrArg BitVec.toNat (BitVec.allOnes_xor (x:=BitVec.ofNat 32 n));rw [BitVec.toNat_xor,BitVec.toNat_not,BitVec.toNat_allOnes,BitVec.toNat_ofNat,Nat.mod_eq_of_lt (by omega)] at h;exact h
 rw [h2];omega
end Go.Proofs.YtdibbemgpikgjaaGreatDoor
