/- The texts Ld, Lea, Lf, in this order. -/
import Derived.Test.YtdibbemgpikgjaaGreatZ00
import Derived.Test.YtdibbemgpikgjaaGreatZ18
import Derived.Test.YtdibbemgpikgjaaGreatZ33
import Derived.Test.YtdibbemgpikgjaaGreatZ37
import Derived.Test.YtdibbemgpikgjaaGreatZ38
set_option maxRecDepth 10000
set_option maxHeartbeats 8000000
namespace Go.Proofs.YtdibbemgpikgjaaGreat
open Go Go.RowKit
structure Cm where
 x:Dw
 G:Option Addr
 O:Option Addr
 gc:Nat
 oc:Nat
def Cm.cells (v:Cm):List Value:=(lu v.x v.G v.O v.gc v.oc).toList
structure Ew (w:World) (B:Nat) (v:Cm):Prop where
 gl:v.x.dQ.length≤9223372036854775807
 ol:v.x.iM.length≤9223372036854775807
 g:aB w B v.G (v.x.dQ.map Extern.Stop.cell)
 o:aB w B v.O (v.x.iM.map Extern.Stop.cell)
theorem Ew.keep {w w':World} {B:Nat} {v:Cm} (h:Ew w B v) (hb:Below B w w'):Ew w' B v:=⟨h.gl,h.ol,h.g.keep hb,h.o.keep hb⟩
theorem Ew.more {w:World} {B B':Nat} {v:Cm} (h:Ew w B v) (hB:B≤B'):Ew w B' v:=⟨h.gl,h.ol,h.g.more hB,h.o.more hB⟩
structure Gq where
 A:Option Addr
 c:Nat
 vs:List Cm
 wd:UInt8
def Gq.cells (x:Gq):Array Value:= #[.slice x.A x.vs.length x.c,Extern.Stop.cell x.wd]
structure Cj (w:World) (B:Nat) (x:Gq):Prop where
 len:x.vs.length≤9223372036854775807
 row:aB w B x.A (x.vs.flatMap Cm.cells)
 each:∀v∈x.vs,Ew w B v
theorem Cj.keep {w w':World} {B:Nat} {x:Gq} (h:Cj w B x) (hb:Below B w w'):Cj w' B x:=⟨h.len,h.row.keep hb,fun v hv=>(h.each v hv).keep hb⟩
theorem Cj.more {w:World} {B B':Nat} {x:Gq} (h:Cj w B x) (hB:B≤B'):Cj w B' x:=⟨h.len,h.row.more hB,fun v hv=>(h.each v hv).more hB⟩
theorem LV.of {lo lo':Nat} {v:Value} {W:World} {A:Option Addr} {cs:List Value} (h:aB W W.heap.size A cs) (h2:rq lo' A cs) (hlo:lo≤lo') (hv:∀b,lo'≤b→some b≠v.ownBlock):LV lo v W A cs:=by
 rcases h with h|⟨b,off,e,hb,hc⟩
 ·exact .inl h
 ·rcases h2 with h2|⟨b2,zf,e2,hl⟩
  ·exact .inl h2
  ·rw [e] at e2;injection e2 with e2;injection e2 with e3 e4;subst e3;exact .inr ⟨b,off,e,by omega,hb,hv b hl,hc⟩
theorem gI.of {lo lo':Nat} {v:Value} {W:World} {s:Zs} {z:Zn} (h:gW W W.heap.size s z) (h2:Gw lo' s z) (hlo:lo≤lo') (hv:∀b,lo'≤b→some b≠v.ownBlock):gI lo v W s z:=
 ⟨.of h.au h2.1 hlo hv, .of h.rules h2.2.1 hlo hv, .of h.trans h2.2.2.1 hlo hv, .of h.ay h2.2.2.2 hlo hv⟩
structure oI (w:World) (ib:Array Value) (T:Tb) (k:Nat) (Az:Option Addr) (cz:Nat) (ys:List dm) (W:World):Prop where
 it:AV w.heap.size 80 ib W
 r:AV (w.heap.size+1) 32 (ai bQ (.slice none 0 0)) W
 t:AV (w.heap.size+2) 32 (ai T (.slice Az k cz)) W
 lo:Below w.heap.size w W
 own:W.ownsRow (w.heap.size+3) 55 9 (.slice Az k cz) k (aP ys)
 mem:∀y∈ys,gI (w.heap.size+3) (.slice Az k cz) W y.s y.e.z
section
variable {w W W':World} {ib:Array Value} {T:Tb} {k cz:Nat} {Az:Option Addr} {ys:List dm}
theorem oI.grow (h:oI w ib T k Az cz ys W) (hb:Below W.heap.size W W'):oI w ib T k Az cz ys W':=
 ⟨h.it.below hb,h.r.below hb,h.t.below hb,ah h.lo hb,own_below h.own hb,fun y hy=>(h.mem y hy).keep hb.size fun b _ h2 h3=>⟨hb.block b h2,h3⟩⟩
theorem oI.drew (h:oI w ib T k Az cz ys W):oI w ib T k Az cz ys W.drew:=h.grow ((Below.refl _ W).drew)
theorem oI.lt (h:oI w ib T k Az cz ys W):w.heap.size+2<W.heap.size:=h.t.lt
theorem oI.qg (h:oI w ib T k Az cz ys W):∀b,W.heap.size≤b→some b≠(Value.slice Az k cz).ownBlock:=fun b hb e=>by
 have:=World.ownsRow.lt h.own b e.symm;omega
theorem oI.add {Wb w6:World} {gg cap:Nat} {y:dm} (h:oI w ib T k Az cz ys W) (hy:gI (w.heap.size+3) (.slice Az k cz) W y.s y.e.z) (EN:Wb=W.alloc (.cells y.cells 55))
  (hown:w6.ownsRow (w.heap.size+3) 55 9 (.slice (some ⟨gg,0,none⟩) (k+1) cap) (k+1) (aP ys++y.cells.toList)) (hg:Wb.grownBy w6 (Value.slice Az k cz).ownBlock) (hat:(Value.slice Az k cz).ownBlock=some gg∨gg=Wb.heap.size):
  oI w ib T (k+1) (some ⟨gg,0,none⟩) cap (ys++ [y]) (w6.setCell ⟨w.heap.size+2,3,none⟩ (.slice (some ⟨gg,0,none⟩) (k+1) cap)):=by
 have hsb:Wb.heap.size=W.heap.size+1:=by rw [EN];simp
 have hlt:=h.lt;have hs6:W.heap.size≤w6.heap.size:=by have:=hg.size;omega
 have hbl:∀b,b<W.heap.size→some b≠(Value.slice Az k cz).ownBlock→w6.heap[b]? =W.heap[b]? :=fun b hb hn=>
  (hg.block b (by omega) hn).trans (by rw [EN];exact Below.heap_alloc W _ b hb)
 have hlow:∀b,b<w.heap.size+3→some b≠(Value.slice Az k cz).ownBlock:=dV h.own;have hgg:=gq hown;have hset:∀b,b≠w.heap.size+2→(w6.setCell ⟨w.heap.size+2,3,none⟩ (.slice (some ⟨gg,0,none⟩) (k+1) cap)).heap[b]? =w6.heap[b]? :=fun b hb=>heap_setCell_other w6 ⟨w.heap.size+2,3,none⟩ b _ hb;have hsz:(w6.setCell ⟨w.heap.size+2,3,none⟩ (.slice (some ⟨gg,0,none⟩) (k+1) cap)).heap.size=w6.heap.size:=by simp [World.setCell]
 have hmm:∀b,w.heap.size+3≤b→b<W.heap.size→some b≠(Value.slice Az k cz).ownBlock→(w6.setCell ⟨w.heap.size+2,3,none⟩ (.slice (some ⟨gg,0,none⟩) (k+1) cap)).heap[b]? =W.heap[b]? ∧some b≠(Value.slice (some ⟨gg,0,none⟩) (k+1) cap).ownBlock:=fun b h1 h2 h3=>by
  refine ⟨(hset b (by omega)).trans (hbl b h2 h3),fun e=>?_⟩;have e2:b=gg:=by simpa [Value.ownBlock] using e
  rcases hat with e3|e3
  ·exact h3 (by rw [e2];exact e3.symm)
  ·omega
 refine ⟨⟨(hset _ (by omega)).trans ((hbl _ (by omega) (hlow _ (by omega))).trans h.it.var)⟩,⟨(hset _ (by omega)).trans ((hbl _ (by omega) (hlow _ (by omega))).trans h.r.var)⟩,?_,?_,?_,?_⟩
 ·have h1:AV (w.heap.size+2) 32 (ai T (.slice Az k cz)) w6:=⟨(hbl _ (by omega) (hlow _ (by omega))).trans h.t.var⟩;have h2:=h1.put 3 (.slice (some ⟨gg,0,none⟩) (k+1) cap);rw [kP] at h2;exact h2
 ·have h1:Below w.heap.size w Wb:=by rw [EN];exact ah h.lo (ag W _)
  have hob:Wb.ownsRow (w.heap.size+3) 55 9 (.slice Az k cz) k (aP ys):=by rw [EN];exact own_below h.own (ag W _)
  exact (di h1 (aX hob (by omega)) (by omega) hg).setCell (p:=⟨w.heap.size+2,3,none⟩) (show w.heap.size≤w.heap.size+2 by omega) _
 ·have h1:=dA (p:=⟨w.heap.size+2,3,none⟩) (u:= .slice (some ⟨gg,0,none⟩) (k+1) cap) hown (fun e=>absurd (show w.heap.size+2=gg by simpa [Value.ownBlock] using e) (by omega));have e:aP (ys++ [y])=aP ys++y.cells.toList:=by simp [aP]
  rw [e];exact h1
 ·intro y' hy';rcases List.mem_append.1 hy' with h1|h1
  ·exact (h.mem y' h1).keep (by rw [hsz];exact hs6) hmm
  ·obtain rfl:=List.mem_singleton.1 h1;exact hy.keep (by rw [hsz];exact hs6) hmm
end
theorem jJ (W:World) (bb:Nat) (x:Int) (h:W.heap[bb]? =some (.cells #[.int .u8 x] 5 (0,0))):(convert 22 9 (.slice (some ⟨bb,0,none⟩) 1 1)).run Tryz.prog W= .ok (.string ⟨#[UInt8.ofNat x.toNat]⟩) W:=by
 have e:(⟨#[UInt8.ofNat x.toNat]⟩:ByteArray)=strOfNums [x]:=rfl;rw [e];refine run_convert_bytes_arg _ _ _ Tryz.underlying22 Tryz.underlying5 bb 0 1 1 [x] rfl (fun i hi=>?_) _ Tryz.underlying9;have:i=0:=by omega
 subst this;exact cell_of_row W bb 0 _ _ _ h
theorem jb (k:Nat):(⟨#[122]⟩:ByteArray)++⟨#[UInt8.ofNat (97+(k:Int)).toNat]⟩=aT k:=by
 have e:(97+(k:Int)).toNat=97+k:=by omega
 rw [e];rfl
def wC (vs:List Cm):List Ze:=(vs.take 3).mapIdx fun i v=>⟨aT i,jD v.x⟩
theorem J3 (vs:List Cm) (k:Nat) (v:Cm) (hv:vs[k]? =some v):(vs.take (k+1)).mapIdx (fun i v=>(⟨aT i,jD v.x⟩:Ze))=(vs.take k).mapIdx (fun i v=>(⟨aT i,jD v.x⟩:Ze))++ [⟨aT k,jD v.x⟩]:=by
 have hk:=(iU.1 hv).1;have e:vs.take (k+1)=vs.take k++ [v]:=by
  rw [List.take_add_one,hv];rfl
 rw [e,List.mapIdx_append];simp [List.length_take,Nat.min_eq_left (Nat.le_of_lt hk)]
def dX (w:World) (zb zo m ic k:Nat) (v:Cm) (W:World):Prop:=W.cell? ⟨w.heap.size,0,none⟩=some (.slice (some ⟨zb,zo,none⟩) m ic)∧W.rangeAt zb (zo+k*14) v.cells
theorem dX.of {w W:World} {zb zo m ic k:Nat} {v:Cm} {x:Value} (hit:AV w.heap.size 80 #[.slice (some ⟨zb,zo,none⟩) m ic,x] W) (hlo:Below w.heap.size w W) (hr:w.rangeAt zb (zo+k*14) v.cells) (hb:zb<w.heap.size):dX w zb zo m ic k v W:=
 ⟨hit.cell 0,aU hr hlo hb⟩
theorem gI.grow {lo:Nat} {v:Value} {W W':World} {s:Zs} {z:Zn} (h:gI lo v W s z) (hb:Below W.heap.size W W'):gI lo v W' s z:=h.keep hb.size fun b _ h2 h3=>⟨hb.block b h2,h3⟩
theorem oI.start (w:World) (ib:Array Value) (T:Tb) (z:Array Value):oI w ib T 0 none 0 [] ((((w.alloc (.cells ib 80)).alloc (.cells (ai bQ (.slice none 0 0)) 32)).alloc (.cells z 32)).setRow (w.heap.size+2) (ai T (.slice none 0 0))):=by
 obtain ⟨W,hW⟩:∃W,(w.alloc (.cells ib 80)).alloc (.cells (ai bQ (.slice none 0 0)) 32)=W:=⟨_,rfl⟩;have hs:W.heap.size=w.heap.size+2:=by rw [←hW];simp
 have hb:Below w.heap.size w W:=by rw [←hW];exact ah (ag w _) (ag _ _)
 have h1:AV w.heap.size 80 ib W:=by rw [←hW];exact ⟨heap_alloc2_old w _ _⟩
 have h2:AV (w.heap.size+1) 32 (ai bQ (.slice none 0 0)) W:=by rw [←hW];exact ⟨heap_alloc2_new w _ _⟩
 have h3:=AV.new W z 32;rw [hs] at h3;rw [hW];have hb2:=ag W (.cells z 32);exact ⟨(h1.below hb2).qJ (by omega) _,(h2.below hb2).qJ (by omega) _,h3.lq _,aC (ah hb hb2) (by omega) _,World.ownsRow_nil _ _ _ _,fun _ h=>nomatch h⟩
theorem oI.mid {w W w6:World} {ib:Array Value} {T:Tb} {k cz:Nat} {Az:Option Addr} {ys:List dm} (h:oI w ib T k Az cz ys W) (o:Obj) (hg:(W.alloc o).grownBy w6 (Value.slice Az k cz).ownBlock):AV w.heap.size 80 ib w6∧AV (w.heap.size+2) 32 (ai T (.slice Az k cz)) w6∧Below w.heap.size w w6:=by
 have hlt:=h.lt;have hbl:∀b,b<W.heap.size→some b≠(Value.slice Az k cz).ownBlock→w6.heap[b]? =W.heap[b]? :=fun b hb hn=>
  (hg.block b (by simp;omega) hn).trans (Below.heap_alloc W _ b hb)
 have hlow:∀b,b<w.heap.size+3→some b≠(Value.slice Az k cz).ownBlock:=dV h.own;exact ⟨⟨(hbl _ (by omega) (hlow _ (by omega))).trans h.it.var⟩,⟨(hbl _ (by omega) (hlow _ (by omega))).trans h.t.var⟩,di (ah h.lo (ag W o)) (aX (own_below h.own (ag W o)) (by omega)) (by simp;omega) hg⟩
theorem wE {w w':World} {lo e size n:Nat} {v:Value} {xs:List Value} (h:w.ownsRow lo e size v n xs) (_hs:w.heap.size≤w'.heap.size) (hb:∀b,lo≤b→b<w.heap.size→w'.heap[b]? =w.heap[b]?):w'.ownsRow lo e size v n xs:=by
 refine ⟨h.1,?_⟩;rcases h.2 with h2|⟨g,cap,cur,h1,h2,h3,h4⟩
 ·exact .inl h2
 ·exact .inr ⟨g,cap,cur,h1,h2,(hb g h2 (aZ.1 h3).1).trans h3,h4⟩
theorem Hz:∀(vs pre old ZK:List Value),old.length=vs.length→wH (pre++old++ZK).toArray pre.length vs=(pre++vs++ZK).toArray
 | [],pre,old,ZK,h=>by
  have:old= []:=List.eq_nil_of_length_eq_zero h;simp [wH,this]
 |v::r,pre,old,ZK,h=>by
  obtain ⟨x,old',rfl⟩:∃x old',old=x::old':=by
   cases old with
   |nil=>simp at h
   |cons x o=>exact ⟨x,o,rfl⟩
  have h2:=Hz r (pre++ [v]) old' ZK (by simpa using h);have e:(pre++x::old'++ZK).toArray.setIfInBounds pre.length v=((pre++ [v])++old'++ZK).toArray:=by simp
  unfold wH;rw [e];simpa using h2
theorem Il (t:Tb) (v:Value) (m:List UInt8) (h1:t.prev.length=32) (h2:m.length=32):wH (ai t v) 4 (az m)=ai {t with prev:=m} v:=by
 have h:=Hz (az m) [I t.bz,I t.version,I t.aJ,v] (az t.prev) (az t.bK) (by simp [az,h1,h2]);have e1:ai t v=([I t.bz,I t.version,I t.aJ,v]++az t.prev++az t.bK).toArray:=by simp [ai,kK]
 have e2:ai {t with prev:=m} v=([I t.bz,I t.version,I t.aJ,v]++az m++az t.bK).toArray:=by simp [ai,kK]
 rw [e1,e2];exact h
theorem oI.prev {w W:World} {ib:Array Value} {T:Tb} {k cz:Nat} {Az:Option Addr} {ys:List dm} (h:oI w ib T k Az cz ys W) (hp:T.prev.length=32) (d:List UInt8) (hd:d.length=32):
  oI w ib {T with prev:=d} k Az cz ys (W.setCells (w.heap.size+2) 4 (cD d).toList):=by
 have ho:∀b,b≠w.heap.size+2→(W.setCells (w.heap.size+2) 4 (cD d).toList).heap[b]? =W.heap[b]? :=fun b hb=>nH _ _ _ _ b hb;have hs:(W.setCells (w.heap.size+2) 4 (cD d).toList).heap.size=W.heap.size:=sG _ _ _ _;have ht:=h.t.setQ 4 (cD d).toList;rw [show wH _ 4 (cD d).toList=_ from Il T _ d hp hd] at ht;refine ⟨h.it.UF (by omega) _ _,h.r.UF (by omega) _ _,ht,nC (by omega) _ _ _ h.lo,?_,fun y hy=>(h.mem y hy).keep (by rw [hs];omega) fun b h1 h2 h3=>⟨ho b (by omega),h3⟩⟩;exact wE h.own (by rw [hs];omega) fun b h1 _=>ho b (by omega)
theorem oI.fin {w W:World} {ib:Array Value} {T:Tb} {k cz:Nat} {Az:Option Addr} {ys:List dm} (h:oI w ib T k Az cz ys W) (hp:T.prev.length=32) (hm:T.bK.length=32) (cs:Array Value):
  kF (W.setRow (w.heap.size+1) cs) (W.setRow (w.heap.size+1) cs).heap.size ⟨{T with aS:=ys.map (·.e)},Az,cz,ys⟩∧Below w.heap.size w (W.setRow (w.heap.size+1) cs):=by
 have ho:∀b,b≠w.heap.size+1→(W.setRow (w.heap.size+1) cs).heap[b]? =W.heap[b]? :=fun b hb=>setRow_other _ _ b _ hb;have hs:(W.setRow (w.heap.size+1) cs).heap.size=W.heap.size:=by simp [World.setRow]
 have h1:oI w ib T k Az cz ys W:=h;refine ⟨⟨rfl,hp,hm,⟨aB.dZ (wE h.own (by rw [hs];omega) fun b h1 _=>ho b (by omega)),fun y hy=>((h.mem y hy).keep (v':= .slice Az k cz) (by rw [hs];omega) fun b h1 h2 h3=>⟨ho b (by omega),h3⟩).at⟩⟩,aC h.lo (Nat.le_succ _) _⟩
theorem kL (y:dm):∀u∈y.cells.toList,u.oneCell'=true:=by
 have h:=vk [y];simpa [aP] using h
def uq (lo:Nat) (y:eF):Prop:=rq lo y.A (aP y.zs)∧∀z∈y.zs,Gw lo z.s z.e.z
theorem LV.low {lo lo':Nat} {v:Value} {W:World} {A:Option Addr} {cs:List Value} (h:LV lo v W A cs) (hl:lo'≤lo):rq lo' A cs:=by
 rcases h with h|⟨b,off,h1,h2,_⟩
 ·exact .inl h
 ·exact .inr ⟨b,off,h1,Nat.le_trans hl h2⟩
theorem oI.low {w W:World} {ib:Array Value} {T T':Tb} {k cz:Nat} {Az:Option Addr} {ys:List dm} (h:oI w ib T k Az cz ys W):uq w.heap.size ⟨T',Az,cz,ys⟩:=by
 refine ⟨?_,fun y hy=>?_⟩
 ·rcases h.own.2 with ⟨hv,hn⟩|⟨g,cap,cur,hv,hg,_⟩
  ·refine .inl ?_;show (aP ys).length=0;rw [h.own.1,hn,Nat.zero_mul]
  ·injection hv with h1 _ _;exact .inr ⟨g,0,h1,by omega⟩
 ·obtain ⟨h1,h2,h3,h4⟩:=h.mem y hy;exact ⟨h1.low (by omega),h2.low (by omega),h3.low (by omega),h4.low (by omega)⟩
def WE (w:World) (n:Nat) (Hg:UInt8) (x:Gq) (e:Ending) (w':World):Prop:=
 ∃y:eF,e= .returned (.agg (ai y.t (.slice y.A y.zs.length y.c)))∧kF w' w'.heap.size y∧y.t.bz=(Hg.toNat:Int)%16∧y.t.version=(n:Int)+1∧y.t.aJ=(x.wd.toNat:Int)%((n:Int)+1)∧(n=0→y.t.prev=aO)∧y.t.aS=wC x.vs∧uq w.heap.size y∧Below w.heap.size w w'
theorem qI:(Tryz.prog.info? 32).map (fun i=>(i.zero,i.size,i.bytes))=some (some (.agg (ai bQ (.slice none 0 0))),68,112):=by kernel_rfl
section
variable {ops:Array Oper} {rest:List Oper} {o:Oper} {a:Act} {Q:Exit→Act→World→Prop} {w:World}
theorem uZ (hgd:o.guard=none) (x:Operand) (ho:o.op= .buildSlice 39 1 #[(0,x)]) (cs:Array Value) (hcs:cs.size=68)
  (hx:a.eval x= .agg cs) (h:wpList Tryz.prog ops Q rest (a.put o.dst (.slice (some ⟨w.heap.size,0,none⟩) 1 1)) (w.alloc (.cells cs 32))):wpList Tryz.prog ops Q (o::rest) a w:=by
 obtain ⟨i0,hi,hz0,hz1,hz2⟩:=info_parts qI;refine wpList_buildSlice hgd 39 32 1 _ ho cs i0 (.agg (ai bQ (.slice none 0 0))) Tryz.underlying39 hi hz0 (by rw [hz1];decide) (by rw [hz1];decide) ?_ h;rw [hz1];simp only [List.map_toArray,List.map_cons,List.map_nil,hx];have h:=Go.Great.fill_whole (s:=68) (by omega) [.agg cs] ((Array.range (1*68)).map ((Value.agg (ai bQ (.slice none 0 0))).cells[· %(Value.agg (ai bQ (.slice none 0 0))).cells.size]!)) (fun v hv=>by simp at hv;subst hv;exact hcs) (by simp);have e:([Value.agg cs].flatMap fun v=>v.cells.toList).toArray=cs:=by simp [Value.cells]
 rw [e] at h;exact h
theorem qF {P:Program} (ty:TypeId) {n:Nat} {x:Array (Nat×Operand)} {d:Option Tmp} {t:TypeId} {pos:String} {af:Array Edge} {g:Option (Nat×Bool)} (h:wpList P ops Q (⟨d, .buildSlice ty n x,t,pos,af,g⟩::rest) a w):wpList P ops Q (⟨d, .buildSlice ty n x,t,pos,af,g⟩::rest) a w:=h
end
structure nV where
 Hg:UInt8
 key:List UInt8
 A:Option Addr
 c:Nat
 its:List Gq
def nV.cells (r:nV):List Value:=Extern.Stop.cell r.Hg::(az r.key++ [.slice r.A r.its.length r.c])
theorem nV.len (r:nV) (h:r.key.length=32):r.cells.length=34:=by simp [nV.cells,az,h]
structure uo (w:World) (B:Nat) (r:nV):Prop where
 key:r.key.length=32
 len:r.its.length≤9223372036854775807
 row:aB w B r.A (r.its.flatMap fun x=>x.cells.toList)
 each:∀x∈r.its,Cj w B x
theorem uo.keep {w w':World} {B:Nat} {r:nV} (h:uo w B r) (hb:Below B w w'):uo w' B r:=⟨h.key,h.len,h.row.keep hb,fun v hv=>(h.each v hv).keep hb⟩
theorem uo.more {w:World} {B B':Nat} {r:nV} (h:uo w B r) (hB:B≤B'):uo w B' r:=⟨h.key,h.len,h.row.more hB,fun v hv=>(h.each v hv).more hB⟩
theorem Vg {W:World} {b:Nat} {r:nV} (h:oJ W b r.cells.toArray):W.rangeAt b 1 (az r.key):=fun j v hv=>by
 rw [h.2 (1+j)];unfold nV.cells;have hj:=(iU.1 hv).1;rw [List.getElem?_toArray,Nat.add_comm 1 j,List.getElem?_cons_succ,List.getElem?_append_left hj];exact hv
theorem MJ (r:nV) (h:r.key.length=32):r.cells.toArray[33]? =some (.slice r.A r.its.length r.c):=by
 unfold nV.cells;rw [List.getElem?_toArray,show (33:Nat)=32+1 from rfl,List.getElem?_cons_succ,List.getElem?_append_right (by simp [az,h])];simp [az,h]
theorem LV.U8 {lo lo' B:Nat} {v:Value} {W:World} {A:Option Addr} {cs:List Value} (h:aB W B A cs) (hB:B≤W.heap.size) (h2:rq lo' A cs) (hlo:lo≤lo') (hv:∀b,lo'≤b→b<B→some b≠v.ownBlock):LV lo v W A cs:=by
 rcases h with h|⟨b,off,e,hb,hc⟩
 ·exact .inl h
 ·rcases h2 with h2|⟨b2,zf,e2,hl⟩
  ·exact .inl h2
  ·rw [e] at e2;injection e2 with e2;injection e2 with e3 e4;subst e3;exact .inr ⟨b,off,e,by omega,by omega,hv b hl hb,hc⟩
theorem jh.of {lo lo' B:Nat} {v:Value} {W:World} {y:eF} (h:kF W B y) (hB:B≤W.heap.size) (h2:uq lo' y) (hlo:lo≤lo') (hv:∀b,lo'≤b→b<B→some b≠v.ownBlock):jh lo v W y:=
 ⟨.U8 h.aS.row hB h2.1 hlo hv,fun z hz=>⟨.U8 (h.aS.each z hz).au hB (h2.2 z hz).1 hlo hv, .U8 (h.aS.each z hz).rules hB (h2.2 z hz).2.1 hlo hv, .U8 (h.aS.each z hz).trans hB (h2.2 z hz).2.2.1 hlo hv, .U8 (h.aS.each z hz).ay hB (h2.2 z hz).2.2.2 hlo hv⟩⟩
theorem LV.vZ {lo lo':Nat} {v:Value} {W:World} {A:Option Addr} {cs:List Value} (h:LV lo v W A cs) (hl:lo'≤lo):LV lo' v W A cs:=by
 rcases h with h|⟨b,off,h1,h2,h3⟩
 ·exact .inl h
 ·exact .inr ⟨b,off,h1,Nat.le_trans hl h2,h3⟩
theorem LV.vary {lo:Nat} {v v':Value} {W:World} {A:Option Addr} {cs:List Value} (h:LV lo v W A cs) (hv:∀b,lo≤b→b<W.heap.size→some b≠v'.ownBlock):LV lo v' W A cs:=by
 rcases h with h|⟨b,off,h1,h2,h3,h4,h5⟩
 ·exact .inl h
 ·exact .inr ⟨b,off,h1,h2,h3,hv b h2 h3,h5⟩
theorem jh.vary {lo lo':Nat} {v v':Value} {W:World} {y:eF} (h:jh lo v W y) (hl:lo'≤lo) (hv:∀b,lo≤b→b<W.heap.size→some b≠v'.ownBlock):jh lo' v' W y:=
 ⟨(h.1.vary hv).vZ hl,fun z hz=>⟨((h.2 z hz).1.vary hv).vZ hl,((h.2 z hz).2.1.vary hv).vZ hl,((h.2 z hz).2.2.1.vary hv).vZ hl,((h.2 z hz).2.2.2.vary hv).vZ hl⟩⟩
theorem jh.low {lo lo':Nat} {v:Value} {W:World} {y:eF} (h:jh lo v W y) (hl:lo'≤lo):uq lo' y:=⟨h.1.low hl,fun z hz=>⟨(h.2 z hz).1.low hl,(h.2 z hz).2.1.low hl,(h.2 z hz).2.2.1.low hl,(h.2 z hz).2.2.2.low hl⟩⟩
structure Yq (y:eF):Prop where
 made:Ey y.t
 names:y.t.aS=y.zs.map (·.e)
 prev:y.t.prev.length=32
 bK:y.t.bK.length=32
theorem Yq.size {y:eF} (h:Yq y):y.cells.length=68:=by
 have:=bG y.t (.slice y.A y.zs.length y.c) h.prev h.bK;simpa [ai,eF.cells] using this
theorem Yq.at {y:eF} (h:Yq y) {lo:Nat} {v:Value} {W:World} (hm:jh lo v W y):kF W W.heap.size y:=⟨h.names,h.prev,h.bK,⟨hm.1.at,fun z hz=>(hm.2 z hz).at⟩⟩
structure xx (w:World) (rc:Array Value) (k c:Nat) (A:Option Addr) (ts:List eF) (W:World):Prop where
 it:AV w.heap.size 27 rc W
 lo:Below w.heap.size w W
 own:W.ownsRow (w.heap.size+1) 32 68 (.slice A k c) k (ts.flatMap eF.cells)
 mem:∀y∈ts,jh (w.heap.size+1) (.slice A k c) W y
 each:∀y∈ts,Yq y
section
variable {w W W':World} {rc:Array Value} {k c:Nat} {A:Option Addr} {ts:List eF}
theorem xx.step (h:xx w rc k c A ts W) (ho:W'.os=W.os) (htp:W'.tape=W.tape) (hou:W'.output=W.output) (hs:W.heap.size≤W'.heap.size) (hb:∀b,b<W.heap.size→W'.heap[b]? =W.heap[b]?):xx w rc k c A ts W':=
 have hB:Below W.heap.size W W':=⟨ho,htp,hou,hs,hb⟩
 ⟨h.it.below hB,ah h.lo hB,own_below h.own hB,fun y hy=>(h.mem y hy).keep hs fun b _ h2 h3=>⟨hb b h2,h3⟩,h.each⟩
theorem xx.grow (h:xx w rc k c A ts W) (hb:Below W.heap.size W W'):xx w rc k c A ts W':=h.step hb.os hb.tape hb.output hb.size hb.block
theorem xx.drew (h:xx w rc k c A ts W):xx w rc k c A ts W.drew:=h.grow ((Below.refl _ W).drew)
theorem xx.lt (h:xx w rc k c A ts W):w.heap.size<W.heap.size:=h.it.lt
theorem xx.chain (h:xx w rc k c A ts W):jR W W.heap.size A ts:=⟨aB.dZ h.own,fun y hy=>(h.each y hy).at (h.mem y hy)⟩
theorem xx.qg (h:xx w rc k c A ts W):∀b,W.heap.size≤b→some b≠(Value.slice A k c).ownBlock:=fun b hb e=>by
 have:=World.ownsRow.lt h.own b e.symm;omega
theorem xx.add {Wb w6:World} {gg cap:Nat} {y:eF} (h:xx w rc k c A ts W) (hy:jh (w.heap.size+1) (.slice A k c) W y) (hf:Yq y) (EN:Wb=W.alloc (.cells y.cells.toArray 32))
  (hown:w6.ownsRow (w.heap.size+1) 32 68 (.slice (some ⟨gg,0,none⟩) (k+1) cap) (k+1) (ts.flatMap eF.cells++y.cells)) (hg:Wb.grownBy w6 (Value.slice A k c).ownBlock) (hat:(Value.slice A k c).ownBlock=some gg∨gg=Wb.heap.size):
  xx w rc (k+1) cap (some ⟨gg,0,none⟩) (ts++ [y]) w6:=by
 have hsb:Wb.heap.size=W.heap.size+1:=by rw [EN];simp
 have hlt:=h.lt;have hs6:W.heap.size≤w6.heap.size:=by have:=hg.size;omega
 have hbl:∀b,b<W.heap.size→some b≠(Value.slice A k c).ownBlock→w6.heap[b]? =W.heap[b]? :=fun b hb hn=>
  (hg.block b (by omega) hn).trans (by rw [EN];exact Below.heap_alloc W _ b hb)
 have hlow:∀b,b<w.heap.size+1→some b≠(Value.slice A k c).ownBlock:=dV h.own;have hmm:∀b,w.heap.size+1≤b→b<W.heap.size→some b≠(Value.slice A k c).ownBlock→w6.heap[b]? =W.heap[b]? ∧some b≠(Value.slice (some ⟨gg,0,none⟩) (k+1) cap).ownBlock:=fun b h1 h2 h3=>by
  refine ⟨hbl b h2 h3,fun e=>?_⟩;have e2:b=gg:=by simpa [Value.ownBlock] using e
  rcases hat with e3|e3
  ·exact h3 (by rw [e2];exact e3.symm)
  ·omega
 have h1:Below w.heap.size w Wb:=by rw [EN];exact ah h.lo (ag W _)
 have hob:Wb.ownsRow (w.heap.size+1) 32 68 (.slice A k c) k (ts.flatMap eF.cells):=by rw [EN];exact own_below h.own (ag W _)
 refine ⟨⟨(hbl _ (by omega) (hlow _ (by omega))).trans h.it.var⟩,di h1 (aX hob (by omega)) (by omega) hg,by simpa using hown,fun y' hy'=>?_,fun y' hy'=>?_⟩
 ·rcases List.mem_append.1 hy' with h1|h1
  ·exact (h.mem y' h1).keep hs6 hmm
  ·obtain rfl:=List.mem_singleton.1 h1;exact hy.keep hs6 hmm
 ·rcases List.mem_append.1 hy' with h1|h1
  ·exact h.each y' h1
  ·obtain rfl:=List.mem_singleton.1 h1;exact hf
end
def xw (w:World) (r:nV) (ib io n k:Nat) (x:Gq) (W:World):Prop:=
 W.cell? ⟨w.heap.size,0,none⟩=some (.int .u8 (r.Hg.toNat:Int))∧W.cell? ⟨w.heap.size,33,none⟩=some (.slice (some ⟨ib,io,none⟩) n r.c)∧W.rangeAt w.heap.size 1 (az r.key)∧W.rangeAt ib (io+k*2) x.cells.toList
theorem xw.of {w W:World} {r:nV} {ib io n k:Nat} {x:Gq} (hk:r.key.length=32) (hn:r.its.length=n) (hA:r.A=some ⟨ib,io,none⟩) (hit:AV w.heap.size 27 r.cells.toArray W) (hlo:Below w.heap.size w W) (hr:w.rangeAt ib (io+k*2) x.cells.toList) (hb:ib<w.heap.size):xw w r ib io n k x W:=
 ⟨hit.cell 0,by rw [hit.cell 33,MJ r hk,hn,hA],Vg hit.jK,aU hr hlo hb⟩
theorem DZ (vs:List Cm) (k:Nat) (e:Ze) (h:(wC vs)[k]? =some e):k<3∧∃v:Cm,e=⟨aT k,jD v.x⟩:=by
 unfold wC at h;rw [List.getElem?_mapIdx] at h;cases hv:(vs.take 3)[k]? with
 |none=>rw [hv] at h;cases h
 |some v=>
  rw [hv] at h;have hk:=(iU.1 hv).1;rw [List.length_take] at hk;injection h with h;exact ⟨by omega,v,h.symm⟩
theorem Oh (vs:List Cm):(wC vs).length≤3:=by
 unfold wC;rw [List.length_mapIdx,List.length_take];omega
theorem Ik {n:Nat} {Hg:UInt8} {x:Gq} {y:eF} (hn:n≤4) (h1:y.t.bz=(Hg.toNat:Int)%16) (h2:y.t.version=(n:Int)+1) (h3:y.t.aJ=(x.wd.toNat:Int)%((n:Int)+1)) (h4:n=0→y.t.prev=aO) (h5:y.t.aS=wC x.vs):Ey y.t:=by
 have hb:=fV Hg;have hw1:0≤(x.wd.toNat:Int)%((n:Int)+1):=Int.emod_nonneg _ (by omega);have hw2:(x.wd.toNat:Int)%((n:Int)+1)<(n:Int)+1:=Int.emod_lt_of_pos _ (by omega);refine ⟨by rw [h1];omega,by rw [h2];omega,by rw [h3,h2];exact ⟨hw1,hw2⟩,fun h=>h4 (by rw [h2] at h;omega),by rw [h5];exact Oh _,fun e he=>?_,fun k e he=>?_⟩
 ·rw [h5] at he;obtain ⟨k,hk⟩:=List.getElem?_of_mem he;obtain ⟨_,v,rfl⟩:=DZ _ _ _ hk;exact Oe v.x
 ·rw [h5] at he;obtain ⟨_,v,rfl⟩:=DZ _ _ _ he;rfl
theorem Ey.ZH {t:Tb} (h:Ey t) (d:List UInt8):Ey {t with bK:=d}:=⟨h.bz,h.version,h.aJ,h.first,h.num,h.aS,h.names⟩
end Go.Proofs.YtdibbemgpikgjaaGreat
