/- The texts Qi, Qj, Kj, Ld, Lea, Lf, in this order. -/
import Derived.Test.YtbaehbbonkljpaaGreatDoorS00
import Derived.Test.YtbaehbbonkljpaaGreatDoorS05
import Derived.Test.YtbaehbbonkljpaaGreatDoorS08
import Derived.Test.YtbaehbbonkljpaaGreatDoorS11
import Derived.Test.YtbaehbbonkljpaaGreatDoorS28
set_option maxRecDepth 10000
set_option maxHeartbeats 8000000
namespace Go.Proofs.YtbaehbbonkljpaaGreatDoor
open Go Go.RowKit
def LV (lo:Nat) (v:Value) (W:World) (A:Option Addr) (cs:List Value):Prop:=
 cs.length=0\/∃b off,A=some ⟨b,off,none⟩/\lo<=b/\b<W.heap.size/\some b≠v.ownBlock/\∀j u,cs[j]? =some u->W.cell? ⟨b,off+j,none⟩=some u
theorem LV.keep {lo:Nat} {v v':Value} {W W':World} {A:Option Addr} {cs:List Value} (h:LV lo v W A cs) (hs:W.heap.size<=W'.heap.size) (hb:∀b,lo<=b->b<W.heap.size->some b≠v.ownBlock->W'.heap[b]? =W.heap[b]? /\some b≠v'.ownBlock):LV lo v' W' A cs:=by
 rcases h with h|⟨b,off,h1,h2,h3,h4,h5⟩
 ·exact .inl h
 ·exact .inr ⟨b,off,h1,h2,by omega,(hb b h2 h3 h4).2,fun j u hu=>(World.cell?_of_block (a:=⟨b,off+j,none⟩) (hb b h2 h3 h4).1).trans (h5 j u hu)⟩
theorem LV.at {lo:Nat} {v:Value} {W:World} {A:Option Addr} {cs:List Value} (h:LV lo v W A cs):aA W W.heap.size A cs:=by
 rcases h with h|⟨b,off,h1,h2,h3,h4,h5⟩
 ·exact .inl h
 ·exact .inr ⟨b,off,h1,h3,h5⟩
def gY (lo:Nat) (v:Value) (W:World) (s:Zs) (z:Zn):Prop:=LV lo v W s.A (z.cal.au.map I)/\LV lo v W s.B (z.cal.rules.flatMap Lr.cells)/\LV lo v W s.C (z.trans.flatMap Tr.cells)/\LV lo v W s.D (z.aH.flatMap Yr.cells)
theorem gY.keep {lo:Nat} {v v':Value} {W W':World} {s:Zs} {z:Zn} (h:gY lo v W s z) (hs:W.heap.size<=W'.heap.size) (hb:∀b,lo<=b->b<W.heap.size->some b≠v.ownBlock->W'.heap[b]? =W.heap[b]? /\some b≠v'.ownBlock):gY lo v' W' s z:=
 ⟨h.1.keep hs hb,h.2.1.keep hs hb,h.2.2.1.keep hs hb,h.2.2.2.keep hs hb⟩
theorem gY.at {lo:Nat} {v:Value} {W:World} {s:Zs} {z:Zn} (h:gY lo v W s z):iP W W.heap.size s z:=⟨h.1.at,h.2.1.at,h.2.2.1.at,h.2.2.2.at⟩
def iK (lo:Nat) (v:Value) (W:World) (y:dF):Prop:=LV lo v W y.A (aU y.zs)/\∀z∈y.zs,gY lo v W z.s z.e.z
theorem iK.keep {lo:Nat} {v v':Value} {W W':World} {y:dF} (h:iK lo v W y) (hs:W.heap.size<=W'.heap.size) (hb:∀b,lo<=b->b<W.heap.size->some b≠v.ownBlock->W'.heap[b]? =W.heap[b]? /\some b≠v'.ownBlock):iK lo v' W' y:=
 ⟨h.1.keep hs hb,fun z hz=>(h.2 z hz).keep hs hb⟩
theorem YI (y:dF):∀u∈y.cells,u.oneCell'=true:=by
 have h:=aT y.t y.A y.zs.length y.c;rw [Array.all_eq_true_iff_forall_mem] at h;intro u hu;exact h u (by simpa [ai,dF.cells] using hu)
def sZ (lo:Nat) (A:Option Addr) (cs:List Value):Prop:=cs.length=0\/∃b off,A=some ⟨b,off,none⟩/\lo<=b
theorem LZ.low {lo lo' B g:Nat} {w:World} {A:Option Addr} {cs:List Value} (h:LZ lo B g w A cs) (hlo:lo'<=lo):sZ lo' A cs:=by
 rcases h with h|⟨b,off,h1,h0,_⟩
 ·exact .inl h
 ·exact .inr ⟨b,off,h1,Nat.le_trans hlo h0⟩
def IK (lo:Nat) (s:Zs) (z:Zn):Prop:=sZ lo s.A (z.cal.au.map I)/\sZ lo s.B (z.cal.rules.flatMap Lr.cells)/\sZ lo s.C (z.trans.flatMap Tr.cells)/\sZ lo s.D (z.aH.flatMap Yr.cells)
def ZR (w:World) (z:Zn) (e:Ending) (w':World):Prop:=∃s,e= .returned (.agg (ay z s))/\iP w' w'.heap.size s z/\IK w.heap.size s z/\Below w.heap.size w w'
structure DX where
 x:EI
 G:Option Addr
 O:Option Addr
 gc:Nat
 oc:Nat
def DX.cells (v:DX):List Value:=(lU v.x v.G v.O v.gc v.oc).toList
structure FX (w:World) (B:Nat) (v:DX):Prop where
 gl:v.x.dS.length<=9223372036854775807
 ol:v.x.iI.length<=9223372036854775807
 g:aA w B v.G (v.x.dS.map Extern.Stop.cell)
 o:aA w B v.O (v.x.iI.map Extern.Stop.cell)
theorem FX.keep {w w':World} {B:Nat} {v:DX} (h:FX w B v) (hb:Below B w w'):FX w' B v:=⟨h.gl,h.ol,h.g.keep hb,h.o.keep hb⟩
theorem FX.more {w:World} {B B':Nat} {v:DX} (h:FX w B v) (hB:B<=B'):FX w B' v:=⟨h.gl,h.ol,h.g.more hB,h.o.more hB⟩
structure IE where
 A:Option Addr
 c:Nat
 vs:List DX
 wd:UInt8
def IE.cells (x:IE):Array Value:= #[.slice x.A x.vs.length x.c,Extern.Stop.cell x.wd]
structure DW (w:World) (B:Nat) (x:IE):Prop where
 len:x.vs.length<=9223372036854775807
 row:aA w B x.A (x.vs.flatMap DX.cells)
 each:∀v∈x.vs,FX w B v
theorem DW.keep {w w':World} {B:Nat} {x:IE} (h:DW w B x) (hb:Below B w w'):DW w' B x:=⟨h.len,h.row.keep hb,fun v hv=>(h.each v hv).keep hb⟩
theorem DW.more {w:World} {B B':Nat} {x:IE} (h:DW w B x) (hB:B<=B'):DW w B' x:=⟨h.len,h.row.more hB,fun v hv=>(h.each v hv).more hB⟩
theorem LV.of {lo lo':Nat} {v:Value} {W:World} {A:Option Addr} {cs:List Value} (h:aA W W.heap.size A cs) (h2:sZ lo' A cs) (hlo:lo<=lo') (hv:∀b,lo'<=b->some b≠v.ownBlock):LV lo v W A cs:=by
 rcases h with h|⟨b,off,e,hb,hc⟩
 ·exact .inl h
 ·rcases h2 with h2|⟨b2,xG,e2,hl⟩
  ·exact .inl h2
  ·rw [e] at e2;injection e2 with e2;injection e2 with e3 e4;subst e3;exact .inr ⟨b,off,e,by omega,hb,hv b hl,hc⟩
theorem gY.of {lo lo':Nat} {v:Value} {W:World} {s:Zs} {z:Zn} (h:iP W W.heap.size s z) (h2:IK lo' s z) (hlo:lo<=lo') (hv:∀b,lo'<=b->some b≠v.ownBlock):gY lo v W s z:=
 ⟨.of h.au h2.1 hlo hv, .of h.rules h2.2.1 hlo hv, .of h.trans h2.2.2.1 hlo hv, .of h.aH h2.2.2.2 hlo hv⟩
structure oQ (w:World) (ib:Array Value) (T:Tb) (k:Nat) (Az:Option Addr) (cz:Nat) (ys:List dw) (W:World):Prop where
 it:AV w.heap.size 48 ib W
 r:AV (w.heap.size+1) 26 (ai bu (.slice none 0 0)) W
 t:AV (w.heap.size+2) 26 (ai T (.slice Az k cz)) W
 lo:Below w.heap.size w W
 own:W.ownsRow (w.heap.size+3) 76 9 (.slice Az k cz) k (aU ys)
 mem:∀y∈ys,gY (w.heap.size+3) (.slice Az k cz) W y.s y.e.z
section
variable {w W W':World} {ib:Array Value} {T:Tb} {k cz:Nat} {Az:Option Addr} {ys:List dw}
theorem oQ.grow (h:oQ w ib T k Az cz ys W) (hb:Below W.heap.size W W'):oQ w ib T k Az cz ys W':=
 ⟨h.it.below hb,h.r.below hb,h.t.below hb,ah h.lo hb,own_below h.own hb,fun y hy=>(h.mem y hy).keep hb.size fun b _ h2 h3=>⟨hb.block b h2,h3⟩⟩
theorem oQ.drew (h:oQ w ib T k Az cz ys W):oQ w ib T k Az cz ys W.drew:=h.grow ((Below.refl _ W).drew)
theorem oQ.lt (h:oQ w ib T k Az cz ys W):w.heap.size+2<W.heap.size:=h.t.lt
theorem oQ.qA (h:oQ w ib T k Az cz ys W):∀b,W.heap.size<=b->some b≠(Value.slice Az k cz).ownBlock:=fun b hb e=>by
 have:=World.ownsRow.lt h.own b e.symm;omega
theorem oQ.add {Wb w6:World} {gg cap:Nat} {y:dw} (h:oQ w ib T k Az cz ys W) (hy:gY (w.heap.size+3) (.slice Az k cz) W y.s y.e.z) (Ai:Wb=W.alloc (.cells y.cells 76))
  (hown:w6.ownsRow (w.heap.size+3) 76 9 (.slice (some ⟨gg,0,none⟩) (k+1) cap) (k+1) (aU ys++y.cells.toList)) (hg:Wb.grownBy w6 (Value.slice Az k cz).ownBlock) (hat:(Value.slice Az k cz).ownBlock=some gg\/gg=Wb.heap.size):
  oQ w ib T (k+1) (some ⟨gg,0,none⟩) cap (ys++ [y]) (w6.setCell ⟨w.heap.size+2,3,none⟩ (.slice (some ⟨gg,0,none⟩) (k+1) cap)):=by
 have hsb:Wb.heap.size=W.heap.size+1:=by rw [Ai];simp
 have hlt:=h.lt;have hs6:W.heap.size<=w6.heap.size:=by have:=hg.size;omega
 have hbl:∀b,b<W.heap.size->some b≠(Value.slice Az k cz).ownBlock->w6.heap[b]? =W.heap[b]? :=fun b hb hn=>
  (hg.block b (by omega) hn).trans (by rw [Ai];exact Below.heap_alloc W _ b hb)
 have hlow:∀b,b<w.heap.size+3->some b≠(Value.slice Az k cz).ownBlock:=eG h.own;have hgg:=jC hown;have hset:∀b,b≠w.heap.size+2->(w6.setCell ⟨w.heap.size+2,3,none⟩ (.slice (some ⟨gg,0,none⟩) (k+1) cap)).heap[b]? =w6.heap[b]? :=fun b hb=>heap_setCell_other w6 ⟨w.heap.size+2,3,none⟩ b _ hb;have hsz:(w6.setCell ⟨w.heap.size+2,3,none⟩ (.slice (some ⟨gg,0,none⟩) (k+1) cap)).heap.size=w6.heap.size:=by simp [World.setCell]
 have hmm:∀b,w.heap.size+3<=b->b<W.heap.size->some b≠(Value.slice Az k cz).ownBlock->(w6.setCell ⟨w.heap.size+2,3,none⟩ (.slice (some ⟨gg,0,none⟩) (k+1) cap)).heap[b]? =W.heap[b]? /\some b≠(Value.slice (some ⟨gg,0,none⟩) (k+1) cap).ownBlock:=fun b h1 h2 h3=>by
  refine ⟨(hset b (by omega)).trans (hbl b h2 h3),fun e=>?_⟩;have e2:b=gg:=by simpa [Value.ownBlock] using e
  rcases hat with e3|e3
  ·exact h3 (by rw [e2];exact e3.symm)
  ·omega
 refine ⟨⟨(hset _ (by omega)).trans ((hbl _ (by omega) (hlow _ (by omega))).trans h.it.var)⟩,⟨(hset _ (by omega)).trans ((hbl _ (by omega) (hlow _ (by omega))).trans h.r.var)⟩,?_,?_,?_,?_⟩
 ·have h1:AV (w.heap.size+2) 26 (ai T (.slice Az k cz)) w6:=⟨(hbl _ (by omega) (hlow _ (by omega))).trans h.t.var⟩;have h2:=h1.put 3 (.slice (some ⟨gg,0,none⟩) (k+1) cap);rw [qE] at h2;exact h2
 ·have h1:Below w.heap.size w Wb:=by rw [Ai];exact ah h.lo (ag W _)
  have hob:Wb.ownsRow (w.heap.size+3) 76 9 (.slice Az k cz) k (aU ys):=by rw [Ai];exact own_below h.own (ag W _)
  exact (di h1 (aX hob (by omega)) (by omega) hg).setCell (p:=⟨w.heap.size+2,3,none⟩) (show w.heap.size<=w.heap.size+2 by omega) _
 ·have h1:=eP (p:=⟨w.heap.size+2,3,none⟩) (u:= .slice (some ⟨gg,0,none⟩) (k+1) cap) hown (fun e=>absurd (show w.heap.size+2=gg by simpa [Value.ownBlock] using e) (by omega));have e:aU (ys++ [y])=aU ys++y.cells.toList:=by simp [aU]
  rw [e];exact h1
 ·intro y' hy';rcases List.mem_append.1 hy' with h1|h1
  ·exact (h.mem y' h1).keep (by rw [hsz];exact hs6) hmm
  ·obtain rfl:=List.mem_singleton.1 h1;exact hy.keep (by rw [hsz];exact hs6) hmm
end
theorem jF (W:World) (bb:Nat) (x:Int) (h:W.heap[bb]? =some (.cells #[.int .u8 x] 5 (0,0))):(convert 55 9 (.slice (some ⟨bb,0,none⟩) 1 1)).run Tryz.prog W= .ok (.string ⟨#[UInt8.ofNat x.toNat]⟩) W:=by
 have e:(⟨#[UInt8.ofNat x.toNat]⟩:ByteArray)=strOfNums [x]:=rfl;rw [e];refine run_convert_bytes_arg _ _ _ Tryz.underlying55 Tryz.underlying5 bb 0 1 1 [x] rfl (fun i hi=>?_) _ Tryz.underlying9;have:i=0:=by omega
 subst this;exact cell_of_row W bb 0 _ _ _ h
theorem iT (k:Nat):(⟨#[122]⟩:ByteArray)++⟨#[UInt8.ofNat (97+(k:Int)).toNat]⟩=bW k:=by
 have e:(97+(k:Int)).toNat=97+k:=by omega
 rw [e];rfl
def xE (vs:List DX):List Ze:=(vs.take 3).mapIdx fun i v=>⟨bW i,jv v.x⟩
theorem Nh (vs:List DX) (k:Nat) (v:DX) (hv:vs[k]? =some v):(vs.take (k+1)).mapIdx (fun i v=>(⟨bW i,jv v.x⟩:Ze))=(vs.take k).mapIdx (fun i v=>(⟨bW i,jv v.x⟩:Ze))++ [⟨bW k,jv v.x⟩]:=by
 have hk:=(gQ.1 hv).1;have e:vs.take (k+1)=vs.take k++ [v]:=by
  rw [List.take_add_one,hv];rfl
 rw [e,List.mapIdx_append];simp [List.length_take,Nat.min_eq_left (Nat.le_of_lt hk)]
def eQ (w:World) (zb zo m ic k:Nat) (v:DX) (W:World):Prop:=W.cell? ⟨w.heap.size,0,none⟩=some (.slice (some ⟨zb,zo,none⟩) m ic)/\W.rangeAt zb (zo+k*14) v.cells
theorem eQ.of {w W:World} {zb zo m ic k:Nat} {v:DX} {x:Value} (hit:AV w.heap.size 48 #[.slice (some ⟨zb,zo,none⟩) m ic,x] W) (hlo:Below w.heap.size w W) (hr:w.rangeAt zb (zo+k*14) v.cells) (hb:zb<w.heap.size):eQ w zb zo m ic k v W:=
 ⟨hit.cell 0,aS hr hlo hb⟩
theorem gY.grow {lo:Nat} {v:Value} {W W':World} {s:Zs} {z:Zn} (h:gY lo v W s z) (hb:Below W.heap.size W W'):gY lo v W' s z:=h.keep hb.size fun b _ h2 h3=>⟨hb.block b h2,h3⟩
theorem oQ.start (w:World) (ib:Array Value) (T:Tb) (z:Array Value):oQ w ib T 0 none 0 [] ((((w.alloc (.cells ib 48)).alloc (.cells (ai bu (.slice none 0 0)) 26)).alloc (.cells z 26)).setRow (w.heap.size+2) (ai T (.slice none 0 0))):=by
 obtain ⟨W,hW⟩:∃W,(w.alloc (.cells ib 48)).alloc (.cells (ai bu (.slice none 0 0)) 26)=W:=⟨_,rfl⟩;have hs:W.heap.size=w.heap.size+2:=by rw [<-hW];simp
 have hb:Below w.heap.size w W:=by rw [<-hW];exact ah (ag w _) (ag _ _)
 have h1:AV w.heap.size 48 ib W:=by rw [<-hW];exact ⟨heap_alloc2_old w _ _⟩
 have h2:AV (w.heap.size+1) 26 (ai bu (.slice none 0 0)) W:=by rw [<-hW];exact ⟨heap_alloc2_new w _ _⟩
 have h3:=AV.new W z 26;rw [hs] at h3;rw [hW];have hb2:=ag W (.cells z 26);exact ⟨(h1.below hb2).rW (by omega) _,(h2.below hb2).rW (by omega) _,h3.qy _,aB (ah hb hb2) (by omega) _,World.ownsRow_nil _ _ _ _,fun _ h=>nomatch h⟩
theorem oQ.mid {w W w6:World} {ib:Array Value} {T:Tb} {k cz:Nat} {Az:Option Addr} {ys:List dw} (h:oQ w ib T k Az cz ys W) (o:Obj) (hg:(W.alloc o).grownBy w6 (Value.slice Az k cz).ownBlock):AV w.heap.size 48 ib w6/\AV (w.heap.size+2) 26 (ai T (.slice Az k cz)) w6/\Below w.heap.size w w6:=by
 have hlt:=h.lt;have hbl:∀b,b<W.heap.size->some b≠(Value.slice Az k cz).ownBlock->w6.heap[b]? =W.heap[b]? :=fun b hb hn=>
  (hg.block b (by simp;omega) hn).trans (Below.heap_alloc W _ b hb)
 have hlow:∀b,b<w.heap.size+3->some b≠(Value.slice Az k cz).ownBlock:=eG h.own;exact ⟨⟨(hbl _ (by omega) (hlow _ (by omega))).trans h.it.var⟩,⟨(hbl _ (by omega) (hlow _ (by omega))).trans h.t.var⟩,di (ah h.lo (ag W o)) (aX (own_below h.own (ag W o)) (by omega)) (by simp;omega) hg⟩
theorem xI {w w':World} {lo e size n:Nat} {v:Value} {xs:List Value} (h:w.ownsRow lo e size v n xs) (_hs:w.heap.size<=w'.heap.size) (hb:∀b,lo<=b->b<w.heap.size->w'.heap[b]? =w.heap[b]?):w'.ownsRow lo e size v n xs:=by
 refine ⟨h.1,?_⟩;rcases h.2 with h2|⟨g,cap,cur,h1,h2,h3,h4⟩
 ·exact .inl h2
 ·exact .inr ⟨g,cap,cur,h1,h2,(hb g h2 (bV.1 h3).1).trans h3,h4⟩
theorem Js:∀(vs pre old suf:List Value),old.length=vs.length->vM (pre++old++suf).toArray pre.length vs=(pre++vs++suf).toArray
 | [],pre,old,suf,h=>by
  have:old= []:=List.eq_nil_of_length_eq_zero h;simp [vM,this]
 |v::r,pre,old,suf,h=>by
  obtain ⟨x,old',rfl⟩:∃x old',old=x::old':=by
   cases old with
   |nil=>simp at h
   |cons x o=>exact ⟨x,o,rfl⟩
  have h2:=Js r (pre++ [v]) old' suf (by simpa using h);have e:(pre++x::old'++suf).toArray.setIfInBounds pre.length v=((pre++ [v])++old'++suf).toArray:=by simp
  unfold vM;rw [e];simpa using h2
theorem JM (t:Tb) (v:Value) (m:List UInt8) (h1:t.prev.length=32) (h2:m.length=32):vM (ai t v) 4 (ax m)=ai {t with prev:=m} v:=by
 have h:=Js (ax m) [I t.bG,I t.version,I t.aO,v] (ax t.prev) (ax t.bP) (by simp [ax,h1,h2]);have e1:ai t v=([I t.bG,I t.version,I t.aO,v]++ax t.prev++ax t.bP).toArray:=by simp [ai,jy]
 have e2:ai {t with prev:=m} v=([I t.bG,I t.version,I t.aO,v]++ax m++ax t.bP).toArray:=by simp [ai,jy]
 rw [e1,e2];exact h
theorem oQ.prev {w W:World} {ib:Array Value} {T:Tb} {k cz:Nat} {Az:Option Addr} {ys:List dw} (h:oQ w ib T k Az cz ys W) (hp:T.prev.length=32) (d:List UInt8) (hd:d.length=32):
  oQ w ib {T with prev:=d} k Az cz ys (W.setCells (w.heap.size+2) 4 (cD d).toList):=by
 have ho:∀b,b≠w.heap.size+2->(W.setCells (w.heap.size+2) 4 (cD d).toList).heap[b]? =W.heap[b]? :=fun b hb=>oq _ _ _ _ b hb;have hs:(W.setCells (w.heap.size+2) 4 (cD d).toList).heap.size=W.heap.size:=uB _ _ _ _;have ht:=h.t.setQ 4 (cD d).toList;rw [show vM _ 4 (cD d).toList=_ from JM T _ d hp hd] at ht;refine ⟨h.it.Qh (by omega) _ _,h.r.Qh (by omega) _ _,ht,kK (by omega) _ _ _ h.lo,?_,fun y hy=>(h.mem y hy).keep (by rw [hs];omega) fun b h1 h2 h3=>⟨ho b (by omega),h3⟩⟩;exact xI h.own (by rw [hs];omega) fun b h1 _=>ho b (by omega)
theorem oQ.fin {w W:World} {ib:Array Value} {T:Tb} {k cz:Nat} {Az:Option Addr} {ys:List dw} (h:oQ w ib T k Az cz ys W) (hp:T.prev.length=32) (hm:T.bP.length=32) (cs:Array Value):
  fV (W.setRow (w.heap.size+1) cs) (W.setRow (w.heap.size+1) cs).heap.size ⟨{T with aF:=ys.map (·.e)},Az,cz,ys⟩/\Below w.heap.size w (W.setRow (w.heap.size+1) cs):=by
 have ho:∀b,b≠w.heap.size+1->(W.setRow (w.heap.size+1) cs).heap[b]? =W.heap[b]? :=fun b hb=>setRow_other _ _ b _ hb;have hs:(W.setRow (w.heap.size+1) cs).heap.size=W.heap.size:=by simp [World.setRow]
 have h1:oQ w ib T k Az cz ys W:=h;refine ⟨⟨rfl,hp,hm,⟨aA.dR (xI h.own (by rw [hs];omega) fun b h1 _=>ho b (by omega)),fun y hy=>((h.mem y hy).keep (v':= .slice Az k cz) (by rw [hs];omega) fun b h1 h2 h3=>⟨ho b (by omega),h3⟩).at⟩⟩,aB h.lo (Nat.le_succ _) _⟩
theorem kZ (y:dw):∀u∈y.cells.toList,u.oneCell'=true:=by
 have h:=Dt [y];simpa [aU] using h
def vT (lo:Nat) (y:dF):Prop:=sZ lo y.A (aU y.zs)/\∀z∈y.zs,IK lo z.s z.e.z
theorem LV.low {lo lo':Nat} {v:Value} {W:World} {A:Option Addr} {cs:List Value} (h:LV lo v W A cs) (hl:lo'<=lo):sZ lo' A cs:=by
 rcases h with h|⟨b,off,h1,h2,_⟩
 ·exact .inl h
 ·exact .inr ⟨b,off,h1,Nat.le_trans hl h2⟩
theorem oQ.low {w W:World} {ib:Array Value} {T T':Tb} {k cz:Nat} {Az:Option Addr} {ys:List dw} (h:oQ w ib T k Az cz ys W):vT w.heap.size ⟨T',Az,cz,ys⟩:=by
 refine ⟨?_,fun y hy=>?_⟩
 ·rcases h.own.2 with ⟨hv,hn⟩|⟨g,cap,cur,hv,hg,_⟩
  ·refine .inl ?_;show (aU ys).length=0;rw [h.own.1,hn,Nat.zero_mul]
  ·injection hv with h1 _ _;exact .inr ⟨g,0,h1,by omega⟩
 ·obtain ⟨h1,h2,h3,h4⟩:=h.mem y hy;exact ⟨h1.low (by omega),h2.low (by omega),h3.low (by omega),h4.low (by omega)⟩
theorem rO:(Tryz.prog.info? 26).map (fun i=>(i.zero,i.size,i.bytes))=some (some (.agg (ai bu (.slice none 0 0))),68,112):=by kernel_rfl
section
variable {ops:Array Oper} {rest:List Oper} {o:Oper} {a:Act} {Q:Exit->Act->World->Prop} {w:World}
theorem wW (hgd:o.guard=none) (x:Operand) (ho:o.op= .buildSlice 32 1 #[(0,x)]) (cs:Array Value) (hcs:cs.size=68)
  (hx:a.eval x= .agg cs) (h:wpList Tryz.prog ops Q rest (a.put o.dst (.slice (some ⟨w.heap.size,0,none⟩) 1 1)) (w.alloc (.cells cs 26))):wpList Tryz.prog ops Q (o::rest) a w:=by
 obtain ⟨i0,hi,hz0,hz1,hz2⟩:=info_parts rO;refine wpList_buildSlice hgd 32 26 1 _ ho cs i0 (.agg (ai bu (.slice none 0 0))) Tryz.underlying32 hi hz0 (by rw [hz1];decide) (by rw [hz1];decide) ?_ h;rw [hz1];simp only [List.map_toArray,List.map_cons,List.map_nil,hx];have h:=Go.Great.fill_whole (s:=68) (by omega) [.agg cs] ((Array.range (1*68)).map ((Value.agg (ai bu (.slice none 0 0))).cells[· %(Value.agg (ai bu (.slice none 0 0))).cells.size]!)) (fun v hv=>by simp at hv;subst hv;exact hcs) (by simp);have e:([Value.agg cs].flatMap fun v=>v.cells.toList).toArray=cs:=by simp [Value.cells]
 rw [e] at h;exact h
theorem rJ {P:Program} (ty:TypeId) {n:Nat} {x:Array (Nat×Operand)} {d:Option Tmp} {t:TypeId} {pos:String} {af:Array Edge} {g:Option (Nat×Bool)} (h:wpList P ops Q (⟨d, .buildSlice ty n x,t,pos,af,g⟩::rest) a w):wpList P ops Q (⟨d, .buildSlice ty n x,t,pos,af,g⟩::rest) a w:=h
end
structure lK where
 DK:UInt8
 key:List UInt8
 A:Option Addr
 c:Nat
 its:List IE
def lK.cells (r:lK):List Value:=Extern.Stop.cell r.DK::(ax r.key++ [.slice r.A r.its.length r.c])
theorem lK.len (r:lK) (h:r.key.length=32):r.cells.length=34:=by simp [lK.cells,ax,h]
structure vS (w:World) (B:Nat) (r:lK):Prop where
 key:r.key.length=32
 len:r.its.length<=9223372036854775807
 row:aA w B r.A (r.its.flatMap fun x=>x.cells.toList)
 each:∀x∈r.its,DW w B x
theorem vS.keep {w w':World} {B:Nat} {r:lK} (h:vS w B r) (hb:Below B w w'):vS w' B r:=⟨h.key,h.len,h.row.keep hb,fun v hv=>(h.each v hv).keep hb⟩
theorem vS.more {w:World} {B B':Nat} {r:lK} (h:vS w B r) (hB:B<=B'):vS w B' r:=⟨h.key,h.len,h.row.more hB,fun v hv=>(h.each v hv).more hB⟩
theorem Yt {W:World} {b:Nat} {r:lK} (h:gK W b r.cells.toArray):W.rangeAt b 1 (ax r.key):=fun j v hv=>by
 rw [h.2 (1+j)];unfold lK.cells;have hj:=(gQ.1 hv).1;rw [List.getElem?_toArray,Nat.add_comm 1 j,List.getElem?_cons_succ,List.getElem?_append_left hj];exact hv
theorem OY (r:lK) (h:r.key.length=32):r.cells.toArray[33]? =some (.slice r.A r.its.length r.c):=by
 unfold lK.cells;rw [List.getElem?_toArray,show (33:Nat)=32+1 from rfl,List.getElem?_cons_succ,List.getElem?_append_right (by simp [ax,h])];simp [ax,h]
theorem LV.of2 {lo lo' B:Nat} {v:Value} {W:World} {A:Option Addr} {cs:List Value} (h:aA W B A cs) (hB:B<=W.heap.size) (h2:sZ lo' A cs) (hlo:lo<=lo') (hv:∀b,lo'<=b->b<B->some b≠v.ownBlock):LV lo v W A cs:=by
 rcases h with h|⟨b,off,e,hb,hc⟩
 ·exact .inl h
 ·rcases h2 with h2|⟨b2,xG,e2,hl⟩
  ·exact .inl h2
  ·rw [e] at e2;injection e2 with e2;injection e2 with e3 e4;subst e3;exact .inr ⟨b,off,e,by omega,by omega,hv b hl hb,hc⟩
theorem iK.of {lo lo' B:Nat} {v:Value} {W:World} {y:dF} (h:fV W B y) (hB:B<=W.heap.size) (h2:vT lo' y) (hlo:lo<=lo') (hv:∀b,lo'<=b->b<B->some b≠v.ownBlock):iK lo v W y:=
 ⟨.of2 h.aF.row hB h2.1 hlo hv,fun z hz=>⟨.of2 (h.aF.each z hz).au hB (h2.2 z hz).1 hlo hv, .of2 (h.aF.each z hz).rules hB (h2.2 z hz).2.1 hlo hv, .of2 (h.aF.each z hz).trans hB (h2.2 z hz).2.2.1 hlo hv, .of2 (h.aF.each z hz).aH hB (h2.2 z hz).2.2.2 hlo hv⟩⟩
theorem LV.xA {lo lo':Nat} {v:Value} {W:World} {A:Option Addr} {cs:List Value} (h:LV lo v W A cs) (hl:lo'<=lo):LV lo' v W A cs:=by
 rcases h with h|⟨b,off,h1,h2,h3⟩
 ·exact .inl h
 ·exact .inr ⟨b,off,h1,Nat.le_trans hl h2,h3⟩
theorem LV.vary {lo:Nat} {v v':Value} {W:World} {A:Option Addr} {cs:List Value} (h:LV lo v W A cs) (hv:∀b,lo<=b->b<W.heap.size->some b≠v'.ownBlock):LV lo v' W A cs:=by
 rcases h with h|⟨b,off,h1,h2,h3,h4,h5⟩
 ·exact .inl h
 ·exact .inr ⟨b,off,h1,h2,h3,hv b h2 h3,h5⟩
theorem iK.vary {lo lo':Nat} {v v':Value} {W:World} {y:dF} (h:iK lo v W y) (hl:lo'<=lo) (hv:∀b,lo<=b->b<W.heap.size->some b≠v'.ownBlock):iK lo' v' W y:=
 ⟨(h.1.vary hv).xA hl,fun z hz=>⟨((h.2 z hz).1.vary hv).xA hl,((h.2 z hz).2.1.vary hv).xA hl,((h.2 z hz).2.2.1.vary hv).xA hl,((h.2 z hz).2.2.2.vary hv).xA hl⟩⟩
theorem iK.low {lo lo':Nat} {v:Value} {W:World} {y:dF} (h:iK lo v W y) (hl:lo'<=lo):vT lo' y:=⟨h.1.low hl,fun z hz=>⟨(h.2 z hz).1.low hl,(h.2 z hz).2.1.low hl,(h.2 z hz).2.2.1.low hl,(h.2 z hz).2.2.2.low hl⟩⟩
structure TbF (y:dF):Prop where
 made:FY y.t
 names:y.t.aF=y.zs.map (·.e)
 prev:y.t.prev.length=32
 bP:y.t.bP.length=32
theorem TbF.size {y:dF} (h:TbF y):y.cells.length=68:=by
 have:=bf y.t (.slice y.A y.zs.length y.c) h.prev h.bP;simpa [ai,dF.cells] using this
theorem TbF.at {y:dF} (h:TbF y) {lo:Nat} {v:Value} {W:World} (hm:iK lo v W y):fV W W.heap.size y:=⟨h.names,h.prev,h.bP,⟨hm.1.at,fun z hz=>(hm.2 z hz).at⟩⟩
structure wG (w:World) (rc:Array Value) (k c:Nat) (A:Option Addr) (ts:List dF) (W:World):Prop where
 it:AV w.heap.size 29 rc W
 lo:Below w.heap.size w W
 own:W.ownsRow (w.heap.size+1) 26 68 (.slice A k c) k (ts.flatMap dF.cells)
 mem:∀y∈ts,iK (w.heap.size+1) (.slice A k c) W y
 each:∀y∈ts,TbF y
section
variable {w W W':World} {rc:Array Value} {k c:Nat} {A:Option Addr} {ts:List dF}
theorem wG.step (h:wG w rc k c A ts W) (ho:W'.os=W.os) (htp:W'.tape=W.tape) (hou:W'.output=W.output) (hs:W.heap.size<=W'.heap.size) (hb:∀b,b<W.heap.size->W'.heap[b]? =W.heap[b]?):wG w rc k c A ts W':=
 have hB:Below W.heap.size W W':=⟨ho,htp,hou,hs,hb⟩
 ⟨h.it.below hB,ah h.lo hB,own_below h.own hB,fun y hy=>(h.mem y hy).keep hs fun b _ h2 h3=>⟨hb b h2,h3⟩,h.each⟩
theorem wG.grow (h:wG w rc k c A ts W) (hb:Below W.heap.size W W'):wG w rc k c A ts W':=h.step hb.os hb.tape hb.output hb.size hb.block
theorem wG.drew (h:wG w rc k c A ts W):wG w rc k c A ts W.drew:=h.grow ((Below.refl _ W).drew)
theorem wG.lt (h:wG w rc k c A ts W):w.heap.size<W.heap.size:=h.it.lt
theorem wG.chain (h:wG w rc k c A ts W):jq W W.heap.size A ts:=⟨aA.dR h.own,fun y hy=>(h.each y hy).at (h.mem y hy)⟩
theorem wG.qA (h:wG w rc k c A ts W):∀b,W.heap.size<=b->some b≠(Value.slice A k c).ownBlock:=fun b hb e=>by
 have:=World.ownsRow.lt h.own b e.symm;omega
theorem wG.add {Wb w6:World} {gg cap:Nat} {y:dF} (h:wG w rc k c A ts W) (hy:iK (w.heap.size+1) (.slice A k c) W y) (hf:TbF y) (Ai:Wb=W.alloc (.cells y.cells.toArray 26))
  (hown:w6.ownsRow (w.heap.size+1) 26 68 (.slice (some ⟨gg,0,none⟩) (k+1) cap) (k+1) (ts.flatMap dF.cells++y.cells)) (hg:Wb.grownBy w6 (Value.slice A k c).ownBlock) (hat:(Value.slice A k c).ownBlock=some gg\/gg=Wb.heap.size):
  wG w rc (k+1) cap (some ⟨gg,0,none⟩) (ts++ [y]) w6:=by
 have hsb:Wb.heap.size=W.heap.size+1:=by rw [Ai];simp
 have hlt:=h.lt;have hs6:W.heap.size<=w6.heap.size:=by have:=hg.size;omega
 have hbl:∀b,b<W.heap.size->some b≠(Value.slice A k c).ownBlock->w6.heap[b]? =W.heap[b]? :=fun b hb hn=>
  (hg.block b (by omega) hn).trans (by rw [Ai];exact Below.heap_alloc W _ b hb)
 have hlow:∀b,b<w.heap.size+1->some b≠(Value.slice A k c).ownBlock:=eG h.own;have hmm:∀b,w.heap.size+1<=b->b<W.heap.size->some b≠(Value.slice A k c).ownBlock->w6.heap[b]? =W.heap[b]? /\some b≠(Value.slice (some ⟨gg,0,none⟩) (k+1) cap).ownBlock:=fun b h1 h2 h3=>by
  refine ⟨hbl b h2 h3,fun e=>?_⟩;have e2:b=gg:=by simpa [Value.ownBlock] using e
  rcases hat with e3|e3
  ·exact h3 (by rw [e2];exact e3.symm)
  ·omega
 have h1:Below w.heap.size w Wb:=by rw [Ai];exact ah h.lo (ag W _)
 have hob:Wb.ownsRow (w.heap.size+1) 26 68 (.slice A k c) k (ts.flatMap dF.cells):=by rw [Ai];exact own_below h.own (ag W _)
 refine ⟨⟨(hbl _ (by omega) (hlow _ (by omega))).trans h.it.var⟩,di h1 (aX hob (by omega)) (by omega) hg,by simpa using hown,fun y' hy'=>?_,fun y' hy'=>?_⟩
 ·rcases List.mem_append.1 hy' with h1|h1
  ·exact (h.mem y' h1).keep hs6 hmm
  ·obtain rfl:=List.mem_singleton.1 h1;exact hy.keep hs6 hmm
 ·rcases List.mem_append.1 hy' with h1|h1
  ·exact h.each y' h1
  ·obtain rfl:=List.mem_singleton.1 h1;exact hf
end
def yx (w:World) (r:lK) (ib io n k:Nat) (x:IE) (W:World):Prop:=
 W.cell? ⟨w.heap.size,0,none⟩=some (.int .u8 (r.DK.toNat:Int))/\W.cell? ⟨w.heap.size,33,none⟩=some (.slice (some ⟨ib,io,none⟩) n r.c)/\W.rangeAt w.heap.size 1 (ax r.key)/\W.rangeAt ib (io+k*2) x.cells.toList
theorem yx.of {w W:World} {r:lK} {ib io n k:Nat} {x:IE} (hk:r.key.length=32) (hn:r.its.length=n) (hA:r.A=some ⟨ib,io,none⟩) (hit:AV w.heap.size 29 r.cells.toArray W) (hlo:Below w.heap.size w W) (hr:w.rangeAt ib (io+k*2) x.cells.toList) (hb:ib<w.heap.size):yx w r ib io n k x W:=
 ⟨hit.cell 0,by rw [hit.cell 33,OY r hk,hn,hA],Yt hit.jw,aS hr hlo hb⟩
theorem EZ (vs:List DX) (k:Nat) (e:Ze) (h:(xE vs)[k]? =some e):k<3/\∃v:DX,e=⟨bW k,jv v.x⟩:=by
 unfold xE at h;rw [List.getElem?_mapIdx] at h;cases hv:(vs.take 3)[k]? with
 |none=>rw [hv] at h;cases h
 |some v=>
  rw [hv] at h;have hk:=(gQ.1 hv).1;rw [List.length_take] at hk;injection h with h;exact ⟨by omega,v,h.symm⟩
theorem Qy (vs:List DX):(xE vs).length<=3:=by
 unfold xE;rw [List.length_mapIdx,List.length_take];omega
theorem JL {n:Nat} {DK:UInt8} {x:IE} {y:dF} (hn:n<=4) (h1:y.t.bG=(DK.toNat:Int)%16) (h2:y.t.version=(n:Int)+1) (h3:y.t.aO=(x.wd.toNat:Int)%((n:Int)+1)) (h4:n=0->y.t.prev=fU) (h5:y.t.aF=xE x.vs):FY y.t:=by
 have hb:=fA DK;have hw1:0<=(x.wd.toNat:Int)%((n:Int)+1):=Int.emod_nonneg _ (by omega);have hw2:(x.wd.toNat:Int)%((n:Int)+1)<(n:Int)+1:=Int.emod_lt_of_pos _ (by omega);refine ⟨by rw [h1];omega,by rw [h2];omega,by rw [h3,h2];exact ⟨hw1,hw2⟩,fun h=>h4 (by rw [h2] at h;omega),by rw [h5];exact Qy _,fun e he=>?_,fun k e he=>?_⟩
 ·rw [h5] at he;obtain ⟨k,hk⟩:=List.getElem?_of_mem he;obtain ⟨_,v,rfl⟩:=EZ _ _ _ hk;exact Qv v.x
 ·rw [h5] at he;obtain ⟨_,v,rfl⟩:=EZ _ _ _ he;rfl
theorem FY.Ny {t:Tb} (h:FY t) (d:List UInt8):FY {t with bP:=d}:=⟨h.bG,h.version,h.aO,h.first,h.num,h.aF,h.names⟩
end Go.Proofs.YtbaehbbonkljpaaGreatDoor
