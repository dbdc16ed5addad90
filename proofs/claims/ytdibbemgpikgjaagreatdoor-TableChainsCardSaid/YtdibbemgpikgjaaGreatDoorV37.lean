/- The texts Khm, Ld, Lea, Lf, Op, in this order. -/
import Derived.Test.YtdibbemgpikgjaaGreatDoorV00
import Derived.Test.YtdibbemgpikgjaaGreatDoorV14
import Derived.Test.YtdibbemgpikgjaaGreatDoorV32
import Derived.Test.YtdibbemgpikgjaaGreatDoorV33
import Derived.Test.YtdibbemgpikgjaaGreatDoorV34
import Derived.Test.YtdibbemgpikgjaaGreatDoorV35
import Derived.Test.YtdibbemgpikgjaaGreatDoorV36
namespace Go.Proofs.YtdibbemgpikgjaaGreatDoor
open Go Go.RowKit
theorem Qr (x:Bo) (G O:Option Addr) (gc oc:Nat) (w:World) (hgl:x.bT.length≤9223372036854775807) (hol:x.dE.length≤9223372036854775807) (hg:az w w.heap.size G (x.bT.map Extern.Stop.cell)) (ho:az w w.heap.size O (x.dE.map Extern.Stop.cell)):
  Calls Tryz.prog 32 #[.agg (eP x G O gc oc)] w (KQ w (eu x)):=by
 rcases Nat.mod_two_eq_zero_or_one x.cal.toNat with h|h
 ·exact XZ x G O gc oc w h hgl hol hg ho
 ·exact X3 x G O gc oc w h hgl hol hg ho
end Go.Proofs.YtdibbemgpikgjaaGreatDoor
namespace Go.Proofs.YtdibbemgpikgjaaGreatDoor
open Go Go.RowKit
structure BG where
 x:Bo
 G:Option Addr
 O:Option Addr
 gc:Nat
 oc:Nat
def BG.cells (v:BG):List Value:=(eP v.x v.G v.O v.gc v.oc).toList
structure DZ (w:World) (B:Nat) (v:BG):Prop where
 gl:v.x.bT.length≤9223372036854775807
 ol:v.x.dE.length≤9223372036854775807
 g:az w B v.G (v.x.bT.map Extern.Stop.cell)
 o:az w B v.O (v.x.dE.map Extern.Stop.cell)
theorem DZ.keep {w w':World} {B:Nat} {v:BG} (h:DZ w B v) (hb:Below B w w'):DZ w' B v:=⟨h.gl,h.ol,h.g.keep hb,h.o.keep hb⟩
theorem DZ.more {w:World} {B B':Nat} {v:BG} (h:DZ w B v) (hB:B≤B'):DZ w B' v:=⟨h.gl,h.ol,h.g.more hB,h.o.more hB⟩
structure DV where
 A:Option Addr
 c:Nat
 vs:List BG
 wd:UInt8
def DV.cells (x:DV):Array Value:= #[.slice x.A x.vs.length x.c,Extern.Stop.cell x.wd]
structure BF (w:World) (B:Nat) (x:DV):Prop where
 len:x.vs.length≤9223372036854775807
 row:az w B x.A (x.vs.flatMap BG.cells)
 each:∀v∈x.vs,DZ w B v
theorem BF.keep {w w':World} {B:Nat} {x:DV} (h:BF w B x) (hb:Below B w w'):BF w' B x:=⟨h.len,h.row.keep hb,fun v hv=>(h.each v hv).keep hb⟩
theorem BF.more {w:World} {B B':Nat} {x:DV} (h:BF w B x) (hB:B≤B'):BF w B' x:=⟨h.len,h.row.more hB,fun v hv=>(h.each v hv).more hB⟩
theorem LV.of {lo lo':Nat} {v:Value} {W:World} {A:Option Addr} {cs:List Value} (h:az W W.heap.size A cs) (h2:nM lo' A cs) (hlo:lo≤lo') (hv:∀b,lo'≤b→some b≠v.ownBlock):LV lo v W A cs:=by
 rcases h with h|⟨b,off,e,hb,hc⟩
 ·exact .inl h
 ·rcases h2 with h2|⟨b2,yD,e2,hl⟩
  ·exact .inl h2
  ·rw [e] at e2
   injection e2 with e2
   injection e2 with e3 e4
   subst e3
   exact .inr ⟨b,off,e,by omega,hb,hv b hl,hc⟩
theorem fG.of {lo lo':Nat} {v:Value} {W:World} {s:Zs} {z:Zn} (h:jb W W.heap.size s z) (h2:zG lo' s z) (hlo:lo≤lo') (hv:∀b,lo'≤b→some b≠v.ownBlock):fG lo v W s z:=
 ⟨.of h.au h2.1 hlo hv, .of h.rules h2.2.1 hlo hv, .of h.trans h2.2.2.1 hlo hv, .of h.aB h2.2.2.2 hlo hv⟩
structure nN (w:World) (ib:Array Value) (T:Tb) (k:Nat) (Az:Option Addr) (cz:Nat) (ys:List cZ) (W:World):Prop where
 it:AV w.heap.size 50 ib W
 r:AV (w.heap.size+1) 37 (ai bJ (.slice none 0 0)) W
 t:AV (w.heap.size+2) 37 (ai T (.slice Az k cz)) W
 lo:Below w.heap.size w W
 own:W.ownsRow (w.heap.size+3) 90 9 (.slice Az k cz) k (aQ ys)
 mem:∀y∈ys,fG (w.heap.size+3) (.slice Az k cz) W y.s y.e.z
section
variable {w W W':World} {ib:Array Value} {T:Tb} {k cz:Nat} {Az:Option Addr} {ys:List cZ}
theorem nN.grow (h:nN w ib T k Az cz ys W) (hb:Below W.heap.size W W'):nN w ib T k Az cz ys W':=
 ⟨h.it.below hb,h.r.below hb,h.t.below hb,ah h.lo hb,own_below h.own hb,fun y hy=>(h.mem y hy).keep hb.size fun b _ h2 h3=>⟨hb.block b h2,h3⟩⟩
theorem nN.drew (h:nN w ib T k Az cz ys W):nN w ib T k Az cz ys W.drew:=h.grow ((Below.refl _ W).drew)
theorem nN.lt (h:nN w ib T k Az cz ys W):w.heap.size+2<W.heap.size:=h.t.lt
theorem nN.nY (h:nN w ib T k Az cz ys W):∀b,W.heap.size≤b→some b≠(Value.slice Az k cz).ownBlock:=fun b hb e=>by
 have:=World.ownsRow.lt h.own b e.symm
 omega
theorem nN.add {Wb w6:World} {gg cap:Nat} {y:cZ} (h:nN w ib T k Az cz ys W) (hy:fG (w.heap.size+3) (.slice Az k cz) W y.s y.e.z) (yY:Wb=W.alloc (.cells y.cells 90))
  (hown:w6.ownsRow (w.heap.size+3) 90 9 (.slice (some ⟨gg,0,none⟩) (k+1) cap) (k+1) (aQ ys++y.cells.toList)) (hg:Wb.grownBy w6 (Value.slice Az k cz).ownBlock) (hat:(Value.slice Az k cz).ownBlock=some gg∨gg=Wb.heap.size):
  nN w ib T (k+1) (some ⟨gg,0,none⟩) cap (ys++ [y]) (w6.setCell ⟨w.heap.size+2,3,none⟩ (.slice (some ⟨gg,0,none⟩) (k+1) cap)):=by
 have hsb:Wb.heap.size=W.heap.size+1:=by rw [yY];simp
 have hlt:=h.lt
 have hs6:W.heap.size≤w6.heap.size:=by have:=hg.size;omega
 have hbl:∀b,b<W.heap.size→some b≠(Value.slice Az k cz).ownBlock→w6.heap[b]? =W.heap[b]? :=fun b hb hn=>
  (hg.block b (by omega) hn).trans (by rw [yY];exact Below.heap_alloc W _ b hb)
 have hlow:∀b,b<w.heap.size+3→some b≠(Value.slice Az k cz).ownBlock:=dN h.own
 have hgg:=jL hown
 have hset:∀b,b≠w.heap.size+2→(w6.setCell ⟨w.heap.size+2,3,none⟩ (.slice (some ⟨gg,0,none⟩) (k+1) cap)).heap[b]? =w6.heap[b]? :=fun b hb=>heap_setCell_other w6 ⟨w.heap.size+2,3,none⟩ b _ hb
 have hsz:(w6.setCell ⟨w.heap.size+2,3,none⟩ (.slice (some ⟨gg,0,none⟩) (k+1) cap)).heap.size=w6.heap.size:=by simp [World.setCell]
 have hmm:∀b,w.heap.size+3≤b→b<W.heap.size→some b≠(Value.slice Az k cz).ownBlock→(w6.setCell ⟨w.heap.size+2,3,none⟩ (.slice (some ⟨gg,0,none⟩) (k+1) cap)).heap[b]? =W.heap[b]? ∧some b≠(Value.slice (some ⟨gg,0,none⟩) (k+1) cap).ownBlock:=fun b h1 h2 h3=>by
  refine ⟨(hset b (by omega)).trans (hbl b h2 h3),fun e=>?_⟩
  have e2:b=gg:=by simpa [Value.ownBlock] using e
  rcases hat with e3|e3
  ·exact h3 (by rw [e2];exact e3.symm)
  ·omega
 refine ⟨⟨(hset _ (by omega)).trans ((hbl _ (by omega) (hlow _ (by omega))).trans h.it.var)⟩,⟨(hset _ (by omega)).trans ((hbl _ (by omega) (hlow _ (by omega))).trans h.r.var)⟩,?_,?_,?_,?_⟩
 ·have h1:AV (w.heap.size+2) 37 (ai T (.slice Az k cz)) w6:=⟨(hbl _ (by omega) (hlow _ (by omega))).trans h.t.var⟩
  have h2:=h1.put 3 (.slice (some ⟨gg,0,none⟩) (k+1) cap)
  rw [mF] at h2
  exact h2
 ·have h1:Below w.heap.size w Wb:=by rw [yY];exact ah h.lo (ag W _)
  have hob:Wb.ownsRow (w.heap.size+3) 90 9 (.slice Az k cz) k (aQ ys):=by rw [yY];exact own_below h.own (ag W _)
  exact (bU h1 (bu hob (by omega)) (by omega) hg).setCell (p:=⟨w.heap.size+2,3,none⟩) (show w.heap.size≤w.heap.size+2 by omega) _
 ·have h1:=dI (p:=⟨w.heap.size+2,3,none⟩) (u:= .slice (some ⟨gg,0,none⟩) (k+1) cap) hown (fun e=>absurd (show w.heap.size+2=gg by simpa [Value.ownBlock] using e) (by omega))
  have e:aQ (ys++ [y])=aQ ys++y.cells.toList:=by simp [aQ]
  rw [e]
  exact h1
 ·intro y' hy'
  rcases List.mem_append.1 hy' with h1|h1
  ·exact (h.mem y' h1).keep (by rw [hsz];exact hs6) hmm
  ·obtain rfl:=List.mem_singleton.1 h1
   exact hy.keep (by rw [hsz];exact hs6) hmm
theorem nN.tb (h:nN w ib T k Az cz ys W) (hp:T.prev.length=32) (hm:T.bG.length=32):jF W W.heap.size ⟨{T with aS:=ys.map (·.e)},Az,cz,ys⟩:=
 ⟨rfl,hp,hm,⟨az.dW h.own,fun y hy=>(h.mem y hy).at⟩⟩
end
theorem je (W:World) (bb:Nat) (x:Int) (h:W.heap[bb]? =some (.cells #[.int .u8 x] 5 (0,0))):(convert 32 9 (.slice (some ⟨bb,0,none⟩) 1 1)).run Tryz.prog W= .ok (.string ⟨#[UInt8.ofNat x.toNat]⟩) W:=by
 have e:(⟨#[UInt8.ofNat x.toNat]⟩:ByteArray)=strOfNums [x]:=rfl
 rw [e]
 refine run_convert_bytes_arg _ _ _ Tryz.underlying32 Tryz.underlying5 bb 0 1 1 [x] rfl (fun i hi=>?_) _ Tryz.underlying9
 have:i=0:=by omega
 subst this
 exact cell_of_row W bb 0 _ _ _ h
theorem iC (k:Nat):(⟨#[122]⟩:ByteArray)++⟨#[UInt8.ofNat (97+(k:Int)).toNat]⟩=aT k:=by
 have e:(97+(k:Int)).toNat=97+k:=by omega
 rw [e]
 rfl
def sH (vs:List BG):List Ze:=(vs.take 3).mapIdx fun i v=>⟨aT i,eu v.x⟩
theorem JJ (vs:List BG) (k:Nat) (v:BG) (hv:vs[k]? =some v):(vs.take (k+1)).mapIdx (fun i v=>(⟨aT i,eu v.x⟩:Ze))=(vs.take k).mapIdx (fun i v=>(⟨aT i,eu v.x⟩:Ze))++ [⟨aT k,eu v.x⟩]:=by
 have hk:=(List.getElem?_eq_some_iff.1 hv).1
 have e:vs.take (k+1)=vs.take k++ [v]:=by
  rw [List.take_add_one,hv]
  rfl
 rw [e,List.mapIdx_append]
 simp [List.length_take,Nat.min_eq_left (Nat.le_of_lt hk)]
end Go.Proofs.YtdibbemgpikgjaaGreatDoor
namespace Go.Proofs.YtdibbemgpikgjaaGreatDoor
open Go Go.RowKit
def dJ (w:World) (zb zo m ic k:Nat) (v:BG) (W:World):Prop:=W.cell? ⟨w.heap.size,0,none⟩=some (.slice (some ⟨zb,zo,none⟩) m ic)∧W.rangeAt zb (zo+k*14) v.cells
theorem dJ.of {w W:World} {zb zo m ic k:Nat} {v:BG} {x:Value} (hit:AV w.heap.size 50 #[.slice (some ⟨zb,zo,none⟩) m ic,x] W) (hlo:Below w.heap.size w W) (hr:w.rangeAt zb (zo+k*14) v.cells) (hb:zb<w.heap.size):dJ w zb zo m ic k v W:=
 ⟨hit.cell 0,aO hr hlo hb⟩
theorem fG.grow {lo:Nat} {v:Value} {W W':World} {s:Zs} {z:Zn} (h:fG lo v W s z) (hb:Below W.heap.size W W'):fG lo v W' s z:=h.keep hb.size fun b _ h2 h3=>⟨hb.block b h2,h3⟩
theorem nN.start (w:World) (ib:Array Value) (T:Tb) (z:Array Value):nN w ib T 0 none 0 [] ((((w.alloc (.cells ib 50)).alloc (.cells (ai bJ (.slice none 0 0)) 37)).alloc (.cells z 37)).setRow (w.heap.size+2) (ai T (.slice none 0 0))):=by
 obtain ⟨W,hW⟩:∃W,(w.alloc (.cells ib 50)).alloc (.cells (ai bJ (.slice none 0 0)) 37)=W:=⟨_,rfl⟩
 have hs:W.heap.size=w.heap.size+2:=by rw [←hW];simp
 have hb:Below w.heap.size w W:=by rw [←hW];exact ah (ag w _) (ag _ _)
 have h1:AV w.heap.size 50 ib W:=by rw [←hW];exact ⟨heap_alloc2_old w _ _⟩
 have h2:AV (w.heap.size+1) 37 (ai bJ (.slice none 0 0)) W:=by rw [←hW];exact ⟨heap_alloc2_new w _ _⟩
 have h3:=AV.new W z 37
 rw [hs] at h3
 rw [hW]
 have hb2:=ag W (.cells z 37)
 exact ⟨(h1.below hb2).tZ (by omega) _,(h2.below hb2).tZ (by omega) _,h3.qE _,aF (ah hb hb2) (by omega) _,World.ownsRow_nil _ _ _ _,fun _ h=>nomatch h⟩
theorem nN.mid {w W w6:World} {ib:Array Value} {T:Tb} {k cz:Nat} {Az:Option Addr} {ys:List cZ} (h:nN w ib T k Az cz ys W) (o:Obj) (hg:(W.alloc o).grownBy w6 (Value.slice Az k cz).ownBlock):AV w.heap.size 50 ib w6∧AV (w.heap.size+2) 37 (ai T (.slice Az k cz)) w6∧Below w.heap.size w w6:=by
 have hlt:=h.lt
 have hbl:∀b,b<W.heap.size→some b≠(Value.slice Az k cz).ownBlock→w6.heap[b]? =W.heap[b]? :=fun b hb hn=>
  (hg.block b (by simp;omega) hn).trans (Below.heap_alloc W _ b hb)
 have hlow:∀b,b<w.heap.size+3→some b≠(Value.slice Az k cz).ownBlock:=dN h.own
 exact ⟨⟨(hbl _ (by omega) (hlow _ (by omega))).trans h.it.var⟩,⟨(hbl _ (by omega) (hlow _ (by omega))).trans h.t.var⟩,bU (ah h.lo (ag W o)) (bu (own_below h.own (ag W o)) (by omega)) (by simp;omega) hg⟩
theorem vO {w w':World} {lo e size n:Nat} {v:Value} {xs:List Value} (h:w.ownsRow lo e size v n xs) (_hs:w.heap.size≤w'.heap.size) (hb:∀b,lo≤b→b<w.heap.size→w'.heap[b]? =w.heap[b]?):w'.ownsRow lo e size v n xs:=by
 refine ⟨h.1,?_⟩
 rcases h.2 with h2|⟨g,cap,cur,h1,h2,h3,h4⟩
 ·exact .inl h2
 ·exact .inr ⟨g,cap,cur,h1,h2,(hb g h2 (Array.getElem?_eq_some_iff.1 h3).1).trans h3,h4⟩
theorem GU:∀(vs pre old Ye:List Value),old.length=vs.length→Ey (pre++old++Ye).toArray pre.length vs=(pre++vs++Ye).toArray
 | [],pre,old,Ye,h=>by
  have:old= []:=List.eq_nil_of_length_eq_zero h
  simp [Ey,this]
 |v::r,pre,old,Ye,h=>by
  obtain ⟨x,old',rfl⟩:∃x old',old=x::old':=by
   cases old with
   |nil=>simp at h
   |cons x o=>exact ⟨x,o,rfl⟩
  have h2:=GU r (pre++ [v]) old' Ye (by simpa using h)
  have e:(pre++x::old'++Ye).toArray.setIfInBounds pre.length v=((pre++ [v])++old'++Ye).toArray:=by simp
  unfold Ey
  rw [e]
  simpa using h2
theorem xW (t:Tb) (v:Value) (m:List UInt8) (h1:t.prev.length=32) (h2:m.length=32):Ey (ai t v) 4 (aj m)=ai {t with prev:=m} v:=by
 have h:=GU (aj m) [I t.aW,I t.version,I t.aI,v] (aj t.prev) (aj t.bG) (by simp [aj,h1,h2])
 have e1:ai t v=([I t.aW,I t.version,I t.aI,v]++aj t.prev++aj t.bG).toArray:=by simp [ai,ji]
 have e2:ai {t with prev:=m} v=([I t.aW,I t.version,I t.aI,v]++aj m++aj t.bG).toArray:=by simp [ai,ji]
 rw [e1,e2]
 exact h
theorem nN.prev {w W:World} {ib:Array Value} {T:Tb} {k cz:Nat} {Az:Option Addr} {ys:List cZ} (h:nN w ib T k Az cz ys W) (hp:T.prev.length=32) (d:List UInt8) (hd:d.length=32):
  nN w ib {T with prev:=d} k Az cz ys (W.setCells (w.heap.size+2) 4 (cD d).toList):=by
 have ho:∀b,b≠w.heap.size+2→(W.setCells (w.heap.size+2) 4 (cD d).toList).heap[b]? =W.heap[b]? :=fun b hb=>jM _ _ _ _ b hb
 have hs:(W.setCells (w.heap.size+2) 4 (cD d).toList).heap.size=W.heap.size:=oh _ _ _ _
 have ht:=h.t.setQ 4 (cD d).toList
 rw [show Ey _ 4 (cD d).toList=_ from xW T _ d hp hd] at ht
 refine ⟨h.it.farQ (by omega) _ _,h.r.farQ (by omega) _ _,ht,mQ (by omega) _ _ _ h.lo,?_,fun y hy=>(h.mem y hy).keep (by rw [hs];omega) fun b h1 h2 h3=>⟨ho b (by omega),h3⟩⟩
 exact vO h.own (by rw [hs];omega) fun b h1 _=>ho b (by omega)
theorem nN.fin {w W:World} {ib:Array Value} {T:Tb} {k cz:Nat} {Az:Option Addr} {ys:List cZ} (h:nN w ib T k Az cz ys W) (hp:T.prev.length=32) (hm:T.bG.length=32) (cs:Array Value):
  jF (W.setRow (w.heap.size+1) cs) (W.setRow (w.heap.size+1) cs).heap.size ⟨{T with aS:=ys.map (·.e)},Az,cz,ys⟩∧Below w.heap.size w (W.setRow (w.heap.size+1) cs):=by
 have ho:∀b,b≠w.heap.size+1→(W.setRow (w.heap.size+1) cs).heap[b]? =W.heap[b]? :=fun b hb=>setRow_other _ _ b _ hb
 have hs:(W.setRow (w.heap.size+1) cs).heap.size=W.heap.size:=by simp [World.setRow]
 have h1:nN w ib T k Az cz ys W:=h
 refine ⟨⟨rfl,hp,hm,⟨az.dW (vO h.own (by rw [hs];omega) fun b h1 _=>ho b (by omega)),fun y hy=>((h.mem y hy).keep (v':= .slice Az k cz) (by rw [hs];omega) fun b h1 h2 h3=>⟨ho b (by omega),h3⟩).at⟩⟩,aF h.lo (Nat.le_succ _) _⟩
theorem kG (y:cZ):∀u∈y.cells.toList,u.oneCell'=true:=by
 have h:=uV [y]
 simpa [aQ] using h
def xG (lo:Nat) (y:di):Prop:=nM lo y.A (aQ y.zs)∧∀z∈y.zs,zG lo z.s z.e.z
theorem LV.low {lo lo':Nat} {v:Value} {W:World} {A:Option Addr} {cs:List Value} (h:LV lo v W A cs) (hl:lo'≤lo):nM lo' A cs:=by
 rcases h with h|⟨b,off,h1,h2,_⟩
 ·exact .inl h
 ·exact .inr ⟨b,off,h1,Nat.le_trans hl h2⟩
theorem nN.low {w W:World} {ib:Array Value} {T T':Tb} {k cz:Nat} {Az:Option Addr} {ys:List cZ} (h:nN w ib T k Az cz ys W):xG w.heap.size ⟨T',Az,cz,ys⟩:=by
 refine ⟨?_,fun y hy=>?_⟩
 ·rcases h.own.2 with ⟨hv,hn⟩|⟨g,cap,cur,hv,hg,_⟩
  ·refine .inl ?_
   show (aQ ys).length=0
   rw [h.own.1,hn,Nat.zero_mul]
  ·injection hv with h1 _ _
   exact .inr ⟨g,0,h1,by omega⟩
 ·obtain ⟨h1,h2,h3,h4⟩:=h.mem y hy
  exact ⟨h1.low (by omega),h2.low (by omega),h3.low (by omega),h4.low (by omega)⟩
def Ve (w:World) (n:Nat) (vN:UInt8) (x:DV) (e:Ending) (w':World):Prop:=
 ∃y:di,e= .returned (.agg (ai y.t (.slice y.A y.zs.length y.c)))∧jF w' w'.heap.size y∧y.t.aW=(vN.toNat:Int)%16∧y.t.version=(n:Int)+1∧y.t.aI=(x.wd.toNat:Int)%((n:Int)+1)∧(n=0→y.t.prev=aY)∧y.t.aS=sH x.vs∧xG w.heap.size y∧Below w.heap.size w w'
end Go.Proofs.YtdibbemgpikgjaaGreatDoor
namespace Go.Proofs.YtdibbemgpikgjaaGreatDoor
open Go Go.RowKit
theorem zZ:(Tryz.prog.info? 37).map (fun i=>(i.zero,i.size,i.bytes))=some (some (.agg (ai bJ (.slice none 0 0))),68,112):=by kernel_rfl
section
variable {ops:Array Oper} {rest:List Oper} {o:Oper} {a:Act} {Q:Exit→Act→World→Prop} {w:World}
theorem uK {P:Program} (ty:TypeId) {n:Nat} {x:Array (Nat×Operand)} {d:Option Tmp} {t:TypeId} {pos:String} {af:Array Edge} {g:Option (Nat×Bool)} (h:wpList P ops Q (⟨d, .buildSlice ty n x,t,pos,af,g⟩::rest) a w):wpList P ops Q (⟨d, .buildSlice ty n x,t,pos,af,g⟩::rest) a w:=h
end
structure kQ where
 vN:UInt8
 key:List UInt8
 A:Option Addr
 c:Nat
 its:List DV
def kQ.cells (r:kQ):List Value:=Extern.Stop.cell r.vN::(aj r.key++ [.slice r.A r.its.length r.c])
theorem kQ.len (r:kQ) (h:r.key.length=32):r.cells.length=34:=by simp [kQ.cells,aj,h]
structure vC (w:World) (B:Nat) (r:kQ):Prop where
 key:r.key.length=32
 len:r.its.length≤9223372036854775807
 row:az w B r.A (r.its.flatMap fun x=>x.cells.toList)
 each:∀x∈r.its,BF w B x
theorem vC.keep {w w':World} {B:Nat} {r:kQ} (h:vC w B r) (hb:Below B w w'):vC w' B r:=⟨h.key,h.len,h.row.keep hb,fun v hv=>(h.each v hv).keep hb⟩
theorem vC.more {w:World} {B B':Nat} {r:kQ} (h:vC w B r) (hB:B≤B'):vC w B' r:=⟨h.key,h.len,h.row.more hB,fun v hv=>(h.each v hv).more hB⟩
theorem vS {W:World} {b:Nat} {r:kQ} (h:fA W b r.cells.toArray):W.rangeAt b 1 (aj r.key):=fun j v hv=>by
 rw [h.2 (1+j)]
 unfold kQ.cells
 have hj:=(List.getElem?_eq_some_iff.1 hv).1
 rw [List.getElem?_toArray,Nat.add_comm 1 j,List.getElem?_cons_succ,List.getElem?_append_left hj]
 exact hv
theorem Ez (r:kQ) (h:r.key.length=32):r.cells.toArray[33]? =some (.slice r.A r.its.length r.c):=by
 unfold kQ.cells
 rw [List.getElem?_toArray,show (33:Nat)=32+1 from rfl,List.getElem?_cons_succ,List.getElem?_append_right (by simp [aj,h])]
 simp [aj,h]
theorem LV.Ua {lo lo' B:Nat} {v:Value} {W:World} {A:Option Addr} {cs:List Value} (h:az W B A cs) (hB:B≤W.heap.size) (h2:nM lo' A cs) (hlo:lo≤lo') (hv:∀b,lo'≤b→b<B→some b≠v.ownBlock):LV lo v W A cs:=by
 rcases h with h|⟨b,off,e,hb,hc⟩
 ·exact .inl h
 ·rcases h2 with h2|⟨b2,yD,e2,hl⟩
  ·exact .inl h2
  ·rw [e] at e2
   injection e2 with e2
   injection e2 with e3 e4
   subst e3
   exact .inr ⟨b,off,e,by omega,by omega,hv b hl hb,hc⟩
theorem eH.of {lo lo' B:Nat} {v:Value} {W:World} {y:di} (h:jF W B y) (hB:B≤W.heap.size) (h2:xG lo' y) (hlo:lo≤lo') (hv:∀b,lo'≤b→b<B→some b≠v.ownBlock):eH lo v W y:=
 ⟨.Ua h.aS.row hB h2.1 hlo hv,fun z hz=>⟨.Ua (h.aS.each z hz).au hB (h2.2 z hz).1 hlo hv, .Ua (h.aS.each z hz).rules hB (h2.2 z hz).2.1 hlo hv, .Ua (h.aS.each z hz).trans hB (h2.2 z hz).2.2.1 hlo hv, .Ua (h.aS.each z hz).aB hB (h2.2 z hz).2.2.2 hlo hv⟩⟩
theorem LV.yC {lo lo':Nat} {v:Value} {W:World} {A:Option Addr} {cs:List Value} (h:LV lo v W A cs) (hl:lo'≤lo):LV lo' v W A cs:=by
 rcases h with h|⟨b,off,h1,h2,h3⟩
 ·exact .inl h
 ·exact .inr ⟨b,off,h1,Nat.le_trans hl h2,h3⟩
theorem LV.vary {lo:Nat} {v v':Value} {W:World} {A:Option Addr} {cs:List Value} (h:LV lo v W A cs) (hv:∀b,lo≤b→b<W.heap.size→some b≠v'.ownBlock):LV lo v' W A cs:=by
 rcases h with h|⟨b,off,h1,h2,h3,h4,h5⟩
 ·exact .inl h
 ·exact .inr ⟨b,off,h1,h2,h3,hv b h2 h3,h5⟩
theorem eH.vary {lo lo':Nat} {v v':Value} {W:World} {y:di} (h:eH lo v W y) (hl:lo'≤lo) (hv:∀b,lo≤b→b<W.heap.size→some b≠v'.ownBlock):eH lo' v' W y:=
 ⟨(h.1.vary hv).yC hl,fun z hz=>⟨((h.2 z hz).1.vary hv).yC hl,((h.2 z hz).2.1.vary hv).yC hl,((h.2 z hz).2.2.1.vary hv).yC hl,((h.2 z hz).2.2.2.vary hv).yC hl⟩⟩
theorem eH.low {lo lo':Nat} {v:Value} {W:World} {y:di} (h:eH lo v W y) (hl:lo'≤lo):xG lo' y:=⟨h.1.low hl,fun z hz=>⟨(h.2 z hz).1.low hl,(h.2 z hz).2.1.low hl,(h.2 z hz).2.2.1.low hl,(h.2 z hz).2.2.2.low hl⟩⟩
structure Xd (y:di):Prop where
 made:O9 y.t
 names:y.t.aS=y.zs.map (·.e)
 prev:y.t.prev.length=32
 bG:y.t.bG.length=32
theorem Xd.size {y:di} (h:Xd y):y.cells.length=68:=by
 have:=bn y.t (.slice y.A y.zs.length y.c) h.prev h.bG
 simpa [ai,di.cells] using this
theorem Xd.at {y:di} (h:Xd y) {lo:Nat} {v:Value} {W:World} (hm:eH lo v W y):jF W W.heap.size y:=⟨h.names,h.prev,h.bG,⟨hm.1.at,fun z hz=>(hm.2 z hz).at⟩⟩
structure Bl (w:World) (rc:Array Value) (k c:Nat) (A:Option Addr) (ts:List di) (W:World):Prop where
 it:AV w.heap.size 26 rc W
 lo:Below w.heap.size w W
 own:W.ownsRow (w.heap.size+1) 37 68 (.slice A k c) k (ts.flatMap di.cells)
 mem:∀y∈ts,eH (w.heap.size+1) (.slice A k c) W y
 each:∀y∈ts,Xd y
section
variable {w W W':World} {rc:Array Value} {k c:Nat} {A:Option Addr} {ts:List di}
theorem Bl.step (h:Bl w rc k c A ts W) (ho:W'.os=W.os) (htp:W'.tape=W.tape) (hou:W'.output=W.output) (hs:W.heap.size≤W'.heap.size) (hb:∀b,b<W.heap.size→W'.heap[b]? =W.heap[b]?):Bl w rc k c A ts W':=
 have hB:Below W.heap.size W W':=⟨ho,htp,hou,hs,hb⟩
 ⟨h.it.below hB,ah h.lo hB,own_below h.own hB,fun y hy=>(h.mem y hy).keep hs fun b _ h2 h3=>⟨hb b h2,h3⟩,h.each⟩
theorem Bl.grow (h:Bl w rc k c A ts W) (hb:Below W.heap.size W W'):Bl w rc k c A ts W':=h.step hb.os hb.tape hb.output hb.size hb.block
theorem Bl.drew (h:Bl w rc k c A ts W):Bl w rc k c A ts W.drew:=h.grow ((Below.refl _ W).drew)
theorem Bl.lt (h:Bl w rc k c A ts W):w.heap.size<W.heap.size:=h.it.lt
theorem Bl.chain (h:Bl w rc k c A ts W):gW W W.heap.size A ts:=⟨az.dW h.own,fun y hy=>(h.each y hy).at (h.mem y hy)⟩
theorem Bl.nY (h:Bl w rc k c A ts W):∀b,W.heap.size≤b→some b≠(Value.slice A k c).ownBlock:=fun b hb e=>by
 have:=World.ownsRow.lt h.own b e.symm
 omega
theorem Bl.add {Wb w6:World} {gg cap:Nat} {y:di} (h:Bl w rc k c A ts W) (hy:eH (w.heap.size+1) (.slice A k c) W y) (hf:Xd y) (yY:Wb=W.alloc (.cells y.cells.toArray 37))
  (hown:w6.ownsRow (w.heap.size+1) 37 68 (.slice (some ⟨gg,0,none⟩) (k+1) cap) (k+1) (ts.flatMap di.cells++y.cells)) (hg:Wb.grownBy w6 (Value.slice A k c).ownBlock) (hat:(Value.slice A k c).ownBlock=some gg∨gg=Wb.heap.size):
  Bl w rc (k+1) cap (some ⟨gg,0,none⟩) (ts++ [y]) w6:=by
 have hsb:Wb.heap.size=W.heap.size+1:=by rw [yY];simp
 have hlt:=h.lt
 have hs6:W.heap.size≤w6.heap.size:=by have:=hg.size;omega
 have hbl:∀b,b<W.heap.size→some b≠(Value.slice A k c).ownBlock→w6.heap[b]? =W.heap[b]? :=fun b hb hn=>
  (hg.block b (by omega) hn).trans (by rw [yY];exact Below.heap_alloc W _ b hb)
 have hlow:∀b,b<w.heap.size+1→some b≠(Value.slice A k c).ownBlock:=dN h.own
 have hmm:∀b,w.heap.size+1≤b→b<W.heap.size→some b≠(Value.slice A k c).ownBlock→w6.heap[b]? =W.heap[b]? ∧some b≠(Value.slice (some ⟨gg,0,none⟩) (k+1) cap).ownBlock:=fun b h1 h2 h3=>by
  refine ⟨hbl b h2 h3,fun e=>?_⟩
  have e2:b=gg:=by simpa [Value.ownBlock] using e
  rcases hat with e3|e3
  ·exact h3 (by rw [e2];exact e3.symm)
  ·omega
 have h1:Below w.heap.size w Wb:=by rw [yY];exact ah h.lo (ag W _)
 have hob:Wb.ownsRow (w.heap.size+1) 37 68 (.slice A k c) k (ts.flatMap di.cells):=by rw [yY];exact own_below h.own (ag W _)
 refine ⟨⟨(hbl _ (by omega) (hlow _ (by omega))).trans h.it.var⟩,bU h1 (bu hob (by omega)) (by omega) hg,by simpa using hown,fun y' hy'=>?_,fun y' hy'=>?_⟩
 ·rcases List.mem_append.1 hy' with h1|h1
  ·exact (h.mem y' h1).keep hs6 hmm
  ·obtain rfl:=List.mem_singleton.1 h1
   exact hy.keep hs6 hmm
 ·rcases List.mem_append.1 hy' with h1|h1
  ·exact h.each y' h1
  ·obtain rfl:=List.mem_singleton.1 h1
   exact hf
end
def FP (w:World) (r:kQ) (ib io n k:Nat) (x:DV) (W:World):Prop:=
 W.cell? ⟨w.heap.size,0,none⟩=some (.int .u8 (r.vN.toNat:Int))∧W.cell? ⟨w.heap.size,33,none⟩=some (.slice (some ⟨ib,io,none⟩) n r.c)∧W.rangeAt w.heap.size 1 (aj r.key)∧W.rangeAt ib (io+k*2) x.cells.toList
theorem FP.of {w W:World} {r:kQ} {ib io n k:Nat} {x:DV} (hk:r.key.length=32) (hn:r.its.length=n) (hA:r.A=some ⟨ib,io,none⟩) (hit:AV w.heap.size 26 r.cells.toArray W) (hlo:Below w.heap.size w W) (hr:w.rangeAt ib (io+k*2) x.cells.toList) (hb:ib<w.heap.size):FP w r ib io n k x W:=
 ⟨hit.cell 0,by rw [hit.cell 33,Ez r hk,hn,hA],vS hit.jB,aO hr hlo hb⟩
theorem Dp (vs:List BG) (k:Nat) (e:Ze) (h:(sH vs)[k]? =some e):k<3∧∃v:BG,e=⟨aT k,eu v.x⟩:=by
 unfold sH at h
 rw [List.getElem?_mapIdx] at h
 cases hv:(vs.take 3)[k]? with
 |none=>rw [hv] at h;cases h
 |some v=>
  rw [hv] at h
  have hk:=(List.getElem?_eq_some_iff.1 hv).1
  rw [List.length_take] at hk
  injection h with h
  exact ⟨by omega,v,h.symm⟩
theorem Ns (vs:List BG):(sH vs).length≤3:=by
 unfold sH
 rw [List.length_mapIdx,List.length_take]
 omega
theorem QM {n:Nat} {vN:UInt8} {x:DV} {y:di} (hn:n≤4) (h1:y.t.aW=(vN.toNat:Int)%16) (h2:y.t.version=(n:Int)+1) (h3:y.t.aI=(x.wd.toNat:Int)%((n:Int)+1)) (h4:n=0→y.t.prev=aY) (h5:y.t.aS=sH x.vs):O9 y.t:=by
 have hb:=dh vN
 have hw1:0≤(x.wd.toNat:Int)%((n:Int)+1):=Int.emod_nonneg _ (by omega)
 have hw2:(x.wd.toNat:Int)%((n:Int)+1)<(n:Int)+1:=Int.emod_lt_of_pos _ (by omega)
 refine ⟨by rw [h1];omega,by rw [h2];omega,by rw [h3,h2];exact ⟨hw1,hw2⟩,fun h=>h4 (by rw [h2] at h;omega),by rw [h5];exact Ns _,fun e he=>?_,fun k e he=>?_⟩
 ·rw [h5] at he
  obtain ⟨k,hk⟩:=List.getElem?_of_mem he
  obtain ⟨_,v,rfl⟩:=Dp _ _ _ hk
  exact Nq v.x
 ·rw [h5] at he
  obtain ⟨_,v,rfl⟩:=Dp _ _ _ he
  rfl
theorem O9.QF {t:Tb} (h:O9 t) (d:List UInt8):O9 {t with bG:=d}:=⟨h.aW,h.version,h.aI,h.first,h.num,h.aS,h.names⟩
end Go.Proofs.YtdibbemgpikgjaaGreatDoor
namespace Go.Proofs.YtdibbemgpikgjaaGreatDoor
open Go Go.RowKit
structure Ox (w:World) (r:kQ) (W:World):Prop where
 it:AV w.heap.size 26 r.cells.toArray W
 lo:Below w.heap.size w W
theorem Ox.start (w:World) (r:kQ):Ox w r (w.alloc (.cells r.cells.toArray 26)):=⟨AV.new w _ _,ag w _⟩
theorem Ox.grow {w W W':World} {r:kQ} (h:Ox w r W) (hb:Below W.heap.size W W'):Ox w r W':=⟨h.it.below hb,ah h.lo hb⟩
theorem Ox.lt {w W:World} {r:kQ} (h:Ox w r W):w.heap.size<W.heap.size:=h.it.lt
structure I7 (KR:List Int) (r:kQ) (k c:Nat) (A:Option Addr) (ts:List di) (W:World):Prop where
 len:ts.length=k
 cap:k≤c
 form:(A=none∧k=0∧c=0)∨∃b off,A=some ⟨b,off,none⟩
 row:gW W W.heap.size A ts
 good:∀x∈ts,oI x
 adm:iU KR r.key ts
 vN:∀x∈ts,x.t.aW=(r.vN.toNat:Int)%16
theorem I7.grow {KR:List Int} {r:kQ} {k c:Nat} {A:Option Addr} {ts:List di} {W W':World} (h:I7 KR r k c A ts W) (hb:Below W.heap.size W W'):I7 KR r k c A ts W':=
 ⟨h.len,h.cap,h.form,h.row.grow hb,h.good,h.adm,h.vN⟩
theorem I7.start (KR:List Int) (r:kQ) (W:World):I7 KR r 0 0 none [] W:=
 ⟨rfl,Nat.le_refl _, .inl ⟨rfl,rfl,rfl⟩,⟨.inl rfl,fun _ h=>nomatch h⟩,(fun _ h=>nomatch h),iU.nil,fun _ h=>nomatch h⟩
structure FT (V:World) (vb:Nat) (T:Tb) (y:di) (W:World):Prop where
 lo:Below V.heap.size V W
 hvb:V.heap.size≤vb
 var:AV vb 37 (ai T (.slice y.A y.zs.length y.c)) W
 mem:eH V.heap.size (.slice (some ⟨vb,0,none⟩) 1 1) W y
section
variable {V W W':World} {vb:Nat} {T T':Tb} {y:di}
theorem FT.new {cs0:Array Value} (hb:Below V.heap.size V W) (hvb:V.heap.size≤vb) (hv:AV vb 37 cs0 W) (hm:eH V.heap.size (.slice (some ⟨vb,0,none⟩) 1 1) W y):
  FT V vb y.t y (W.setRow vb (ai y.t (.slice y.A y.zs.length y.c))):=
 ⟨aF hb hvb _,hvb,hv.qE _,hm.keep (by simp [World.setRow]) fun b _ _ h3=>⟨setRow_other _ _ b _ (fun e=>h3 (by rw [e];rfl)),h3⟩⟩
theorem FT.grow (h:FT V vb T y W) (hb:Below W.heap.size W W'):FT V vb T y W':=
 ⟨ah h.lo hb,h.hvb,h.var.below hb,h.mem.keep hb.size fun b _ h2 h3=>⟨hb.block b h2,h3⟩⟩
theorem FT.set (h:FT V vb T y W) (o:Nat) (v:Value) (he:(ai T (.slice y.A y.zs.length y.c)).setIfInBounds o v=ai T' (.slice y.A y.zs.length y.c)):FT V vb T' y (W.setCell ⟨vb,o,none⟩ v):=by
 have hv:=h.var.put o v
 rw [he] at hv
 exact ⟨h.lo.setCell h.hvb v,h.hvb,hv,h.mem.keep (by simp) fun b _ _ h3=>⟨heap_setCell_other W _ b v (fun e=>h3 (by rw [e];rfl)),h3⟩⟩
theorem FT.Ug (h:FT V vb T y W) (hp:T.prev.length=32) (d:List UInt8) (hd:d.length=32):FT V vb {T with prev:=d} y (W.setCells vb 4 (cellsB d).toList):=by
 have hv:=h.var.setQ 4 (cellsB d).toList
 rw [show Ey _ 4 (cellsB d).toList=_ from xW T _ d hp hd] at hv
 exact ⟨mQ h.hvb _ _ _ h.lo,h.hvb,hv,h.mem.keep (Nat.le_of_eq (oh _ _ _ _).symm) fun b _ _ h3=>⟨jM _ _ _ _ b (fun e=>h3 (by rw [e];rfl)),h3⟩⟩
theorem FT.zes (h:FT V vb T y W):kU W W.heap.size y.A y.zs:=⟨h.mem.1.at,fun z hz=>(h.mem.2 z hz).at⟩
end
structure KX (KR:List Int) (r:kQ) (x:DV) (k:Nat) (ts:List di) (y:di) (T:Tb):Prop where
 vN:T.aW=(r.vN.toNat:Int)%16
 ver:T.version=(k:Int)+1
 wdr:T.aI=(x.wd.toNat:Int)%((k:Int)+1)
 aS:T.aS=sH x.vs
 names:T.aS=y.zs.map (·.e)
 prev:T.prev.length=32
 bG:T.bG.length=32
 first:k=0→T.prev=aY
 link:∀z,ts[k - 1]? =some z→lI KR (oD z.t++z.t.bG)=T.prev
section
variable {KR:List Int} {r:kQ} {x:DV} {k c:Nat} {A:Option Addr} {ts:List di} {y:di} {T:Tb} {W W':World}
theorem KX.made (h:KX KR r x k ts y T) (hk:k≤4):O9 T:=QM (y:=⟨T,none,0,[]⟩) hk h.vN h.ver h.wdr h.first h.aS
theorem KX.good (h:KX KR r x k ts y T) (hk:k≤4):Rz T:=(h.made hk).good h.prev h.bG
theorem KX.up (h:KX KR r x k ts y T) (hk:k≤4):fV y.zs:=(h.made hk).up h.names
theorem QL (d:List UInt8):oD {T with bG:=d}=oD T:=by
 unfold oD
 rfl
theorem KX.Vp (h:KX KR r x k ts y T) (hk:k≤4) {d:List UInt8} (hd:d.length=32) {A':Option Addr} {c':Nat} {ys:List cZ} (he:ys.map (·.e)=T.aS):oI ⟨{T with bG:=d},A',c',ys⟩:=
 ⟨((h.made hk).QF d).good h.prev hd,fV.congr (he.trans h.names) (h.up hk)⟩
theorem KX.next (h:KX KR r x k ts y T) (hC:I7 KR r k c A ts W) {d:List UInt8} (hd:tY KR r.key (oD T)=d):fH KR r.key ts {T with bG:=d}=0:=by
 refine FX ?_ ?_ fun z hz=>?_
 ·rw [QL,hd]
 ·rw [hC.len];exact h.ver
 ·rw [hC.len] at hz
  exact ⟨h.link z hz,(hC.vN z (List.mem_of_getElem? hz)).trans h.vN.symm⟩
theorem I7.snoc (hC:I7 KR r k c A ts W) (h:KX KR r x k ts y T) (hk:k≤4) {d:List UInt8} (hd:tY KR r.key (oD T)=d) {A':Option Addr} {c':Nat} {zs:List cZ} (he:zs.map (·.e)=T.aS) {A2:Option Addr} {c2:Nat} {ys:List di} (hc:k+1≤c2) (hy:ys.map wX=(ts++ [(⟨{T with bG:=d},A',c',zs⟩:di)]).map wX)
  (hr:gW W' W'.heap.size A2 ys):I7 KR r (k+1) c2 A2 ys W':=by
 have hl:ys.length=k+1:=by rw [LK hy,List.length_append,hC.len];rfl
 have hg:∀x∈ts++ [(⟨{T with bG:=d},A',c',zs⟩:di)],oI x∧x.t.aW=(r.vN.toNat:Int)%16:=fun x hx=>by
  rcases List.mem_append.1 hx with h1|h1
  ·exact ⟨hC.good x h1,hC.vN x h1⟩
  ·obtain rfl:=List.mem_singleton.1 h1
   exact ⟨h.Vp hk (by rw [←hd];exact mg _ _ _) he,h.vN⟩
 refine ⟨hl,hc, .inr ?_,hr,oI.congr hy fun x hx=>(hg x hx).1,iU.congr hy (hC.adm.snoc (h.next hC hd)),fun x hx=>?_⟩
 ·rcases nC hr with h1|⟨b,off,h1,_⟩
  ·omega
  ·exact ⟨b,off,h1⟩
 ·obtain ⟨j,hj⟩:=List.getElem?_of_mem hx
  obtain ⟨z,h1,h2,_⟩:=LM hy hj
  rw [←h2]
  exact (hg z (List.mem_of_getElem? h1)).2
end
theorem Uo {W:World} {b o:Nat} {z:di} (hp:z.t.prev.length=32) (hr:W.rangeAt b o z.cells):W.rangeAt b (o+36) (z.t.bG.map Extern.Stop.cell):=fun j v hv=>by
 rw [Nat.add_assoc]
 refine hr (36+j) v ?_
 unfold di.cells
 rw [Us,List.getElem?_append_right (by simp [aj,hp]),show 36+j - ([I z.t.aW,I z.t.version,I z.t.aI,Value.slice z.A z.zs.length z.c]++aj z.t.prev).length=j by simp [aj,hp]]
 exact hv
end Go.Proofs.YtdibbemgpikgjaaGreatDoor
