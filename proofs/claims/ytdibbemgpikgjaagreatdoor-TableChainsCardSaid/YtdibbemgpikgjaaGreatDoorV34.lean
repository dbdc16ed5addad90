/- The texts Kz, La, Lc, Kj, in this order. -/
import Derived.Test.YtdibbemgpikgjaaGreatDoorV00
import Derived.Test.YtdibbemgpikgjaaGreatDoorV01
import Derived.Test.YtdibbemgpikgjaaGreatDoorV14
import Derived.Test.YtdibbemgpikgjaaGreatDoorV19
import Derived.Test.YtdibbemgpikgjaaGreatDoorV26
import Derived.Test.YtdibbemgpikgjaaGreatDoorV31
import Derived.Test.YtdibbemgpikgjaaGreatDoorV33
namespace Go.Proofs.YtdibbemgpikgjaaGreatDoor
open Go Go.RowKit
structure Xb (w:World) (cs:Array Value) (W:World):Prop where
 s:AV w.heap.size 117 cs W
 r:AV (w.heap.size+1) 117 (aA (List.replicate 8 0)) W
 lo:Below w.heap.size w W
theorem Xb.start (w:World) (cs:Array Value):Xb w cs ((w.alloc (.cells cs 117)).alloc (.cells (aA (List.replicate 8 0)) 117)):=
 ⟨⟨heap_alloc2_old w _ _⟩,⟨heap_alloc2_new w _ _⟩,ah (ag w _) (ag _ _)⟩
theorem Xb.grow {w W W':World} {cs:Array Value} (h:Xb w cs W) (hb:Below W.heap.size W W'):Xb w cs W':=
 ⟨h.s.below hb,h.r.below hb,ah h.lo hb⟩
structure KW (w:World) (wb:Nat) (cs ts ws ks:Array Value) (W:World):Prop where
 b:Xb w cs W
 hw:w.heap.size+2≤wb
 w:AV wb 170 ws W
 k:AV (wb+1) 170 ks W
 t:AV (wb+2) 117 ts W
theorem KW.drewN {w W:World} {wb:Nat} {cs ts ws ks:Array Value} (h:KW w wb cs ts ws ks W) (n:Nat):KW w wb cs ts ws ks (W.drewN n):=
 ⟨⟨⟨h.b.s.var⟩,⟨h.b.r.var⟩,⟨h.b.lo.os,h.b.lo.tape,h.b.lo.output,h.b.lo.size,h.b.lo.block⟩⟩,h.hw,⟨h.w.var⟩,⟨h.k.var⟩,⟨h.t.var⟩⟩
theorem KW.drew {w W:World} {wb:Nat} {cs ts ws ks:Array Value} (h:KW w wb cs ts ws ks W):KW w wb cs ts ws ks W.drew:=
 ⟨⟨⟨h.b.s.var⟩,⟨h.b.r.var⟩,⟨h.b.lo.os,h.b.lo.tape,h.b.lo.output,h.b.lo.size,h.b.lo.block⟩⟩,h.hw,⟨h.w.var⟩,⟨h.k.var⟩,⟨h.t.var⟩⟩
theorem KW.row {w W:World} {wb:Nat} {cs ts ws ks:Array Value} (h:KW w wb cs ts ws ks W) (ds:Array Value):KW w wb cs ds ws ks (W.setRow (wb+2) ds):=by
 have hw:=h.hw
 exact ⟨⟨h.b.s.tZ (by omega) _,h.b.r.tZ (by omega) _,aF h.b.lo (by omega) _⟩,h.hw,h.w.tZ (by omega) _,h.k.tZ (by omega) _,h.t.qE _⟩
theorem KW.put {w W:World} {wb:Nat} {cs ws ks:Array Value} {zs:List Int} (h:KW w wb cs (aA zs) ws ks W) (i:Nat) (z:Int):KW w wb cs (aA (zs.set i z)) ws ks (W.setCell ⟨wb+2,i,none⟩ (.int .u32 z)):=by
 have hw:=h.hw
 exact ⟨⟨h.b.s.far (by omega) _ _,h.b.r.far (by omega) _ _,h.b.lo.setCell (p:=⟨wb+2,i,none⟩) (show w.heap.size≤wb+2 by omega) _⟩,h.hw,h.w.far (by omega) _ _,h.k.far (by omega) _ _,by rw [←qp];exact h.t.put i _⟩
theorem KW.start {w W:World} {cs:Array Value} (h:Xb w cs W) (ws ks zs:Array Value):KW w W.heap.size cs cs ws ks ((((((W.alloc (.cells zs 170)).alloc (.cells zs 170)).setRow W.heap.size ws).setRow (W.heap.size+1) ks).alloc (.cells (aA (List.replicate 8 0)) 117)).setRow (W.heap.size+2) cs):=by
 obtain ⟨W1,hW1⟩:∃W1,W.alloc (.cells zs 170)=W1:=⟨_,rfl⟩
 have s1:W1.heap.size=W.heap.size+1:=by rw [←hW1];simp
 have b1:Below W.heap.size W W1:=by rw [←hW1];exact ag W _
 have a1:AV W.heap.size 170 zs W1:=by rw [←hW1];exact AV.new W _ _
 rw [hW1]
 obtain ⟨W2,hW2⟩:∃W2,W1.alloc (.cells zs 170)=W2:=⟨_,rfl⟩
 have b2:Below W1.heap.size W1 W2:=by rw [←hW2];exact ag W1 _
 have s2:W2.heap.size=W.heap.size+2:=by rw [←hW2];simp;omega
 have a2:AV (W.heap.size+1) 170 zs W2:=by rw [←hW2,←s1];exact AV.new W1 _ _
 rw [hW2]
 obtain ⟨W3,hW3⟩:∃W3,W2.setRow W.heap.size ws=W3:=⟨_,rfl⟩
 have s3:W3.heap.size=W.heap.size+2:=by rw [←hW3,←s2];simp [World.setRow]
 have b3:Below W.heap.size W W3:=by rw [←hW3];exact aF (b1.trans (b2.mono (by omega))) (Nat.le_refl _) _
 have a3:AV W.heap.size 170 ws W3:=by rw [←hW3];exact (a1.below b2).qE _
 have a3':AV (W.heap.size+1) 170 zs W3:=by rw [←hW3];exact a2.tZ (by omega) _
 rw [hW3]
 obtain ⟨W4,lW⟩:∃W4,W3.setRow (W.heap.size+1) ks=W4:=⟨_,rfl⟩
 have s4:W4.heap.size=W.heap.size+2:=by rw [←lW,←s3];simp [World.setRow]
 have b4:Below W.heap.size W W4:=by rw [←lW];exact aF b3 (by omega) _
 have a4:AV W.heap.size 170 ws W4:=by rw [←lW];exact a3.tZ (by omega) _
 have a4':AV (W.heap.size+1) 170 ks W4:=by rw [←lW];exact a3'.qE _
 rw [lW]
 have b5:=ag W4 (.cells (aA (List.replicate 8 0)) 117)
 have a5:=AV.new W4 (aA (List.replicate 8 0)) 117
 rw [s4] at a5
 have hl:=h.lo.size
 have hr:=h.r.lt
 exact ⟨⟨((h.s.below b4).below b5).tZ (by have:=h.s.lt;omega) _,((h.r.below b4).below b5).tZ (by omega) _,aF (ah h.lo (b4.trans (b5.mono (by omega)))) (by omega) _⟩,by omega,(a4.below b5).tZ (by omega) _,(a4'.below b5).tZ (by omega) _,a5.qE _⟩
end Go.Proofs.YtdibbemgpikgjaaGreatDoor
namespace Go.Proofs.YtdibbemgpikgjaaGreatDoor
open Go Go.RowKit
def cD (bs:List UInt8):Array Value:=(aj bs).toArray
def d32:List UInt8:=List.replicate 32 0
def iv3:List Int:= [1779033703,3144134277,1013904242,2773480762,1359893119,2600822924,528734635,1541459225]
structure KU (w:World) (zs:List Int) (W:World):Prop where
 r:AV w.heap.size 23 (cD d32) W
 s:AV (w.heap.size+1) 117 (aA zs) W
 lo:Below w.heap.size w W
theorem KU.start (w:World) (z:List Int):KU w iv3 (((w.alloc (.cells (cD d32) 23)).alloc (.cells (aA z) 117)).setRow (w.heap.size+1) (aA iv3)):=
 ⟨⟨(setRow_other _ _ _ _ (by omega)).trans (heap_alloc2_old w _ _)⟩,⟨setRow_heap _ _ _ _ _ _ (heap_alloc2_new w _ _)⟩,aF (ah (ag w _) (ag _ _)) (Nat.le_succ _) _⟩
theorem KU.grow {w W W':World} {zs:List Int} (h:KU w zs W) (hb:Below W.heap.size W W'):KU w zs W':=⟨h.r.below hb,h.s.below hb,ah h.lo hb⟩
theorem KU.row {w W:World} {zs:List Int} (h:KU w zs W) (ds:List Int):KU w ds (W.setRow (w.heap.size+1) (aA ds)):=
 ⟨h.r.tZ (by omega) _,h.s.qE _,aF h.lo (Nat.le_succ _) _⟩
theorem KU.drew {w W:World} {zs:List Int} (h:KU w zs W):KU w zs W.drew:=⟨⟨h.r.var⟩,⟨h.s.var⟩,⟨h.lo.os,h.lo.tape,h.lo.output,h.lo.size,h.lo.block⟩⟩
theorem KU.far {w W:World} {zs:List Int} (h:KU w zs W) (b:Nat) (hb:w.heap.size+1<b) (o:Nat) (v:Value):KU w zs (W.setCell ⟨b,o,none⟩ v):=
 ⟨h.r.far (by omega) _ _,h.s.far (by omega) _ _,h.lo.setCell (p:=⟨b,o,none⟩) (show w.heap.size≤b by omega) _⟩
theorem Nu {w:World} {lo n c:Nat} {A:Option Addr} {bs:List UInt8} (h:uY lo w A n c bs) (h0:0<n):∃g cur,A=some ⟨g,0,none⟩∧lo≤g∧n≤c∧c≤maxLen∧AV g 5 cur w∧∀j,j<n→cur[j]? =some (Extern.Stop.cell (bs[j]?.getD 0)):=by
 have hl:bs.length=n:=by have:=h.1;rw [List.length_map] at this;omega
 rcases h.2 with ⟨_,hn⟩|⟨g,cap,cur,hv,hlo,hh,hnc,hcm,_,ht⟩
 ·omega
 ·injection hv with h1 _ h3
  subst h3
  refine ⟨g,cur,h1,hlo,hnc,hcm,⟨hh⟩,fun j hj=>?_⟩
  have e:(cur.toList.take (n*1))[j]? =some (Extern.Stop.cell (bs[j]?.getD 0)):=by rw [ht,List.getElem?_map,List.getElem?_eq_getElem (by omega)];rfl
  rw [List.getElem?_take_of_lt (by omega)] at e
  simpa using e
end Go.Proofs.YtdibbemgpikgjaaGreatDoor
namespace Go.Proofs.YtdibbemgpikgjaaGreatDoor
open Go Go.RowKit
def Ey (cs:Array Value) (o:Nat):List Value→Array Value
 | []=>cs
 |v::r=>Ey (cs.setIfInBounds o v) (o+1) r
theorem uy:∀(vs:List Value) (w:World) (b o:Nat) (cs:Array Value) (t:TypeId),w.heap[b]? =some (.cells cs t (0,0))→(w.setCells b o vs).heap[b]? =some (.cells (Ey cs o vs) t (0,0))
 | [],_,_,_,_,_,h=>h
 |v::r,w,b,o,_,t,h=>uy r _ b (o+1) _ t (heap_setCell_same w b o _ _ v h)
theorem jM:∀(vs:List Value) (w:World) (b o k:Nat),k≠b→(w.setCells b o vs).heap[k]? =w.heap[k]?
 | [],_,_,_,_,_=>rfl
 |v::r,w,b,o,k,h=>(jM r _ b (o+1) k h).trans (heap_setCell_other w _ k v h)
theorem oh:∀(vs:List Value) (w:World) (b o:Nat),(w.setCells b o vs).heap.size=w.heap.size
 | [],_,_,_=>rfl
 |v::r,w,b,o=>(oh r _ b (o+1)).trans (by simp [World.setCell])
theorem mQ {B b:Nat} {w0:World} (h:B≤b):∀(vs:List Value) (w:World) (o:Nat),Below B w0 w→Below B w0 (w.setCells b o vs)
 | [],_,_,hb=>hb
 |v::r,_,o,hb=>mQ h r _ (o+1) (hb.setCell (p:=⟨b,o,none⟩) h v)
theorem Us (t:Tb) (v:Value):ji t v=([I t.aW,I t.version,I t.aI,v]++aj t.prev)++aj t.bG:=by simp [ji]
theorem fC:(Tryz.prog.info? 37).map (fun i=>(i.zero,i.size))=some (some (.agg (ai bJ (.slice none 0 0))),(ai bJ (.slice none 0 0)).size):=by kernel_rfl
structure SlS (w:World) (ks ts:Array Value) (W:World):Prop where
 k:AV w.heap.size 23 ks W
 t:AV (w.heap.size+1) 37 ts W
 r:AV (w.heap.size+2) 37 (ai bJ (.slice none 0 0)) W
 lo:Below w.heap.size w W
theorem SlS.start (w:World) (ks ts:Array Value):SlS w ks ts (((w.alloc (.cells ks 23)).alloc (.cells ts 37)).alloc (.cells (ai bJ (.slice none 0 0)) 37)):=by
 obtain ⟨W,hW⟩:∃W,(w.alloc (.cells ks 23)).alloc (.cells ts 37)=W:=⟨_,rfl⟩
 have hs:W.heap.size=w.heap.size+2:=by rw [←hW];simp
 have hb:Below w.heap.size w W:=by rw [←hW];exact ah (ag w _) (ag _ _)
 have h1:AV w.heap.size 23 ks W:=by rw [←hW];exact ⟨heap_alloc2_old w _ _⟩
 have h2:AV (w.heap.size+1) 37 ts W:=by rw [←hW];exact ⟨heap_alloc2_new w _ _⟩
 have h3:=AV.new W (ai bJ (.slice none 0 0)) 37
 rw [hs] at h3
 rw [hW]
 exact ⟨h1.below (ag W _),h2.below (ag W _),h3,ah hb (ag W _)⟩
theorem SlS.grow {w W W':World} {ks ts:Array Value} (h:SlS w ks ts W) (hb:Below W.heap.size W W'):SlS w ks ts W':=⟨h.k.below hb,h.t.below hb,h.r.below hb,ah h.lo hb⟩
theorem AV.setQ {b:Nat} {t:TypeId} {cs:Array Value} {W:World} (h:AV b t cs W) (o:Nat) (vs:List Value):AV b t (Ey cs o vs) (W.setCells b o vs):=⟨uy vs W b o cs t h.var⟩
theorem AV.farQ {b g:Nat} {t:TypeId} {cs:Array Value} {W:World} (h:AV b t cs W) (hn:b≠g) (o:Nat) (vs:List Value):AV b t cs (W.setCells g o vs):=⟨(jM vs W g o b hn).trans h.var⟩
theorem AV.there {b:Nat} {t:TypeId} {cs:Array Value} {W:World} (h:AV b t cs W) (o n:Nat) (hn:o+n≤cs.size):W.there b o n:=fun j hj=>⟨by rw [h.cell (o+j),Array.getElem?_eq_getElem (by omega)];rfl,h.dK _⟩
end Go.Proofs.YtdibbemgpikgjaaGreatDoor
namespace Go.Proofs.YtdibbemgpikgjaaGreatDoor
open Go Go.RowKit
def nM (lo:Nat) (A:Option Addr) (cs:List Value):Prop:=cs.length=0∨∃b off,A=some ⟨b,off,none⟩∧lo≤b
theorem LZ.low {lo lo' B g:Nat} {w:World} {A:Option Addr} {cs:List Value} (h:LZ lo B g w A cs) (hlo:lo'≤lo):nM lo' A cs:=by
 rcases h with h|⟨b,off,h1,h0,_⟩
 ·exact .inl h
 ·exact .inr ⟨b,off,h1,Nat.le_trans hlo h0⟩
def zG (lo:Nat) (s:Zs) (z:Zn):Prop:=nM lo s.A (z.cal.au.map I)∧nM lo s.B (z.cal.rules.flatMap Lr.cells)∧nM lo s.C (z.trans.flatMap Tr.cells)∧nM lo s.D (z.aB.flatMap Yr.cells)
def KQ (w:World) (z:Zn) (e:Ending) (w':World):Prop:=∃s,e= .returned (.agg (ay z s))∧jb w' w'.heap.size s z∧zG w.heap.size s z∧Below w.heap.size w w'
theorem Bf (x:Bo) {lo cnt:Nat} {s:Zs} (hp:x.cal.toNat%2=0) (hc:jq x=cnt) (h1:nM lo s.A [I 7,I 6]) (h3:nM lo s.C ((gz x.bT x.dE cnt).flatMap Tr.cells)):zG lo s (y8 x):=by
 have e:nU x.cal=⟨2,[7,6], -1,[]⟩:=by unfold nU;rw [if_neg (by omega)]
 refine ⟨?_,?_,?_, .inl rfl⟩
 ·show nM lo s.A ((nU x.cal).au.map I)
  rw [e];exact h1
 ·show nM lo s.B ((nU x.cal).rules.flatMap Lr.cells)
  rw [e];exact .inl rfl
 ·show nM lo s.C ((gz x.bT x.dE (jq x)).flatMap Tr.cells)
  rw [hc];exact h3
theorem Bg (x:Bo) {lo cnt r:Nat} {s:Zs} (hp:x.cal.toNat%2=1) (hr:x.cal.toNat / 2%2=r) (hc:jq x=cnt) (h1:nM lo s.A [I 7,I 8]) (h2:nM lo s.B [I 2,I (r:Int), .bool true]) (h3:nM lo s.C ((gz x.bT x.dE cnt).flatMap Tr.cells)):zG lo s (y8 x):=by
 have e:nU x.cal=⟨5,[7,8],1,[⟨2,(r:Int),true⟩]⟩:=by unfold nU;rw [if_pos hp,hr]
 refine ⟨?_,?_,?_, .inl rfl⟩
 ·show nM lo s.A ((nU x.cal).au.map I)
  rw [e];exact h1
 ·show nM lo s.B ((nU x.cal).rules.flatMap Lr.cells)
  rw [e];exact h2
 ·show nM lo s.C ((gz x.bT x.dE (jq x)).flatMap Tr.cells)
  rw [hc];exact h3
end Go.Proofs.YtdibbemgpikgjaaGreatDoor
