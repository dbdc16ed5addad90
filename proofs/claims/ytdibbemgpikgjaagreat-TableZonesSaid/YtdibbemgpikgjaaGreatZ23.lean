/- The texts Kf3, Kh, in this order. -/
import Derived.Test.YtdibbemgpikgjaaGreatZ00
import Derived.Test.YtdibbemgpikgjaaGreatZ18
import Derived.Test.YtdibbemgpikgjaaGreatZ20
import Derived.Test.YtdibbemgpikgjaaGreatZ21
import Derived.Test.YtdibbemgpikgjaaGreatZ22
set_option maxRecDepth 10000
set_option maxHeartbeats 8000000
namespace Go.Proofs.YtdibbemgpikgjaaGreat
open Go Go.RowKit
theorem Bf (z:Zn) (s:Zs) (w:World) (hm:nO z) (h:gW w w.heap.size s z):Calls Tryz.prog 73 #[.agg (aj z s)] w (Gives (.int .i64 (vJ z)) w):=by
 rcases hm.yr with hy|hy
 ·exact Rx z s w hm h hy
 ·exact Ry z s w hm h hy
section
variable {P:Program} {ops:Array Oper} {Q:Exit→Act→World→Prop} {a:Act} {w:World} {rest:List Oper} {d:Option Tmp} {t:TypeId} {pos:String} {af:Array Edge} {g:Option (Nat×Bool)}
theorem dO (ty:TypeId) {x y:Operand} (h:wpList P ops Q (⟨d, .store ty x y,t,pos,af,g⟩::rest) a w):wpList P ops Q (⟨d, .store ty x y,t,pos,af,g⟩::rest) a w:=h
theorem fO (ty:TypeId) {x:Operand} (h:wpList P ops Q (⟨d, .load ty x,t,pos,af,g⟩::rest) a w):wpList P ops Q (⟨d, .load ty x,t,pos,af,g⟩::rest) a w:=h
end
theorem NP {B g:Nat} {w W:World} {cs:Array Value} (h:Below B w W) (hg:B≤g):Below B w (W.setRow g cs):=below_setRow h hg _
structure M0 (w:World) (xs:Array Value) (W:World):Prop where
 x:Row W w.heap.size xs
 res:W.heap[w.heap.size+1]? =some (.cells iQ 51 (0,0))
 up:Below w.heap.size w W
theorem M0.start (w:World) (xs:Array Value) (t:TypeId):M0 w xs ((w.alloc (.cells xs t)).alloc (.cells iQ 51)):=
 ⟨(Row.new w xs t).keep (ag _ _),heap_alloc2_new w _ _,ah (ag w _) (ag _ _)⟩
theorem M0.grow {w W W':World} {xs:Array Value} (h:M0 w xs W) (hb:Below W.heap.size W W'):M0 w xs W':=
 ⟨h.x.keep hb,(hb.block _ (iY h.res)).trans h.res,ah h.up hb⟩
theorem M0.zone {w W:World} {xs cs zs:Array Value} (h:M0 w xs W) (t:TypeId) (mo:List Value) (hmo:cs.toList=mo):
  MZ w xs (W.heap.size+1) (W.heap.size+2) zs (some ⟨W.heap.size,0,none⟩) none none mo [] [] (((W.alloc (.cells cs t)).alloc (.cells iQ 51)).setRow (W.heap.size+1) zs):=by
 have hlt:=iY h.res;have hh:((W.alloc (.cells cs t)).alloc (.cells iQ 51)).heap[W.heap.size+1]? =some (.cells iQ 51 (0,0)):=heap_alloc2_new W _ _;have hb:Below W.heap.size W (((W.alloc (.cells cs t)).alloc (.cells iQ 51)).setRow (W.heap.size+1) zs):=NP (ah (ag W _) (ag _ _)) (by omega);refine ⟨h.x.keep hb,(hb.block _ hlt).trans h.res,setRow_heap _ _ _ _ _ _ hh,by omega,by omega,by simp [World.setRow],ah h.up hb,?_, .nil, .nil⟩;refine .inr ⟨W.heap.size,0,rfl,by omega,by omega,by omega,fun j u hu=>?_⟩;rw [Nat.zero_add];have h1:(((W.alloc (.cells cs t)).alloc (.cells iQ 51)).setRow (W.heap.size+1) zs).heap[W.heap.size]? =some (.cells cs t (0,0)):=(setRow_other _ _ _ _ (by omega)).trans (heap_alloc2_old W _ _);rw [cell_of_row _ _ j _ _ _ h1,←Array.getElem?_toList,hmo];exact hu
theorem MZ.relay {w W:World} {xs zs:Array Value} {zb B:Nat} {A R C:Option Addr} {mo ru:List Value} (h:MZ w xs zb B zs A R C mo ru [] W) (cs1 cs2:Array Value) (t1 t2:TypeId) (l1 l2:List Value) (e1:cs1.toList=l1) (e2:cs2.toList=l2):
  MZ w xs zb (W.heap.size+2) zs (some ⟨W.heap.size,0,none⟩) (some ⟨W.heap.size+1,0,none⟩) none l1 l2 [] ((W.alloc (.cells cs1 t1)).alloc (.cells cs2 t2)):=by
 have hb:Below W.heap.size W ((W.alloc (.cells cs1 t1)).alloc (.cells cs2 t2)):=ah (ag W _) (ag _ _);have hg:=h.grow hb;have hz:=h.Xm;have hlo:=h.lo;refine ⟨hg.x,hg.res,hg.z,hg.lo,by omega,by simp,hg.up, .inr ⟨W.heap.size,0,rfl,by omega,by omega,by omega,fun j u hu=>?_⟩, .inr ⟨W.heap.size+1,0,rfl,by omega,by omega,by omega,fun j u hu=>?_⟩, .nil⟩
 ·rw [Nat.zero_add,cell_of_row _ _ j _ _ _ (heap_alloc2_old W _ _),←Array.getElem?_toList,e1];exact hu
 ·rw [Nat.zero_add,cell_of_row _ _ j _ _ _ (heap_alloc2_new W _ _),←Array.getElem?_toList,e2];exact hu
theorem U6 (x:Dw):lH x=x.dQ.length∨lH x=x.iM.length∨lH x=3:=by
 have e:lH x=min (min x.dQ.length x.iM.length) 3:=rfl;omega
def TlRel (w:World) (x:Dw) (xs:Array Value) (zb B:Nat) (zs:Value→Array Value) (A R:Option Addr) (mo ru:List Value) (cnt:Nat) (a i:Value) (wr:World):Prop:=
 ∃(k cc:Nat) (C:Option Addr),k≤cnt∧a= .int .i64 (vO x.dQ k)∧i= .int .i64 k∧iR B wr C k cc (lI x.dQ x.iM k)∧MZ w xs zb B (zs (.slice C k cc)) A R none mo ru [] wr
theorem yt {w W:World} {A:Option Addr} {bs:List UInt8} (h:aB w w.heap.size A (bs.map Extern.Stop.cell)) (hb:Below w.heap.size w W) (h0:0<bs.length):∃b off,A=some ⟨b,off,none⟩∧b<w.heap.size∧∀k,k<bs.length→W.cell? ⟨b,off+k,none⟩=some (.int .u8 ((bs[k]?.getD 0).toNat:Int)):=by
 obtain ⟨b,off,e,hb1,hc⟩:=h.there (by rw [List.length_map];exact h0);refine ⟨b,off,e,hb1,fun k hk=>?_⟩;rw [hb.cell (p:=⟨b,off+k,none⟩) hb1];exact hc k _ (by rw [List.getElem?_map,dE hk];rfl)
theorem JW (g o:List UInt8) (k:Nat):(lI g o (k+1)).flatMap Tr.cells=(lI g o k).flatMap Tr.cells++ [I (vO g (k+1)),I (mV (o[k]?.getD 0).toNat)]:=by
 simp [lI,Tr.cells]
theorem iR.WT {lo n c zb o:Nat} {w:World} {A:Option Addr} {ts:List Tr} (h:iR lo w A n c ts) (hz:zb<lo) (v:Value):iR lo (w.setCell ⟨zb,o,none⟩ v) A n c ts:=ownsRow_setCell_below (a:=⟨zb,o,none⟩) h hz v
theorem own_base {w:World} {base e size n:Nat} {v:Value} {xs:List Value} (h:w.ownsRow base e size v n xs):∀g,v.ownBlock=some g→base≤g:=fun g hg=>(World.ownsRow.lt h g hg).1
theorem sD {v:Value} {b:Nat} (h:∀g,v.ownBlock=some g→g<b):some b≠v.ownBlock:=fun e=>by have:=h b e.symm;omega
theorem Row.grown {w w':World} {b:Nat} {cs:Array Value} {row:Option Nat} (h:Row w b cs) (hg:w.grownBy w' row) (hn:some b≠row):Row w' b cs:=
 ⟨dR h.1 hg.size,fun i=>(World.cell?_of_block (a:=⟨b,i,none⟩) (hg.block b h.1 hn)).trans (h.2 i)⟩
def vI (yv:Nat) (a b c d:Value) (w:World):Prop:=w.cell? ⟨yv,0,none⟩=some a∧w.cell? ⟨yv,1,none⟩=some b∧w.cell? ⟨yv,2,none⟩=some c∧w.cell? ⟨yv,3,none⟩=some d
theorem vI.of {yv:Nat} {a b c d:Value} {w:World} (h:Row w yv #[a,b,c,d]):vI yv a b c d w:=⟨h.2 0,h.2 1,h.2 2,h.2 3⟩
theorem MZ.next {w W:World} {xs zs:Array Value} {zb B n c:Nat} {A R C:Option Addr} {mo ru:List Value} {ts:List Tr} (h:MZ w xs zb B zs A R none mo ru [] W) (ho:iR B W C n c ts) (hl:w.heap.size+2≤B):MZ w xs zb W.heap.size zs A R C mo ru (ts.flatMap Tr.cells) W:=
 ⟨h.x,h.res,h.z,h.lo,h.Xm,Nat.le_refl _,h.up,h.Zr.more h.sz,h.ZG.more h.sz,LZ.dZ ho hl h.hi (Nat.le_refl _)⟩
end Go.Proofs.YtdibbemgpikgjaaGreat
