/- The texts Kf3, Kh, Kw, Kx, Ky, Kz, Qk, Kp, in this order. -/
import Derived.Test.YtdibbemgpikgjaaGreatDoorW00
import Derived.Test.YtdibbemgpikgjaaGreatDoorW04
import Derived.Test.YtdibbemgpikgjaaGreatDoorW08
import Derived.Test.YtdibbemgpikgjaaGreatDoorW09
import Derived.Test.YtdibbemgpikgjaaGreatDoorW11
import Derived.Test.YtdibbemgpikgjaaGreatDoorW12
import Derived.Test.YtdibbemgpikgjaaGreatDoorW13
set_option maxRecDepth 10000
set_option maxHeartbeats 8000000
namespace Go.Proofs.YtdibbemgpikgjaaGreatDoor
open Go Go.RowKit
theorem wL (z:Zn) (s:Zs) (w:World) (hm:uZ z) (h:jy w w.heap.size s z):Calls Tryz.prog 53 #[.agg (ay z s)] w (Gives (.int .i64 (yD z)) w):=by
 rcases hm.yr with hy|hy
 ·exact Tz z s w hm h hy
 ·exact TA z s w hm h hy
section
variable {P:Program} {ops:Array Oper} {Q:Exit→Act→World→Prop} {a:Act} {w:World} {rest:List Oper} {d:Option Tmp} {t:TypeId} {pos:String} {af:Array Edge} {g:Option (Nat×Bool)}
theorem dO (ty:TypeId) {x y:Operand} (h:wpList P ops Q (⟨d, .store ty x y,t,pos,af,g⟩::rest) a w):wpList P ops Q (⟨d, .store ty x y,t,pos,af,g⟩::rest) a w:=h
theorem fA (ty:TypeId) {x:Operand} (h:wpList P ops Q (⟨d, .load ty x,t,pos,af,g⟩::rest) a w):wpList P ops Q (⟨d, .load ty x,t,pos,af,g⟩::rest) a w:=h
end
theorem O0 {B g:Nat} {w W:World} {cs:Array Value} (h:Below B w W) (hg:B≤g):Below B w (W.setRow g cs):=below_setRow h hg _
structure M0 (w:World) (xs:Array Value) (W:World):Prop where
 x:Row W w.heap.size xs
 res:W.heap[w.heap.size+1]? =some (.cells iT 67 (0,0))
 up:Below w.heap.size w W
theorem M0.start (w:World) (xs:Array Value) (t:TypeId):M0 w xs ((w.alloc (.cells xs t)).alloc (.cells iT 67)):=
 ⟨(Row.new w xs t).keep (ag _ _),heap_alloc2_new w _ _,ah (ag w _) (ag _ _)⟩
theorem M0.grow {w W W':World} {xs:Array Value} (h:M0 w xs W) (hb:Below W.heap.size W W'):M0 w xs W':=
 ⟨h.x.keep hb,(hb.block _ (iK h.res)).trans h.res,ah h.up hb⟩
theorem M0.zone {w W:World} {xs cs zs:Array Value} (h:M0 w xs W) (t:TypeId) (mo:List Value) (hmo:cs.toList=mo):
  MZ w xs (W.heap.size+1) (W.heap.size+2) zs (some ⟨W.heap.size,0,none⟩) none none mo [] [] (((W.alloc (.cells cs t)).alloc (.cells iT 67)).setRow (W.heap.size+1) zs):=by
 have hlt:=iK h.res;have hh:((W.alloc (.cells cs t)).alloc (.cells iT 67)).heap[W.heap.size+1]? =some (.cells iT 67 (0,0)):=heap_alloc2_new W _ _;have hb:Below W.heap.size W (((W.alloc (.cells cs t)).alloc (.cells iT 67)).setRow (W.heap.size+1) zs):=O0 (ah (ag W _) (ag _ _)) (by omega);refine ⟨h.x.keep hb,(hb.block _ hlt).trans h.res,setRow_heap _ _ _ _ _ _ hh,by omega,by omega,by simp [World.setRow],ah h.up hb,?_, .nil, .nil⟩;refine .inr ⟨W.heap.size,0,rfl,by omega,by omega,by omega,fun j u hu=>?_⟩;rw [Nat.zero_add];have h1:(((W.alloc (.cells cs t)).alloc (.cells iT 67)).setRow (W.heap.size+1) zs).heap[W.heap.size]? =some (.cells cs t (0,0)):=(setRow_other _ _ _ _ (by omega)).trans (heap_alloc2_old W _ _);rw [cell_of_row _ _ j _ _ _ h1,←Array.getElem?_toList,hmo];exact hu
theorem MZ.relay {w W:World} {xs zs:Array Value} {zb B:Nat} {A R C:Option Addr} {mo ru:List Value} (h:MZ w xs zb B zs A R C mo ru [] W) (cs1 cs2:Array Value) (t1 t2:TypeId) (l1 l2:List Value) (e1:cs1.toList=l1) (e2:cs2.toList=l2):
  MZ w xs zb (W.heap.size+2) zs (some ⟨W.heap.size,0,none⟩) (some ⟨W.heap.size+1,0,none⟩) none l1 l2 [] ((W.alloc (.cells cs1 t1)).alloc (.cells cs2 t2)):=by
 have hb:Below W.heap.size W ((W.alloc (.cells cs1 t1)).alloc (.cells cs2 t2)):=ah (ag W _) (ag _ _);have hg:=h.grow hb;have hz:=h.Qd;have hlo:=h.lo;refine ⟨hg.x,hg.res,hg.z,hg.lo,by omega,by simp,hg.up, .inr ⟨W.heap.size,0,rfl,by omega,by omega,by omega,fun j u hu=>?_⟩, .inr ⟨W.heap.size+1,0,rfl,by omega,by omega,by omega,fun j u hu=>?_⟩, .nil⟩
 ·rw [Nat.zero_add,cell_of_row _ _ j _ _ _ (heap_alloc2_old W _ _),←Array.getElem?_toList,e1];exact hu
 ·rw [Nat.zero_add,cell_of_row _ _ j _ _ _ (heap_alloc2_new W _ _),←Array.getElem?_toList,e2];exact hu
theorem Ob (x:Du):jM x=x.bZ.length∨jM x=x.dJ.length∨jM x=3:=by
 have e:jM x=min (min x.bZ.length x.dJ.length) 3:=rfl;omega
def XR (w:World) (x:Du) (xs:Array Value) (zb B:Nat) (zs:Value→Array Value) (A R:Option Addr) (mo ru:List Value) (cnt:Nat) (a i:Value) (wr:World):Prop:=
 ∃(k cc:Nat) (C:Option Addr),k≤cnt∧a= .int .i64 (uh x.bZ k)∧i= .int .i64 k∧gm B wr C k cc (iq x.bZ x.dJ k)∧MZ w xs zb B (zs (.slice C k cc)) A R none mo ru [] wr
theorem pY {w W:World} {A:Option Addr} {bs:List UInt8} (h:aA w w.heap.size A (bs.map Extern.Stop.cell)) (hb:Below w.heap.size w W) (h0:0<bs.length):∃b off,A=some ⟨b,off,none⟩∧b<w.heap.size∧∀k,k<bs.length→W.cell? ⟨b,off+k,none⟩=some (.int .u8 ((bs[k]?.getD 0).toNat:Int)):=by
 obtain ⟨b,off,e,hb1,hc⟩:=h.there (by rw [List.length_map];exact h0);refine ⟨b,off,e,hb1,fun k hk=>?_⟩;rw [hb.cell (p:=⟨b,off+k,none⟩) hb1];exact hc k _ (by rw [List.getElem?_map,dw hk];rfl)
theorem BO (g o:List UInt8) (k:Nat):(iq g o (k+1)).flatMap Tr.cells=(iq g o k).flatMap Tr.cells++ [I (uh g (k+1)),I (jI (o[k]?.getD 0).toNat)]:=by
 simp [iq,Tr.cells]
theorem gm.NQ {lo n c zb o:Nat} {w:World} {A:Option Addr} {ts:List Tr} (h:gm lo w A n c ts) (hz:zb<lo) (v:Value):gm lo (w.setCell ⟨zb,o,none⟩ v) A n c ts:=ownsRow_setCell_below (a:=⟨zb,o,none⟩) h hz v
theorem own_base {w:World} {base e size n:Nat} {v:Value} {xs:List Value} (h:w.ownsRow base e size v n xs):∀g,v.ownBlock=some g→base≤g:=fun g hg=>(World.ownsRow.lt h g hg).1
theorem lM {v:Value} {b:Nat} (h:∀g,v.ownBlock=some g→g<b):some b≠v.ownBlock:=fun e=>by have:=h b e.symm;omega
theorem Row.grown {w w':World} {b:Nat} {cs:Array Value} {row:Option Nat} (h:Row w b cs) (hg:w.grownBy w' row) (hn:some b≠row):Row w' b cs:=
 ⟨dQ h.1 hg.size,fun i=>(World.cell?_of_block (a:=⟨b,i,none⟩) (hg.block b h.1 hn)).trans (h.2 i)⟩
def lX (yv:Nat) (a b c d:Value) (w:World):Prop:=w.cell? ⟨yv,0,none⟩=some a∧w.cell? ⟨yv,1,none⟩=some b∧w.cell? ⟨yv,2,none⟩=some c∧w.cell? ⟨yv,3,none⟩=some d
theorem lX.of {yv:Nat} {a b c d:Value} {w:World} (h:Row w yv #[a,b,c,d]):lX yv a b c d w:=⟨h.2 0,h.2 1,h.2 2,h.2 3⟩
theorem MZ.next {w W:World} {xs zs:Array Value} {zb B n c:Nat} {A R C:Option Addr} {mo ru:List Value} {ts:List Tr} (h:MZ w xs zb B zs A R none mo ru [] W) (ho:gm B W C n c ts) (hl:w.heap.size+2≤B):MZ w xs zb W.heap.size zs A R C mo ru (ts.flatMap Tr.cells) W:=
 ⟨h.x,h.res,h.z,h.lo,h.Qd,Nat.le_refl _,h.up,h.Td.more h.sz,h.X8.more h.sz,LZ.dS ho hl h.hi (Nat.le_refl _)⟩
theorem Jz (x:Du) (mb cnt cc:Nat) (C:Option Addr) {st hz:Int} (hp:x.cal.toNat%2=0) (hc:jM x=cnt) (hs:jI x.st.toNat=st) (hh:uh x.bZ cnt+2160+20*(x.bh.toNat:Int)=hz):
  ay (Ak x) ⟨some ⟨mb,0,none⟩,2,none,0,C,cc,none,0⟩= #[I 2, .slice (some ⟨mb,0,none⟩) 2 2,I (-1), .slice none 0 0,I st, .slice C cnt cc,I hz, .slice none 0 0]:=by
 have e:pq x.cal=⟨2,[7,6], -1,[]⟩:=by unfold pq;rw [if_neg (by omega)]
 unfold ay Ak;simp only [e,hc,qQ,hs,hh];rfl
theorem JA (x:Du) (mb cnt cc:Nat) (C:Option Addr) {st hz:Int} (hp:x.cal.toNat%2=1) (hc:jM x=cnt) (hs:jI x.st.toNat=st) (hh:uh x.bZ cnt+2160+20*(x.bh.toNat:Int)=hz):
  ay (Ak x) ⟨some ⟨mb,0,none⟩,2,some ⟨mb+1,0,none⟩,1,C,cc,none,0⟩= #[I 5, .slice (some ⟨mb,0,none⟩) 2 2,I 1, .slice (some ⟨mb+1,0,none⟩) 1 1,I st, .slice C cnt cc,I hz, .slice none 0 0]:=by
 have e:pq x.cal=⟨5,[7,8],1,[⟨2,((x.cal.toNat / 2%2:Nat):Int),true⟩]⟩:=by unfold pq;rw [if_pos hp]
 unfold ay Ak;simp only [e,hc,qQ,hs,hh];rfl
theorem Am (x:Du) {W:World} {B cnt:Nat} {s:Zs} (hp:x.cal.toNat%2=0) (hc:jM x=cnt) (h1:aA W B s.A [I 7,I 6]) (h3:aA W B s.C ((iq x.bZ x.dJ cnt).flatMap Tr.cells)):jy W B s (Ak x):=by
 have e:pq x.cal=⟨2,[7,6], -1,[]⟩:=by unfold pq;rw [if_neg (by omega)]
 refine ⟨?_,?_,?_, .nil⟩
 ·show aA W B s.A ((pq x.cal).az.map I);rw [e];exact h1
 ·show aA W B s.B ((pq x.cal).rules.flatMap Lr.cells);rw [e];exact .nil
 ·show aA W B s.C ((iq x.bZ x.dJ (jM x)).flatMap Tr.cells);rw [hc];exact h3
theorem Ap (x:Du) {W:World} {B cnt r:Nat} {s:Zs} (hp:x.cal.toNat%2=1) (hr:x.cal.toNat / 2%2=r) (hc:jM x=cnt) (h1:aA W B s.A [I 7,I 8]) (h2:aA W B s.B [I 2,I (r:Int), .bool true]) (h3:aA W B s.C ((iq x.bZ x.dJ cnt).flatMap Tr.cells)):jy W B s (Ak x):=by
 have e:pq x.cal=⟨5,[7,8],1,[⟨2,(r:Int),true⟩]⟩:=by unfold pq;rw [if_pos hp,hr]
 refine ⟨?_,?_,?_, .nil⟩
 ·show aA W B s.A ((pq x.cal).az.map I);rw [e];exact h1
 ·show aA W B s.B ((pq x.cal).rules.flatMap Lr.cells);rw [e];exact h2
 ·show aA W B s.C ((iq x.bZ x.dJ (jM x)).flatMap Tr.cells);rw [hc];exact h3
def uy:List Int:= [1116352408,1899447441,3049323471,3921009573,961987163,1508970993,2453635748,2870763221,3624381080,310598401,607225278,1426881987,1925078388,2162078206,2614888103,3248222580,3835390401,4022224774,264347078,604807628,770255983,1249150122,1555081692,1996064986,2554220882,2821834349,2952996808,3210313671,3336571891,3584528711,113926993,338241895,666307205,773529912,1294757372,1396182291,1695183700,1986661051,2177026350,2456956037,2730485921,2820302411,3259730800,3345764771,3516065817,3600352804,4094571909,275423344,430227734,506948616,659060556,883997877,958139571,1322822218,1537002063,1747873779,1955562222,2024104815,2227730452,2361852424,2428436474,2756734187,3204031479,3329325298]
def Jn (l:List Int):Array Value:=(l.map (Value.int .u32)).toArray
theorem TW (l:List Int):(Jn l).all (·.oneCell')=true:=by
 unfold Jn;rw [Array.all_eq_true'];intro u hu;simp only [List.mem_toArray,List.mem_map] at hu;obtain ⟨x,_,rfl⟩:=hu;rfl
theorem Tv (w:World):Calls Tryz.prog 100 #[] w (Gives (.agg (Jn uy)) w):=by
 go_enter Tryz.func100,Tryz.ntmps100;go_wp2_with ((with_reducible refine dO 170 ?_);go_must (refine wpList_store_row rfl _ _ _ rfl w.heap.size (Jn uy) rfl rfl 170 (Jn (List.replicate 64 0)) (heap_alloc_last w _) (by kernel_rfl) rfl (TW _) ?_));refine bodyPost_ret (v:= .agg (Jn uy)) (results_cell_row rfl _ _ w.heap.size _ (Jn uy) (0,0) _ rfl (setRow_heap _ _ _ _ _ _ (heap_alloc_last w _)) Tryz.underlying170 rfl (by kernel_rfl)) rfl ?_;exact ⟨rfl,below_setRow (ag w _) (Nat.le_refl _) _⟩
theorem WO (l:List Int):Jn l=au l:=rfl
theorem CG (x n:Int) (w:World) (k:Nat) (h0:0<n) (h1:n<32):Calls Tryz.prog 101 #[.int .u32 x,I n] (w.drewN k) fun e w''=>e= .returned (.int .u32 (dZ x n))∧∃m,w''=w.drewN m:=
 Calls.quiet_of (TT x n _ h0 h1)
structure JL (w:World) (zs:List Int) (wr:World):Prop where
 var:AV (w.heap.size+1) 170 (au zs) wr
 res:AV w.heap.size 170 (au (List.replicate 64 0)) wr
 lo:Below w.heap.size w wr
theorem JL.drew {w wr:World} {zs:List Int} (h:JL w zs wr):JL w zs wr.drew:=⟨h.var.drew,h.res.drew,h.lo.drew⟩
theorem JL.put {w wr:World} {zs:List Int} (h:JL w zs wr) (i:Nat) (z:Int):JL w (zs.set i z) (wr.setCell ⟨w.heap.size+1,i,none⟩ (.int .u32 z)):=
 ⟨by rw [←rH];exact h.var.put i _,h.res.far (by omega) _ _,h.lo.setCell (p:=⟨w.heap.size+1,i,none⟩) (Nat.le_succ _) _⟩
theorem JL.drewN {w wr:World} {zs:List Int} (h:JL w zs wr) (n:Nat):JL w zs (wr.drewN n):=⟨⟨h.var.var⟩,⟨h.res.var⟩,⟨h.lo.os,h.lo.tape,h.lo.output,h.lo.size,h.lo.block⟩⟩
theorem uG:(Tryz.prog.info? 117).map (fun i=>(i.zero,i.size))=some (some (.agg (au (List.replicate 8 0))),(au (List.replicate 8 0)).size):=by kernel_rfl
theorem BG {t:List Int} (h:t.length=8):∃a b c d e f g i,t= [a,b,c,d,e,f,g,i]:=by
 match t,h with
 | [a,b,c,d,e,f,g,i],_=>exact ⟨a,b,c,d,e,f,g,i,rfl⟩
structure Vf (w:World) (cs:Array Value) (W:World):Prop where
 s:AV w.heap.size 117 cs W
 r:AV (w.heap.size+1) 117 (au (List.replicate 8 0)) W
 lo:Below w.heap.size w W
theorem Vf.start (w:World) (cs:Array Value):Vf w cs ((w.alloc (.cells cs 117)).alloc (.cells (au (List.replicate 8 0)) 117)):=
 ⟨⟨heap_alloc2_old w _ _⟩,⟨heap_alloc2_new w _ _⟩,ah (ag w _) (ag _ _)⟩
theorem Vf.grow {w W W':World} {cs:Array Value} (h:Vf w cs W) (hb:Below W.heap.size W W'):Vf w cs W':=
 ⟨h.s.below hb,h.r.below hb,ah h.lo hb⟩
structure Bd (w:World) (wb:Nat) (cs ts ws ks:Array Value) (W:World):Prop where
 b:Vf w cs W
 hw:w.heap.size+2≤wb
 w:AV wb 170 ws W
 k:AV (wb+1) 170 ks W
 t:AV (wb+2) 117 ts W
theorem Bd.drewN {w W:World} {wb:Nat} {cs ts ws ks:Array Value} (h:Bd w wb cs ts ws ks W) (n:Nat):Bd w wb cs ts ws ks (W.drewN n):=
 ⟨⟨⟨h.b.s.var⟩,⟨h.b.r.var⟩,⟨h.b.lo.os,h.b.lo.tape,h.b.lo.output,h.b.lo.size,h.b.lo.block⟩⟩,h.hw,⟨h.w.var⟩,⟨h.k.var⟩,⟨h.t.var⟩⟩
theorem Bd.drew {w W:World} {wb:Nat} {cs ts ws ks:Array Value} (h:Bd w wb cs ts ws ks W):Bd w wb cs ts ws ks W.drew:=
 ⟨⟨⟨h.b.s.var⟩,⟨h.b.r.var⟩,⟨h.b.lo.os,h.b.lo.tape,h.b.lo.output,h.b.lo.size,h.b.lo.block⟩⟩,h.hw,⟨h.w.var⟩,⟨h.k.var⟩,⟨h.t.var⟩⟩
theorem Bd.row {w W:World} {wb:Nat} {cs ts ws ks:Array Value} (h:Bd w wb cs ts ws ks W) (ds:Array Value):Bd w wb cs ds ws ks (W.setRow (wb+2) ds):=by
 have hw:=h.hw;exact ⟨⟨h.b.s.rV (by omega) _,h.b.r.rV (by omega) _,aB h.b.lo (by omega) _⟩,h.hw,h.w.rV (by omega) _,h.k.rV (by omega) _,h.t.pG _⟩
theorem Bd.put {w W:World} {wb:Nat} {cs ws ks:Array Value} {zs:List Int} (h:Bd w wb cs (au zs) ws ks W) (i:Nat) (z:Int):Bd w wb cs (au (zs.set i z)) ws ks (W.setCell ⟨wb+2,i,none⟩ (.int .u32 z)):=by
 have hw:=h.hw;exact ⟨⟨h.b.s.far (by omega) _ _,h.b.r.far (by omega) _ _,h.b.lo.setCell (p:=⟨wb+2,i,none⟩) (show w.heap.size≤wb+2 by omega) _⟩,h.hw,h.w.far (by omega) _ _,h.k.far (by omega) _ _,by rw [←rH];exact h.t.put i _⟩
theorem Bd.start {w W:World} {cs:Array Value} (h:Vf w cs W) (ws ks zs:Array Value):Bd w W.heap.size cs cs ws ks ((((((W.alloc (.cells zs 170)).alloc (.cells zs 170)).setRow W.heap.size ws).setRow (W.heap.size+1) ks).alloc (.cells (au (List.replicate 8 0)) 117)).setRow (W.heap.size+2) cs):=by
 obtain ⟨W1,hW1⟩:∃W1,W.alloc (.cells zs 170)=W1:=⟨_,rfl⟩;have s1:W1.heap.size=W.heap.size+1:=by rw [←hW1];simp
 have b1:Below W.heap.size W W1:=by rw [←hW1];exact ag W _
 have a1:AV W.heap.size 170 zs W1:=by rw [←hW1];exact AV.new W _ _
 rw [hW1];obtain ⟨W2,hW2⟩:∃W2,W1.alloc (.cells zs 170)=W2:=⟨_,rfl⟩;have b2:Below W1.heap.size W1 W2:=by rw [←hW2];exact ag W1 _
 have s2:W2.heap.size=W.heap.size+2:=by rw [←hW2];simp;omega
 have a2:AV (W.heap.size+1) 170 zs W2:=by rw [←hW2,←s1];exact AV.new W1 _ _
 rw [hW2];obtain ⟨W3,hW3⟩:∃W3,W2.setRow W.heap.size ws=W3:=⟨_,rfl⟩;have s3:W3.heap.size=W.heap.size+2:=by rw [←hW3,←s2];simp [World.setRow]
 have b3:Below W.heap.size W W3:=by rw [←hW3];exact aB (b1.trans (b2.mono (by omega))) (Nat.le_refl _) _
 have a3:AV W.heap.size 170 ws W3:=by rw [←hW3];exact (a1.below b2).pG _
 have a3':AV (W.heap.size+1) 170 zs W3:=by rw [←hW3];exact a2.rV (by omega) _
 rw [hW3];obtain ⟨W4,o9⟩:∃W4,W3.setRow (W.heap.size+1) ks=W4:=⟨_,rfl⟩;have s4:W4.heap.size=W.heap.size+2:=by rw [←o9,←s3];simp [World.setRow]
 have b4:Below W.heap.size W W4:=by rw [←o9];exact aB b3 (by omega) _
 have a4:AV W.heap.size 170 ws W4:=by rw [←o9];exact a3.rV (by omega) _
 have a4':AV (W.heap.size+1) 170 ks W4:=by rw [←o9];exact a3'.pG _
 rw [o9];have b5:=ag W4 (.cells (au (List.replicate 8 0)) 117);have a5:=AV.new W4 (au (List.replicate 8 0)) 117;rw [s4] at a5;have hl:=h.lo.size;have hr:=h.r.lt;exact ⟨⟨((h.s.below b4).below b5).rV (by have:=h.s.lt;omega) _,((h.r.below b4).below b5).rV (by omega) _,aB (ah h.lo (b4.trans (b5.mono (by omega)))) (by omega) _⟩,by omega,(a4.below b5).rV (by omega) _,(a4'.below b5).rV (by omega) _,a5.pG _⟩
theorem Jb (W:World) (zs ws ks:Array Value):((((W.alloc (.cells zs 170)).alloc (.cells zs 170)).setRow W.heap.size ws).setRow (W.heap.size+1) ks).heap.size=W.heap.size+2:=by simp [World.setRow]
theorem PN (W:World) (zs ws ks:Array Value):Below W.heap.size W ((((W.alloc (.cells zs 170)).alloc (.cells zs 170)).setRow W.heap.size ws).setRow (W.heap.size+1) ks):=
 aB (aB (ah (ag W _) (ag _ _)) (Nat.le_refl _) _) (Nat.le_succ _) _
theorem Wv {w W:World} {cs:Array Value} (h:Vf w cs W) (zs ws ks:Array Value):fH ((((W.alloc (.cells zs 170)).alloc (.cells zs 170)).setRow W.heap.size ws).setRow (W.heap.size+1) ks) w.heap.size cs:=(h.s.below (PN W zs ws ks)).jg
theorem Wy (W:World) (zs ws ks cs:Array Value):(((((W.alloc (.cells zs 170)).alloc (.cells zs 170)).setRow W.heap.size ws).setRow (W.heap.size+1) ks).alloc (.cells cs 117)).heap[W.heap.size+2]? =some (.cells cs 117 (0,0)):=by
 rw [←Jb W zs ws ks];exact heap_alloc_last _ _
theorem uK.app0 {w w3:World} {v v':Value} (hg:w.grownBy w3 v.ownBlock) (hat:v'.ownBlock=v.ownBlock∨v'.ownBlock=some w.heap.size):uK v w v' w3:=
 ⟨hg.os,hg.tape,hg.output,hg.size,fun k hk hv=>hg.block k hk hv,hat.imp id fun e=>⟨_,e,Nat.le_refl _⟩⟩
theorem uK.jf {w w':World} {v:Value} (h:uK (.slice none 0 0) w v w'):Below w.heap.size w w':=h.wI (fun g hg=>by cases hg) (Nat.le_refl _)
def UG (t:Tr):List UInt8:=le t.at_ 8++le t.off 2
def WX (y:Yr):List UInt8:=le y.month 1++(le y.cZ 1++(le y.df 1++(le y.minute 2++le y.off 2)))
def JB (z:Zn):List UInt8:=uj z.cal++(le z.start 2++(le z.trans.length 2++(z.trans.flatMap UG++(le z.hor 8++(le z.aK.length 1++z.aK.flatMap WX)))))
structure Y14 (y:Yr):Prop where
 month:fits y.month
 cZ:fits y.cZ
 df:fits y.df
 minute:fits y.minute
 off:fits y.off
structure Z14 (z:Zn):Prop where
 cal:C14 z.cal
 start:fits z.start
 tl:z.trans.length≤1000
 tr:∀x∈z.trans,fits x.at_∧fits x.off
 hor:fits z.hor
 yl:z.aK.length≤1000
 yr:∀y∈z.aK,Y14 y
theorem Oq (t:Tr):(UG t).length=10:=by simp [UG,aC]
theorem Oy (y:Yr):(WX y).length=7:=by simp [WX,aC]
theorem O4 (c:Cal) (h:C14 c):(uj c).length≤7000:=by
 have g:=iD (le · 1) c.az 1 c.az.length (fun _=>aC _ _);have g2:=iD UF c.rules 5 c.rules.length FZ;rw [List.take_length] at g g2;have h1:=h.mo;have h2:=h.ru;simp only [uj,aZ,aC];omega
theorem CB.grow {lo n c:Nat} {v0:Value} {A:Option Addr} {w W W':World} {cs:Array Value} {bs:List UInt8} (h:CB lo v0 w cs bs A n c W) (hb:Below W.heap.size W W'):CB lo v0 w cs bs A n c W':=
 ⟨h.row.keep hb,nJ.below h.own hb,h.len,h.keep.below hb,h.far⟩
theorem CB.qU {lo n c:Nat} {v0:Value} {A:Option Addr} {w W:World} {cs:Array Value} {bs:List UInt8} (h:CB lo v0 w cs bs A n c W) (b:Nat) (hb:W.heap.size≤b):some b≠(Value.slice A n c).ownBlock:=fun e=>by have:=(World.ownsRow.lt h.own _ e.symm).2;omega
def UO (b:Nat) (cs:Array Value) (v:Value) (W:World):Prop:=Row W b cs∧some b≠v.ownBlock
theorem UO.next {b:Nat} {cs:Array Value} {v v':Value} {W W':World} (h:UO b cs v W) (hk:uK v W v' W'):UO b cs v' W':=by
 have hlt:=h.1.1;refine ⟨⟨dQ hlt hk.size,fun i=>(World.cell?_of_block (a:=⟨b,i,none⟩) (hk.block _ hlt h.2)).trans (h.1.2 i)⟩,?_⟩;rcases hk.own with e|⟨g,e,hb⟩
 ·rw [e];exact h.2
 ·rw [e];intro h';injection h' with h';omega
theorem Ui (lo n c0:Nat) (A0:Option Addr) (bs:List UInt8) (z:Zn) (s:Zs) (w:World) (hl:bs.length=n) (hn:n≤50000) (hc:Z14 z) (hm:jy w lo s z) (hlo:lo≤w.heap.size) (hO:nJ lo w A0 n c0 bs):
  Calls Tryz.prog 66 #[.slice A0 n c0, .agg (ay z s)] w (Xi lo (.slice A0 n c0) w (bs++JB z)):=by
 have vW:Hid (Calls Tryz.prog 89 #[.slice A0 n c0, .agg (aF z.cal s.A s.a s.B s.b)] (w.alloc (.cells (ay z s) 67)) (Xi lo (.slice A0 n c0) (w.alloc (.cells (ay z s) 67)) (bs++uj z.cal))):=ae (KI lo n c0 A0 bs z.cal s.A s.B s.a s.b _ hl (by omega) hc.cal ⟨(hm.az.keep ((ag w _).mono hlo)),(hm.rules.keep ((ag w _).mono hlo))⟩ (by simp;omega) (nJ.below hO (ag w _)));have hcb:=O4 z.cal hc.cal;obtain ⟨cb,ZU⟩:∃l,uj z.cal=l:=⟨_,rfl⟩;rw [ZU] at vW hcb;obtain ⟨⟨ep,mo,lp,ru⟩,st,tr,ho,yr⟩:=z;obtain ⟨A,a,R,r,C,cc,D,dd⟩:=s;obtain ⟨_,x1,x2,x3,x4,x5,x6⟩:=hc;obtain ⟨_,_,y0,y1⟩:=hm;simp only at x1 x2 x3 x4 x5 x6 y0 y1;unfold JB;rw [ZU];unfold ay aF at vW;unfold ay;simp only at vW ⊢;obtain ⟨nm,hnm⟩:∃n,mo.length=n:=⟨_,rfl⟩;obtain ⟨nr,hnr⟩:∃n,ru.length=n:=⟨_,rfl⟩;obtain ⟨nt,hnt⟩:∃n,tr.length=n:=⟨_,rfl⟩;obtain ⟨ny,hny⟩:∃n,yr.length=n:=⟨_,rfl⟩;have FM:=ae (fun k=>iD UG tr 10 k Oq);have FR:=ae (fun k=>iD WX yr 7 k Oy);have yV:=ae x3;have jB:=ae x6;have HY0:=ae y0;have QN:=ae y1;have AL:=ae hO;have HNT:=ae hnt;have XF:=ae hny;rw [hnm,hnr] at vW ⊢;rw [hnt] at x2 FM vW ⊢;rw [hny] at x5 FR vW ⊢;have HB:=ae (CB.start #[I ep, .slice A nm a,I lp, .slice R nr r,I st, .slice C nt cc,I ho, .slice D ny dd] 67 hO hl);clear x3 x6 y0 y1 hO hnm hnr hnt hny ZU;go_enter Tryz.func66,Tryz.ntmps66;go_wp2_with fail;refine vW.out.mono ?_;rintro e w0 ⟨A1,n1,c1,l1,rfl,o1,k1⟩;have H0:=ae (HB.out.next o1 l1 k1);clear l1 o1 k1 vW;have q0:(w0).cell? ⟨w.heap.size,0,none⟩=some (I ep):=H0.out.row.2 0;have q1:(w0).cell? ⟨w.heap.size,1,none⟩=some (.slice A nm a):=H0.out.row.2 1;have q2:(w0).cell? ⟨w.heap.size,2,none⟩=some (I lp):=H0.out.row.2 2;have q3:(w0).cell? ⟨w.heap.size,3,none⟩=some (.slice R nr r):=H0.out.row.2 3;have q4:(w0).cell? ⟨w.heap.size,4,none⟩=some (I st):=H0.out.row.2 4;have q5:(w0).cell? ⟨w.heap.size,5,none⟩=some (.slice C nt cc):=H0.out.row.2 5;have q6:(w0).cell? ⟨w.heap.size,6,none⟩=some (I ho):=H0.out.row.2 6;have q7:(w0).cell? ⟨w.heap.size,7,none⟩=some (.slice D ny dd):=H0.out.row.2 7;go_wp2_with fail;refine (dR lo _ _ 2 _ _ st _ H0.out.len (by have h:=H0.out.len;(try simp only [aZ] at h);omega) (by omega) x1 (Nat.le_trans hlo H0.out.keep.size) H0.out.own).mono ?_;rintro e w2 ⟨A2,n2,c2,l1,rfl,o1,k1⟩;have H1:=ae (H0.out.next o1 l1 k1);clear l1 o1 k1;clear q0 q1 q2 q3 q4 q5 q6 q7;have q0:(w2).cell? ⟨w.heap.size,0,none⟩=some (I ep):=H1.out.row.2 0;have q1:(w2).cell? ⟨w.heap.size,1,none⟩=some (.slice A nm a):=H1.out.row.2 1;have q2:(w2).cell? ⟨w.heap.size,2,none⟩=some (I lp):=H1.out.row.2 2;have q3:(w2).cell? ⟨w.heap.size,3,none⟩=some (.slice R nr r):=H1.out.row.2 3;have q4:(w2).cell? ⟨w.heap.size,4,none⟩=some (I st):=H1.out.row.2 4;have q5:(w2).cell? ⟨w.heap.size,5,none⟩=some (.slice C nt cc):=H1.out.row.2 5;have q6:(w2).cell? ⟨w.heap.size,6,none⟩=some (I ho):=H1.out.row.2 6;have q7:(w2).cell? ⟨w.heap.size,7,none⟩=some (.slice D ny dd):=H1.out.row.2 7;go_wp2_with fail;refine (dR lo _ _ 2 _ _ nt _ H1.out.len (by have h:=H1.out.len;(try simp only [aZ,aC] at h);omega) (by omega) ⟨by omega,by omega⟩ (Nat.le_trans hlo H1.out.keep.size) H1.out.own).mono ?_;rintro e w3 ⟨A3,n3,c3,l1,rfl,o1,k1⟩;have H2:=ae (H1.out.next o1 l1 k1);clear l1 o1 k1;clear q0 q1 q2 q3 q4 q5 q6 q7;have q0:(w3).cell? ⟨w.heap.size,0,none⟩=some (I ep):=H2.out.row.2 0;have q1:(w3).cell? ⟨w.heap.size,1,none⟩=some (.slice A nm a):=H2.out.row.2 1;have q2:(w3).cell? ⟨w.heap.size,2,none⟩=some (I lp):=H2.out.row.2 2;have q3:(w3).cell? ⟨w.heap.size,3,none⟩=some (.slice R nr r):=H2.out.row.2 3;have q4:(w3).cell? ⟨w.heap.size,4,none⟩=some (I st):=H2.out.row.2 4;have q5:(w3).cell? ⟨w.heap.size,5,none⟩=some (.slice C nt cc):=H2.out.row.2 5;have q6:(w3).cell? ⟨w.heap.size,6,none⟩=some (I ho):=H2.out.row.2 6;have q7:(w3).cell? ⟨w.heap.size,7,none⟩=some (.slice D ny dd):=H2.out.row.2 7;go_wp2_with fail
 go_loopw [0,5] (fun b i wr=>GZ lo (.slice A0 n c0) w #[I ep, .slice A nm a,I lp, .slice R nr r,I st, .slice C nt cc,I ho, .slice D ny dd] (fun k=>bs++cb++le st 2++le nt 2++(tr.take k).flatMap UG) nt b i wr) (fun _ i _=>nt - (intOf i).toNat)
 case atStart=>exact ⟨0,n3,c3,A3,Nat.zero_le _,rfl,by go_num,by simpa using H2.out⟩
 case round=>
  obtain ⟨k,n4,c4,A4,hk,rfl,rfl,hb3⟩:=hrel;have HB3:=ae hb3;clear hb3 q0 q1 q2 q3 q4 q5 q6 q7;have q0:(wr).cell? ⟨w.heap.size,0,none⟩=some (I ep):=HB3.out.row.2 0;have q1:(wr).cell? ⟨w.heap.size,1,none⟩=some (.slice A nm a):=HB3.out.row.2 1;have q2:(wr).cell? ⟨w.heap.size,2,none⟩=some (I lp):=HB3.out.row.2 2;have q3:(wr).cell? ⟨w.heap.size,3,none⟩=some (.slice R nr r):=HB3.out.row.2 3;have q4:(wr).cell? ⟨w.heap.size,4,none⟩=some (I st):=HB3.out.row.2 4;have q5:(wr).cell? ⟨w.heap.size,5,none⟩=some (.slice C nt cc):=HB3.out.row.2 5;have q6:(wr).cell? ⟨w.heap.size,6,none⟩=some (I ho):=HB3.out.row.2 6;have q7:(wr).cell? ⟨w.heap.size,7,none⟩=some (.slice D ny dd):=HB3.out.row.2 7;by_cases hlt:(k:Int)<(nt:Int)
  ·obtain ⟨b,off,rfl,nO,hcl⟩:=HY0.out.there (by rw [dN (s:=2) Tr.cells tr (fun _ _=>rfl),HNT.out];omega);have hx:tr[k]? =some (tr[k]'(by rw [HNT.out];omega)):=dw _;obtain ⟨x,hxx⟩:∃x,tr[k]'(by rw [HNT.out];omega)=x:=⟨_,rfl⟩;rw [hxx] at hx;have Ed:Hid (∀i u,x.cells[i]? =some u→w.cell? ⟨b,off+k*2+i,none⟩=some u):=ae (fun i u hu=>by rw [Nat.add_assoc];exact hcl _ _ (by rw [flat_get (s:=2) Tr.cells tr (fun _ _=>rfl) k i x hx (by have:=(gu.1 hu).1;simpa [Tr.cells] using this)];exact hu));have HX:=ae hx;have hfx:=yV.out x (fZ hx);clear hcl hx hxx;have z0:(wr).cell? ⟨b,off+k*2,none⟩=some (I x.at_):=((HB3.out.low AL.out hlo).cell (p:=⟨b,off+k*2,none⟩) nO).trans (Ed.out 0 _ rfl);have z1:(wr).cell? ⟨b,off+k*2+1,none⟩=some (I x.off):=((HB3.out.low AL.out hlo).cell (p:=⟨b,off+k*2+1,none⟩) nO).trans (Ed.out 1 _ rfl);go_wp2_with fail;refine (dR lo _ _ 8 _ _ x.at_ _ HB3.out.len (by have h:=HB3.out.len;have g:=FM.out k;(try simp only [aZ,aC] at h);omega) (by omega) hfx.1 (Nat.le_trans hlo HB3.out.keep.size) HB3.out.own).mono ?_;rintro e w5 ⟨A5,n5,c5,l1,rfl,o1,k1⟩;have H4:=ae (HB3.out.next o1 l1 k1);clear l1 o1 k1;clear q0 q1 q2 q3 q4 q5 q6 q7;clear z0 z1;have q0:(w5).cell? ⟨w.heap.size,0,none⟩=some (I ep):=H4.out.row.2 0;have q1:(w5).cell? ⟨w.heap.size,1,none⟩=some (.slice A nm a):=H4.out.row.2 1;have q2:(w5).cell? ⟨w.heap.size,2,none⟩=some (I lp):=H4.out.row.2 2;have q3:(w5).cell? ⟨w.heap.size,3,none⟩=some (.slice R nr r):=H4.out.row.2 3;have q4:(w5).cell? ⟨w.heap.size,4,none⟩=some (I st):=H4.out.row.2 4;have q5:(w5).cell? ⟨w.heap.size,5,none⟩=some (.slice (some ⟨b,off,none⟩) nt cc):=H4.out.row.2 5;have q6:(w5).cell? ⟨w.heap.size,6,none⟩=some (I ho):=H4.out.row.2 6;have q7:(w5).cell? ⟨w.heap.size,7,none⟩=some (.slice D ny dd):=H4.out.row.2 7;have z0:(w5).cell? ⟨b,off+k*2,none⟩=some (I x.at_):=((H4.out.low AL.out hlo).cell (p:=⟨b,off+k*2,none⟩) nO).trans (Ed.out 0 _ rfl);have z1:(w5).cell? ⟨b,off+k*2+1,none⟩=some (I x.off):=((H4.out.low AL.out hlo).cell (p:=⟨b,off+k*2+1,none⟩) nO).trans (Ed.out 1 _ rfl);go_wp2_with fail;refine (dR lo _ _ 2 _ _ x.off _ H4.out.len (by have h:=H4.out.len;have g:=FM.out k;(try simp only [aZ,aC] at h);omega) (by omega) hfx.2 (Nat.le_trans hlo H4.out.keep.size) H4.out.own).mono ?_;rintro e w6 ⟨A6,n6,c6,l1,rfl,o1,k1⟩;have H5:=ae (H4.out.next o1 l1 k1);clear l1 o1 k1;go_wp2_with fail;go_roundw
   case rel=>exact ⟨k+1,n6,c6,A6,by omega,rfl,by go_num,by show CB _ _ _ _ (_++(tr.take (k+1)).flatMap UG) _ _ _ _;rw [qM _ _ _ _ HX.out,←List.append_assoc];simpa [UG,List.append_assoc] using H5.out⟩
   case measure=>simp [intOf];omega
  ·have hk2:k=nt:=by omega
   subst hk2;clear hlt;go_wp2_with fail;refine (dR lo _ _ 8 _ _ ho _ HB3.out.len (by have h:=HB3.out.len;have g:=FM.out k;(try simp only [aZ,aC] at h);omega) (by omega) x4 (Nat.le_trans hlo HB3.out.keep.size) HB3.out.own).mono ?_;rintro e w5 ⟨A5,n5,c5,l1,rfl,o1,k1⟩;have H5:=ae (HB3.out.next o1 l1 k1);clear l1 o1 k1;clear q0 q1 q2 q3 q4 q5 q6 q7;have q0:(w5).cell? ⟨w.heap.size,0,none⟩=some (I ep):=H5.out.row.2 0;have q1:(w5).cell? ⟨w.heap.size,1,none⟩=some (.slice A nm a):=H5.out.row.2 1;have q2:(w5).cell? ⟨w.heap.size,2,none⟩=some (I lp):=H5.out.row.2 2;have q3:(w5).cell? ⟨w.heap.size,3,none⟩=some (.slice R nr r):=H5.out.row.2 3;have q4:(w5).cell? ⟨w.heap.size,4,none⟩=some (I st):=H5.out.row.2 4;have q5:(w5).cell? ⟨w.heap.size,5,none⟩=some (.slice C k cc):=H5.out.row.2 5;have q6:(w5).cell? ⟨w.heap.size,6,none⟩=some (I ho):=H5.out.row.2 6;have q7:(w5).cell? ⟨w.heap.size,7,none⟩=some (.slice D ny dd):=H5.out.row.2 7;go_wp2_with fail;refine (dR lo _ _ 1 _ _ ny _ H5.out.len (by have h:=H5.out.len;have g:=FM.out k;(try simp only [aZ,aC] at h);omega) (by omega) ⟨by omega,by omega⟩ (Nat.le_trans hlo H5.out.keep.size) H5.out.own).mono ?_;rintro e w6 ⟨A6,n6,c6,l1,rfl,o1,k1⟩;have H6:=ae (H5.out.next o1 l1 k1);clear l1 o1 k1;clear q0 q1 q2 q3 q4 q5 q6 q7;have q0:(w6).cell? ⟨w.heap.size,0,none⟩=some (I ep):=H6.out.row.2 0;have q1:(w6).cell? ⟨w.heap.size,1,none⟩=some (.slice A nm a):=H6.out.row.2 1;have q2:(w6).cell? ⟨w.heap.size,2,none⟩=some (I lp):=H6.out.row.2 2;have q3:(w6).cell? ⟨w.heap.size,3,none⟩=some (.slice R nr r):=H6.out.row.2 3;have q4:(w6).cell? ⟨w.heap.size,4,none⟩=some (I st):=H6.out.row.2 4;have q5:(w6).cell? ⟨w.heap.size,5,none⟩=some (.slice C k cc):=H6.out.row.2 5;have q6:(w6).cell? ⟨w.heap.size,6,none⟩=some (I ho):=H6.out.row.2 6;have q7:(w6).cell? ⟨w.heap.size,7,none⟩=some (.slice D ny dd):=H6.out.row.2 7;go_wp2_with fail
   go_loopw [0,6] (fun b i wr=>GZ lo (.slice A0 n c0) w #[I ep, .slice A nm a,I lp, .slice R nr r,I st, .slice C k cc,I ho, .slice D ny dd] (fun j=>(bs++cb++le st 2++le k 2++(tr.take k).flatMap UG)++le ho 8++le ny 1++(yr.take j).flatMap WX) ny b i wr) (fun _ i _=>ny - (intOf i).toNat)
   case atStart=>exact ⟨0,n6,c6,A6,Nat.zero_le _,rfl,by go_num,by simpa using H6.out⟩
   case round=>
    obtain ⟨j,n7,c7,A7,hj,rfl,rfl,hb7⟩:=hrel;have qy:=ae hb7;clear hb7 q0 q1 q2 q3 q4 q5 q6 q7;have q0:(wr).cell? ⟨w.heap.size,0,none⟩=some (I ep):=qy.out.row.2 0;have q1:(wr).cell? ⟨w.heap.size,1,none⟩=some (.slice A nm a):=qy.out.row.2 1;have q2:(wr).cell? ⟨w.heap.size,2,none⟩=some (I lp):=qy.out.row.2 2;have q3:(wr).cell? ⟨w.heap.size,3,none⟩=some (.slice R nr r):=qy.out.row.2 3;have q4:(wr).cell? ⟨w.heap.size,4,none⟩=some (I st):=qy.out.row.2 4;have q5:(wr).cell? ⟨w.heap.size,5,none⟩=some (.slice C k cc):=qy.out.row.2 5;have q6:(wr).cell? ⟨w.heap.size,6,none⟩=some (I ho):=qy.out.row.2 6;have q7:(wr).cell? ⟨w.heap.size,7,none⟩=some (.slice D ny dd):=qy.out.row.2 7;by_cases hlt:(j:Int)<(ny:Int)
    ·obtain ⟨b,off,rfl,nO,hcl⟩:=QN.out.there (by rw [dN (s:=5) Yr.cells yr (fun _ _=>rfl),XF.out];omega);have hx:yr[j]? =some (yr[j]'(by rw [XF.out];omega)):=dw _;obtain ⟨x,hxx⟩:∃x,yr[j]'(by rw [XF.out];omega)=x:=⟨_,rfl⟩;rw [hxx] at hx;have Ed:Hid (∀i u,x.cells[i]? =some u→w.cell? ⟨b,off+j*5+i,none⟩=some u):=ae (fun i u hu=>by rw [Nat.add_assoc];exact hcl _ _ (by rw [flat_get (s:=5) Yr.cells yr (fun _ _=>rfl) j i x hx (by have:=(gu.1 hu).1;simpa [Yr.cells] using this)];exact hu));have HX:=ae hx;have hfx:=jB.out x (fZ hx);clear hcl hx hxx;have z0:(wr).cell? ⟨b,off+j*5,none⟩=some (I x.month):=((qy.out.low AL.out hlo).cell (p:=⟨b,off+j*5,none⟩) nO).trans (Ed.out 0 _ rfl);have z1:(wr).cell? ⟨b,off+j*5+1,none⟩=some (I x.cZ):=((qy.out.low AL.out hlo).cell (p:=⟨b,off+j*5+1,none⟩) nO).trans (Ed.out 1 _ rfl);have z2:(wr).cell? ⟨b,off+j*5+2,none⟩=some (I x.df):=((qy.out.low AL.out hlo).cell (p:=⟨b,off+j*5+2,none⟩) nO).trans (Ed.out 2 _ rfl);have z3:(wr).cell? ⟨b,off+j*5+3,none⟩=some (I x.minute):=((qy.out.low AL.out hlo).cell (p:=⟨b,off+j*5+3,none⟩) nO).trans (Ed.out 3 _ rfl);have z4:(wr).cell? ⟨b,off+j*5+4,none⟩=some (I x.off):=((qy.out.low AL.out hlo).cell (p:=⟨b,off+j*5+4,none⟩) nO).trans (Ed.out 4 _ rfl);go_wp2_with fail;obtain ⟨W0,hW0⟩:∃W0,W0=wr.alloc (.cells #[I x.month,I x.cZ,I x.df,I x.minute,I x.off] 129):=⟨_,rfl⟩;have hbw:Below wr.heap.size wr W0:=by rw [hW0];exact ag wr _
     have H8:=ae (qy.out.grow hbw);have F8:Hid (UO wr.heap.size #[I x.month,I x.cZ,I x.df,I x.minute,I x.off] (.slice A7 n7 c7) W0):=ae ⟨by rw [hW0];exact Row.new wr _ _,qy.out.qU _ (Nat.le_refl _)⟩;rw [←hW0];refine (dR lo _ _ 1 _ _ x.month _ H8.out.len (by have h:=H8.out.len;have g:=FM.out k;have g2:=FR.out j;(try simp only [aZ,aC] at h);omega) (by omega) hfx.month (Nat.le_trans hlo H8.out.keep.size) H8.out.own).mono ?_;rintro e w9 ⟨A9,n9,c9,l1,rfl,o1,k1⟩;have H9:=ae (H8.out.next o1 l1 k1);have F9:=ae (F8.out.next k1);clear l1 o1 k1;have y0:(w9).cell? ⟨wr.heap.size,0,none⟩=some (I x.month):=F9.out.1.2 0;have y1:(w9).cell? ⟨wr.heap.size,1,none⟩=some (I x.cZ):=F9.out.1.2 1;have y2:(w9).cell? ⟨wr.heap.size,2,none⟩=some (I x.df):=F9.out.1.2 2;have y3:(w9).cell? ⟨wr.heap.size,3,none⟩=some (I x.minute):=F9.out.1.2 3;have y4:(w9).cell? ⟨wr.heap.size,4,none⟩=some (I x.off):=F9.out.1.2 4;go_wp2_with fail;refine (dR lo _ _ 1 _ _ x.cZ _ H9.out.len (by have h:=H9.out.len;have g:=FM.out k;have g2:=FR.out j;(try simp only [aZ,aC] at h);omega) (by omega) hfx.cZ (Nat.le_trans hlo H9.out.keep.size) H9.out.own).mono ?_;rintro e w10 ⟨A10,n10,c10,l1,rfl,o1,k1⟩;have Yf:=ae (H9.out.next o1 l1 k1);have F10:=ae (F9.out.next k1);clear l1 o1 k1;clear y0 y1 y2 y3 y4;have y0:(w10).cell? ⟨wr.heap.size,0,none⟩=some (I x.month):=F10.out.1.2 0;have y1:(w10).cell? ⟨wr.heap.size,1,none⟩=some (I x.cZ):=F10.out.1.2 1;have y2:(w10).cell? ⟨wr.heap.size,2,none⟩=some (I x.df):=F10.out.1.2 2;have y3:(w10).cell? ⟨wr.heap.size,3,none⟩=some (I x.minute):=F10.out.1.2 3;have y4:(w10).cell? ⟨wr.heap.size,4,none⟩=some (I x.off):=F10.out.1.2 4;go_wp2_with fail;refine (dR lo _ _ 1 _ _ x.df _ Yf.out.len (by have h:=Yf.out.len;have g:=FM.out k;have g2:=FR.out j;(try simp only [aZ,aC] at h);omega) (by omega) hfx.df (Nat.le_trans hlo Yf.out.keep.size) Yf.out.own).mono ?_;rintro e UJ ⟨A11,n11,c11,l1,rfl,o1,k1⟩;have H11:=ae (Yf.out.next o1 l1 k1);have F11:=ae (F10.out.next k1);clear l1 o1 k1;clear y0 y1 y2 y3 y4;have y0:(UJ).cell? ⟨wr.heap.size,0,none⟩=some (I x.month):=F11.out.1.2 0;have y1:(UJ).cell? ⟨wr.heap.size,1,none⟩=some (I x.cZ):=F11.out.1.2 1;have y2:(UJ).cell? ⟨wr.heap.size,2,none⟩=some (I x.df):=F11.out.1.2 2;have y3:(UJ).cell? ⟨wr.heap.size,3,none⟩=some (I x.minute):=F11.out.1.2 3;have y4:(UJ).cell? ⟨wr.heap.size,4,none⟩=some (I x.off):=F11.out.1.2 4;go_wp2_with fail;refine (dR lo _ _ 2 _ _ x.minute _ H11.out.len (by have h:=H11.out.len;have g:=FM.out k;have g2:=FR.out j;(try simp only [aZ,aC] at h);omega) (by omega) hfx.minute (Nat.le_trans hlo H11.out.keep.size) H11.out.own).mono ?_;rintro e w12 ⟨A12,n12,c12,l1,rfl,o1,k1⟩;have H12:=ae (H11.out.next o1 l1 k1);have F12:=ae (F11.out.next k1);clear l1 o1 k1;clear y0 y1 y2 y3 y4;have y0:(w12).cell? ⟨wr.heap.size,0,none⟩=some (I x.month):=F12.out.1.2 0;have y1:(w12).cell? ⟨wr.heap.size,1,none⟩=some (I x.cZ):=F12.out.1.2 1;have y2:(w12).cell? ⟨wr.heap.size,2,none⟩=some (I x.df):=F12.out.1.2 2;have y3:(w12).cell? ⟨wr.heap.size,3,none⟩=some (I x.minute):=F12.out.1.2 3;have y4:(w12).cell? ⟨wr.heap.size,4,none⟩=some (I x.off):=F12.out.1.2 4;go_wp2_with fail;refine (dR lo _ _ 2 _ _ x.off _ H12.out.len (by have h:=H12.out.len;have g:=FM.out k;have g2:=FR.out j;(try simp only [aZ,aC] at h);omega) (by omega) hfx.off (Nat.le_trans hlo H12.out.keep.size) H12.out.own).mono ?_;rintro e w13 ⟨A13,n13,c13,l1,rfl,o1,k1⟩;have H13:=ae (H12.out.next o1 l1 k1);have F13:=ae (F12.out.next k1);clear l1 o1 k1;go_wp2_with fail;go_roundw
     case rel=>exact ⟨j+1,n13,c13,A13,by omega,rfl,by go_num,by show CB _ _ _ _ (_++(yr.take (j+1)).flatMap WX) _ _ _ _;rw [qM _ _ _ _ HX.out,←List.append_assoc];simpa [WX,List.append_assoc] using H13.out⟩
     case measure=>simp [intOf];omega
    ·have hj2:j=ny:=by omega
     have HJ:=ae hj2;clear hj2;go_wp2_with fail;go_ret;have hb:=qy.out;rw [HJ.out,List.take_of_length_le (Nat.le_of_eq XF.out),List.take_of_length_le (Nat.le_of_eq HNT.out)] at hb;refine ⟨A7,n7,c7,?_,rfl,?_,hb.keep⟩
     ·rw [←hb.len];simp [List.append_assoc]
     ·have:=hb.own;simpa [HNT.out,XF.out,List.append_assoc] using this
end Go.Proofs.YtdibbemgpikgjaaGreatDoor
