/- The texts Kf3, Kh, Kw, Kx, Ky, Kz, Qk, in this order. -/
import Derived.Test.YtdibbemgpikgjaaGreatW00
import Derived.Test.YtdibbemgpikgjaaGreatW09
import Derived.Test.YtdibbemgpikgjaaGreatW13
import Derived.Test.YtdibbemgpikgjaaGreatW14
import Derived.Test.YtdibbemgpikgjaaGreatW16
import Derived.Test.YtdibbemgpikgjaaGreatW17
import Derived.Test.YtdibbemgpikgjaaGreatW18
set_option maxRecDepth 10000
set_option maxHeartbeats 8000000
namespace Go.Proofs.YtdibbemgpikgjaaGreat
open Go Go.RowKit
theorem Du (z:Zn) (s:Zs) (w:World) (hm:tZ z) (h:jR w w.heap.size s z):Calls Tryz.prog 73 #[.agg (ax z s)] w (Gives (.int .i64 (yV z)) w):=by
 rcases hm.yr with hy|hy
 ·exact UM z s w hm h hy
 ·exact UN z s w hm h hy
section
variable {P:Program} {ops:Array Oper} {Q:Exit→Act→World→Prop} {a:Act} {w:World} {rest:List Oper} {d:Option Tmp} {t:TypeId} {pos:String} {af:Array Edge} {g:Option (Nat×Bool)}
theorem eQ (ty:TypeId) {x y:Operand} (h:wpList P ops Q (⟨d, .store ty x y,t,pos,af,g⟩::rest) a w):wpList P ops Q (⟨d, .store ty x y,t,pos,af,g⟩::rest) a w:=h
theorem jy (ty:TypeId) {x:Operand} (h:wpList P ops Q (⟨d, .load ty x,t,pos,af,g⟩::rest) a w):wpList P ops Q (⟨d, .load ty x,t,pos,af,g⟩::rest) a w:=h
end
theorem P5 {B g:Nat} {w W:World} {cs:Array Value} (h:Below B w W) (hg:B≤g):Below B w (W.setRow g cs):=below_setRow h hg _
structure M0 (w:World) (xs:Array Value) (W:World):Prop where
 x:Row W w.heap.size xs
 res:W.heap[w.heap.size+1]? =some (.cells jM 51 (0,0))
 up:Below w.heap.size w W
theorem M0.start (w:World) (xs:Array Value) (t:TypeId):M0 w xs ((w.alloc (.cells xs t)).alloc (.cells jM 51)):=
 ⟨(Row.new w xs t).keep (ag _ _),heap_alloc2_new w _ _,ah (ag w _) (ag _ _)⟩
theorem M0.grow {w W W':World} {xs:Array Value} (h:M0 w xs W) (hb:Below W.heap.size W W'):M0 w xs W':=
 ⟨h.x.keep hb,(hb.block _ (iU h.res)).trans h.res,ah h.up hb⟩
theorem M0.zone {w W:World} {xs cs zs:Array Value} (h:M0 w xs W) (t:TypeId) (mo:List Value) (hmo:cs.toList=mo):
  MZ w xs (W.heap.size+1) (W.heap.size+2) zs (some ⟨W.heap.size,0,none⟩) none none mo [] [] (((W.alloc (.cells cs t)).alloc (.cells jM 51)).setRow (W.heap.size+1) zs):=by
 have hlt:=iU h.res;have hh:((W.alloc (.cells cs t)).alloc (.cells jM 51)).heap[W.heap.size+1]? =some (.cells jM 51 (0,0)):=heap_alloc2_new W _ _;have hb:Below W.heap.size W (((W.alloc (.cells cs t)).alloc (.cells jM 51)).setRow (W.heap.size+1) zs):=P5 (ah (ag W _) (ag _ _)) (by omega);refine ⟨h.x.keep hb,(hb.block _ hlt).trans h.res,setRow_heap _ _ _ _ _ _ hh,by omega,by omega,by simp [World.setRow],ah h.up hb,?_, .nil, .nil⟩;refine .inr ⟨W.heap.size,0,rfl,by omega,by omega,by omega,fun j u hu=>?_⟩;rw [Nat.zero_add];have h1:(((W.alloc (.cells cs t)).alloc (.cells jM 51)).setRow (W.heap.size+1) zs).heap[W.heap.size]? =some (.cells cs t (0,0)):=(setRow_other _ _ _ _ (by omega)).trans (heap_alloc2_old W _ _);rw [cell_of_row _ _ j _ _ _ h1,←Array.getElem?_toList,hmo];exact hu
theorem MZ.relay {w W:World} {xs zs:Array Value} {zb B:Nat} {A R C:Option Addr} {mo ru:List Value} (h:MZ w xs zb B zs A R C mo ru [] W) (cs1 cs2:Array Value) (t1 t2:TypeId) (l1 l2:List Value) (e1:cs1.toList=l1) (e2:cs2.toList=l2):
  MZ w xs zb (W.heap.size+2) zs (some ⟨W.heap.size,0,none⟩) (some ⟨W.heap.size+1,0,none⟩) none l1 l2 [] ((W.alloc (.cells cs1 t1)).alloc (.cells cs2 t2)):=by
 have hb:Below W.heap.size W ((W.alloc (.cells cs1 t1)).alloc (.cells cs2 t2)):=ah (ag W _) (ag _ _);have hg:=h.grow hb;have hz:=h.Zz;have hlo:=h.lo;refine ⟨hg.x,hg.res,hg.z,hg.lo,by omega,by simp,hg.up, .inr ⟨W.heap.size,0,rfl,by omega,by omega,by omega,fun j u hu=>?_⟩, .inr ⟨W.heap.size+1,0,rfl,by omega,by omega,by omega,fun j u hu=>?_⟩, .nil⟩
 ·rw [Nat.zero_add,cell_of_row _ _ j _ _ _ (heap_alloc2_old W _ _),←Array.getElem?_toList,e1];exact hu
 ·rw [Nat.zero_add,cell_of_row _ _ j _ _ _ (heap_alloc2_new W _ _),←Array.getElem?_toList,e2];exact hu
theorem Xx (x:EY):mM x=x.dW.length∨mM x=x.iK.length∨mM x=3:=by
 have e:mM x=min (min x.dW.length x.iK.length) 3:=rfl;omega
def TlRel (w:World) (x:EY) (xs:Array Value) (zb B:Nat) (zs:Value→Array Value) (A R:Option Addr) (mo ru:List Value) (cnt:Nat) (a i:Value) (wr:World):Prop:=
 ∃(k cc:Nat) (C:Option Addr),k≤cnt∧a= .int .i64 (xh x.dW k)∧i= .int .i64 k∧iO B wr C k cc (mO x.dW x.iK k)∧MZ w xs zb B (zs (.slice C k cc)) A R none mo ru [] wr
theorem zB {w W:World} {A:Option Addr} {bs:List UInt8} (h:aB w w.heap.size A (bs.map Extern.Stop.cell)) (hb:Below w.heap.size w W) (h0:0<bs.length):∃b off,A=some ⟨b,off,none⟩∧b<w.heap.size∧∀k,k<bs.length→W.cell? ⟨b,off+k,none⟩=some (.int .u8 ((bs[k]?.getD 0).toNat:Int)):=by
 obtain ⟨b,off,e,hb1,hc⟩:=h.there (by rw [List.length_map];exact h0);refine ⟨b,off,e,hb1,fun k hk=>?_⟩;rw [hb.cell (p:=⟨b,off+k,none⟩) hb1];exact hc k _ (by rw [List.getElem?_map,dK hk];rfl)
theorem MQ (g o:List UInt8) (k:Nat):(mO g o (k+1)).flatMap Tr.cells=(mO g o k).flatMap Tr.cells++ [I (xh g (k+1)),I (nP (o[k]?.getD 0).toNat)]:=by
 simp [mO,Tr.cells]
theorem iO.Za {lo n c zb o:Nat} {w:World} {A:Option Addr} {ts:List Tr} (h:iO lo w A n c ts) (hz:zb<lo) (v:Value):iO lo (w.setCell ⟨zb,o,none⟩ v) A n c ts:=ownsRow_setCell_below (a:=⟨zb,o,none⟩) h hz v
theorem own_base {w:World} {base e size n:Nat} {v:Value} {xs:List Value} (h:w.ownsRow base e size v n xs):∀g,v.ownBlock=some g→base≤g:=fun g hg=>(World.ownsRow.lt h g hg).1
theorem uy {v:Value} {b:Nat} (h:∀g,v.ownBlock=some g→g<b):some b≠v.ownBlock:=fun e=>by have:=h b e.symm;omega
theorem Row.grown {w w':World} {b:Nat} {cs:Array Value} {row:Option Nat} (h:Row w b cs) (hg:w.grownBy w' row) (hn:some b≠row):Row w' b cs:=
 ⟨dS h.1 hg.size,fun i=>(World.cell?_of_block (a:=⟨b,i,none⟩) (hg.block b h.1 hn)).trans (h.2 i)⟩
def wY (yv:Nat) (a b c d:Value) (w:World):Prop:=w.cell? ⟨yv,0,none⟩=some a∧w.cell? ⟨yv,1,none⟩=some b∧w.cell? ⟨yv,2,none⟩=some c∧w.cell? ⟨yv,3,none⟩=some d
theorem wY.of {yv:Nat} {a b c d:Value} {w:World} (h:Row w yv #[a,b,c,d]):wY yv a b c d w:=⟨h.2 0,h.2 1,h.2 2,h.2 3⟩
theorem MZ.next {w W:World} {xs zs:Array Value} {zb B n c:Nat} {A R C:Option Addr} {mo ru:List Value} {ts:List Tr} (h:MZ w xs zb B zs A R none mo ru [] W) (ho:iO B W C n c ts) (hl:w.heap.size+2≤B):MZ w xs zb W.heap.size zs A R C mo ru (ts.flatMap Tr.cells) W:=
 ⟨h.x,h.res,h.z,h.lo,h.Zz,Nat.le_refl _,h.up,h.mon.more h.sz,h.rul.more h.sz,LZ.fA ho hl h.hi (Nat.le_refl _)⟩
def rk3:List Int:= [1116352408,1899447441,3049323471,3921009573,961987163,1508970993,2453635748,2870763221,3624381080,310598401,607225278,1426881987,1925078388,2162078206,2614888103,3248222580,3835390401,4022224774,264347078,604807628,770255983,1249150122,1555081692,1996064986,2554220882,2821834349,2952996808,3210313671,3336571891,3584528711,113926993,338241895,666307205,773529912,1294757372,1396182291,1695183700,1986661051,2177026350,2456956037,2730485921,2820302411,3259730800,3345764771,3516065817,3600352804,4094571909,275423344,430227734,506948616,659060556,883997877,958139571,1322822218,1537002063,1747873779,1955562222,2024104815,2227730452,2361852424,2428436474,2756734187,3204031479,3329325298]
def Kt (l:List Int):Array Value:=(l.map (Value.int .u32)).toArray
theorem U8 (l:List Int):(Kt l).all (·.oneCell')=true:=by
 unfold Kt;rw [Array.all_eq_true'];intro u hu;simp only [List.mem_toArray,List.mem_map] at hu;obtain ⟨x,_,rfl⟩:=hu;rfl
theorem UL (w:World):Calls Tryz.prog 108 #[] w (Gives (.agg (Kt rk3)) w):=by
 go_enter Tryz.func108,Tryz.ntmps108;go_wp2_with ((with_reducible refine eQ 209 ?_);go_must (refine wpList_store_row rfl _ _ _ rfl w.heap.size (Kt rk3) rfl rfl 209 (Kt (List.replicate 64 0)) (heap_alloc_last w _) (by kernel_rfl) rfl (U8 _) ?_));refine bodyPost_ret (v:= .agg (Kt rk3)) (results_cell_row rfl _ _ w.heap.size _ (Kt rk3) (0,0) _ rfl (setRow_heap _ _ _ _ _ _ (heap_alloc_last w _)) Tryz.underlying209 rfl (by kernel_rfl)) rfl ?_;exact ⟨rfl,below_setRow (ag w _) (Nat.le_refl _) _⟩
theorem Ye (l:List Int):Kt l=aF l:=rfl
theorem DJ (x n:Int) (w:World) (k:Nat) (h0:0<n) (h1:n<32):Calls Tryz.prog 109 #[.int .u32 x,I n] (w.drewN k) fun e w''=>e= .returned (.int .u32 (uF x n))∧∃m,w''=w.drewN m:=
 Calls.quiet_of (U6 x n _ h0 h1)
structure PX (w:World) (zs:List Int) (wr:World):Prop where
 var:AV (w.heap.size+1) 209 (aF zs) wr
 res:AV w.heap.size 209 (aF (List.replicate 64 0)) wr
 lo:Below w.heap.size w wr
theorem PX.drew {w wr:World} {zs:List Int} (h:PX w zs wr):PX w zs wr.drew:=⟨h.var.drew,h.res.drew,h.lo.drew⟩
theorem PX.put {w wr:World} {zs:List Int} (h:PX w zs wr) (i:Nat) (z:Int):PX w (zs.set i z) (wr.setCell ⟨w.heap.size+1,i,none⟩ (.int .u32 z)):=
 ⟨by rw [←Cf];exact h.var.put i _,h.res.far (by omega) _ _,h.lo.setCell (p:=⟨w.heap.size+1,i,none⟩) (Nat.le_succ _) _⟩
theorem PX.drewN {w wr:World} {zs:List Int} (h:PX w zs wr) (n:Nat):PX w zs (wr.drewN n):=⟨⟨h.var.var⟩,⟨h.res.var⟩,⟨h.lo.os,h.lo.tape,h.lo.output,h.lo.size,h.lo.block⟩⟩
theorem TE (w:World) (bb off c:Nat) (xs:List UInt8) (hx:xs.length=64) (hb:bb<w.heap.size) (hA:∀j,j<64→w.cell? ⟨bb,off+j,none⟩=some (Extern.Stop.cell (xs[j]?.getD 0))):
  Calls Tryz.prog 107 #[.slice (some ⟨bb,off,none⟩) 64 c] w fun e w'=>∃zs:List Int,zs.length=64∧e= .returned (.agg (aF zs))∧Below w.heap.size w w':=by
 have HX:=ae hx;have HA:=ae hA;clear hx hA;have hi0:=zX;obtain ⟨z64,wF⟩:∃l:List Int,List.replicate 64 0=l:=⟨_,rfl⟩;rw [wF] at hi0;have HI0:=ae hi0;have HZ:=ae wF;have IA:Hid (z64.length=64):=ae (by rw [←wF];rfl);have dR:Hid ((Tryz.prog.info? 209).map (·.size)=some (aF z64).size):=ae (by rw [dh,IA.out];kernel_rfl);have HLIT:Hid (Value.agg (aF z64)= .agg #[.int .u32 0, .int .u32 0, .int .u32 0, .int .u32 0, .int .u32 0, .int .u32 0, .int .u32 0, .int .u32 0, .int .u32 0, .int .u32 0, .int .u32 0, .int .u32 0, .int .u32 0, .int .u32 0, .int .u32 0, .int .u32 0, .int .u32 0, .int .u32 0, .int .u32 0, .int .u32 0, .int .u32 0, .int .u32 0, .int .u32 0, .int .u32 0, .int .u32 0, .int .u32 0, .int .u32 0, .int .u32 0, .int .u32 0, .int .u32 0, .int .u32 0, .int .u32 0, .int .u32 0, .int .u32 0, .int .u32 0, .int .u32 0, .int .u32 0, .int .u32 0, .int .u32 0, .int .u32 0, .int .u32 0, .int .u32 0, .int .u32 0, .int .u32 0, .int .u32 0, .int .u32 0, .int .u32 0, .int .u32 0, .int .u32 0, .int .u32 0, .int .u32 0, .int .u32 0, .int .u32 0, .int .u32 0, .int .u32 0, .int .u32 0, .int .u32 0, .int .u32 0, .int .u32 0, .int .u32 0, .int .u32 0, .int .u32 0, .int .u32 0, .int .u32 0]):=ae (by rw [←wF];rfl);clear hi0 wF;go_enter Tryz.func107,Tryz.ntmps107;go_wp2_with (first
  |(refine aN rfl _ rfl (aF z64) HI0.out ?_)
  |((with_reducible refine eQ 209 ?_);go_must (refine wpList_store_row rfl _ _ _ rfl (w.alloc (.cells (aF z64) 209)).heap.size (aF z64) rfl HLIT.out.symm 209 (aF z64) (heap_alloc_last _ _) dR.out rfl (jg _) ?_)))
 have H0:Hid (PX w z64 (((w.alloc (.cells (aF z64) 209)).alloc (.cells (aF z64) 209)).setRow (w.heap.size+1) (aF z64))):=ae ⟨⟨setRow_heap _ _ _ _ _ _ (heap_alloc2_new w _ _)⟩,⟨by rw [HZ.out];exact (setRow_other _ _ _ _ (by omega)).trans (heap_alloc2_old w _ _)⟩,below_setRow (ah (ag w _) (ag _ _)) (by omega) _⟩
 go_loopw [4] (fun i wr=>∃(k:Nat) (zs:List Int),k≤16∧i=I k∧zs.length=64∧PX w zs wr) (fun i _=>16 - (intOf i).toNat)
 case atStart=>exact ⟨0,z64,Nat.zero_le _,rfl,IA.out,H0.out⟩
 case round=>
  obtain ⟨k,zs,hk,rfl,hzl,hs⟩:=hrel;have HS:=ae hs;have HL:=ae hzl;clear H0 hs hzl;by_cases hlt:(k:Int)<16
  ·obtain ⟨p,hp⟩:∃p:Nat,4*k=p:=⟨_,rfl⟩;obtain ⟨p1,hp1⟩:∃q:Nat,p+1=q:=⟨_,rfl⟩;obtain ⟨p2,hp2⟩:∃q:Nat,p+2=q:=⟨_,rfl⟩;obtain ⟨p3,hp3⟩:∃q:Nat,p+3=q:=⟨_,rfl⟩;have c0:wr.cell? ⟨bb,off+p,none⟩=some (Extern.Stop.cell (xs[p]?.getD 0)):=(HS.out.lo.cell (p:=⟨bb,off+p,none⟩) hb).trans (HA.out p (by omega));have c1:wr.cell? ⟨bb,off+p1,none⟩=some (Extern.Stop.cell (xs[p1]?.getD 0)):=(HS.out.lo.cell (p:=⟨bb,off+p1,none⟩) hb).trans (HA.out p1 (by omega));have c2:wr.cell? ⟨bb,off+p2,none⟩=some (Extern.Stop.cell (xs[p2]?.getD 0)):=(HS.out.lo.cell (p:=⟨bb,off+p2,none⟩) hb).trans (HA.out p2 (by omega));have c3:wr.cell? ⟨bb,off+p3,none⟩=some (Extern.Stop.cell (xs[p3]?.getD 0)):=(HS.out.lo.cell (p:=⟨bb,off+p3,none⟩) hb).trans (HA.out p3 (by omega));obtain ⟨x0,e0⟩:∃x:Int,((xs[p]?.getD 0).toNat:Int)=x:=⟨_,rfl⟩;obtain ⟨x1,e1⟩:∃x:Int,((xs[p1]?.getD 0).toNat:Int)=x:=⟨_,rfl⟩;obtain ⟨x2,e2⟩:∃x:Int,((xs[p2]?.getD 0).toNat:Int)=x:=⟨_,rfl⟩;obtain ⟨x3,e3⟩:∃x:Int,((xs[p3]?.getD 0).toNat:Int)=x:=⟨_,rfl⟩;replace c0:wr.cell? ⟨bb,off+p,none⟩=some (.int .u8 x0):=c0.trans (by rw [←e0];rfl);replace c1:wr.cell? ⟨bb,off+p1,none⟩=some (.int .u8 x1):=c1.trans (by rw [←e1];rfl);replace c2:wr.cell? ⟨bb,off+p2,none⟩=some (.int .u8 x2):=c2.trans (by rw [←e2];rfl);replace c3:wr.cell? ⟨bb,off+p3,none⟩=some (.int .u8 x3):=c3.trans (by rw [←e3];rfl);have g0:4*(k:Int)=(p:Int):=by omega
   have g1:(p:Int)+1=(p1:Int):=by omega
   have g2:(p:Int)+2=(p2:Int):=by omega
   have g3:(p:Int)+3=(p3:Int):=by omega
   have w0:IntKind.i64.wrap (p:Int)=(p:Int):=by rw [IntKind.wrap_i64];omega
   have w1:IntKind.i64.wrap (p1:Int)=(p1:Int):=by rw [IntKind.wrap_i64];omega
   have w2:IntKind.i64.wrap (p2:Int)=(p2:Int):=by rw [IntKind.wrap_i64];omega
   have w3:IntKind.i64.wrap (p3:Int)=(p3:Int):=by rw [IntKind.wrap_i64];omega
   have b0:(p:Int)<64:=by omega
   have b1:(p1:Int)<64:=by omega
   have b2:(p2:Int)<64:=by omega
   have b3:(p3:Int)<64:=by omega
   have HE:=ae (And.intro (And.intro e0 e1) (And.intro e2 e3));have HP:=ae (And.intro hp (And.intro hp1 (And.intro hp2 hp3)));clear e0 e1 e2 e3 hp hp1 hp2 hp3;obtain ⟨z0,hz0⟩:∃z,zs[k]?.getD 0=z:=⟨_,rfl⟩;have hv:wr.cell? ⟨w.heap.size+1,k,none⟩=some (.int .u32 z0):=(HS.out.var.cell k).trans (by rw [gU _ _ (by rw [HL.out];omega),hz0]);have hf:=HS.out.var.gG k;have hk64:(k:Int)<64:=by omega
   go_wp2_with fail;go_still_tail 35,(by kernel_rfl);change wpList _ _ _ _ _ wr.drew;go_wp2_with fail;go_roundw
   case rel=>exact ⟨k+1,zs.set k _,by omega,by go_num,by rw [List.length_set,HL.out],HS.out.drew.put k _⟩
   case measure=>simp [intOf];omega
  ·have H1:Hid (∃zs:List Int,zs.length=64∧PX w zs wr):=ae ⟨zs,HL.out,HS.out⟩;go_wp2_with fail
   go_loopw [5] (fun i wr=>∃(k:Nat) (zs:List Int),16≤k∧k≤64∧i=I k∧zs.length=64∧PX w zs wr) (fun i _=>64 - (intOf i).toNat)
   case atStart=>exact H1.out.elim fun zs h=>⟨16,zs,by omega,by omega,rfl,h.1,h.2⟩
   case round=>
    clear hlt HS HL;obtain ⟨k,zs,hk0,hk,rfl,hzl,hs⟩:=hrel;have HS:=ae hs;have HL:=ae hzl;clear hs hzl;by_cases hlt:(k:Int)<64
    ·obtain ⟨q16,hq16⟩:∃q:Nat,k - 16=q:=⟨_,rfl⟩;obtain ⟨q15,hq15⟩:∃q:Nat,k - 15=q:=⟨_,rfl⟩;obtain ⟨q7,hq7⟩:∃q:Nat,k - 7=q:=⟨_,rfl⟩;obtain ⟨q2,hq2⟩:∃q:Nat,k - 2=q:=⟨_,rfl⟩;obtain ⟨za,hza⟩:∃z,zs[q16]?.getD 0=z:=⟨_,rfl⟩;obtain ⟨zx,hzx⟩:∃z,zs[q15]?.getD 0=z:=⟨_,rfl⟩;obtain ⟨zb,hzb⟩:∃z,zs[q7]?.getD 0=z:=⟨_,rfl⟩;obtain ⟨zy,hzy⟩:∃z,zs[q2]?.getD 0=z:=⟨_,rfl⟩;have va:∀n,(wr.drewN n).cell? ⟨w.heap.size+1,q16,none⟩=some (.int .u32 za):=fun n=>(HS.out.var.cell q16).trans (by rw [gU _ _ (by rw [HL.out];omega),hza]);have vx:wr.cell? ⟨w.heap.size+1,q15,none⟩=some (.int .u32 zx):=(HS.out.var.cell q15).trans (by rw [gU _ _ (by rw [HL.out];omega),hzx]);have vb:∀n,(wr.drewN n).cell? ⟨w.heap.size+1,q7,none⟩=some (.int .u32 zb):=fun n=>(HS.out.var.cell q7).trans (by rw [gU _ _ (by rw [HL.out];omega),hzb]);have vy:wr.cell? ⟨w.heap.size+1,q2,none⟩=some (.int .u32 zy):=(HS.out.var.cell q2).trans (by rw [gU _ _ (by rw [HL.out];omega),hzy]);have g16:(k:Int) - 16=(q16:Int):=by omega
     have g15:(k:Int) - 15=(q15:Int):=by omega
     have g7:(k:Int) - 7=(q7:Int):=by omega
     have g2:(k:Int) - 2=(q2:Int):=by omega
     obtain ⟨z0,hz0⟩:∃z,zs[k]?.getD 0=z:=⟨_,rfl⟩;have v0:∀n,(wr.drewN n).cell? ⟨w.heap.size+1,k,none⟩=some (.int .u32 z0):=fun n=>(HS.out.var.cell k).trans (by rw [gU _ _ (by rw [HL.out];omega),hz0]);have hf:∀n,(wr.drewN n).frozen? ⟨w.heap.size+1,k,none⟩=false:=fun n=>HS.out.var.gG k;clear hza hzx hzb hzy hq16 hq15 hq7 hq2 hz0;have wq16:IntKind.i64.wrap (q16:Int)=(q16:Int):=by rw [IntKind.wrap_i64];omega
     have wq15:IntKind.i64.wrap (q15:Int)=(q15:Int):=by rw [IntKind.wrap_i64];omega
     have wq7:IntKind.i64.wrap (q7:Int)=(q7:Int):=by rw [IntKind.wrap_i64];omega
     have wq2:IntKind.i64.wrap (q2:Int)=(q2:Int):=by rw [IntKind.wrap_i64];omega
     have b16:(q16:Int)<64:=by omega
     have b15:(q15:Int)<64:=by omega
     have b7:(q7:Int)<64:=by omega
     have b2:(q2:Int)<64:=by omega
     go_wp2_with fail;go_quiet (fail);go_wp2_with fail;have n16:(⟨w.heap.size+1,k,none⟩:Addr)≠⟨w.heap.size+1,q16,none⟩:=fun e=>by have:=congrArg Addr.off e;simp at this;omega
     have n7:(⟨w.heap.size+1,k,none⟩:Addr)≠⟨w.heap.size+1,q7,none⟩:=fun e=>by have:=congrArg Addr.off e;simp at this;omega
     go_region_held3 (fun W=>W.cell? ⟨w.heap.size+1,q16,none⟩=some (.int .u32 za)∧W.cell? ⟨w.heap.size+1,q7,none⟩=some (.int .u32 zb))
      (first|exact ⟨va 0,vb 0⟩|exact ⟨(World.cell?_setCell_other _ _ _ _ n16).trans (va 0),(World.cell?_setCell_other _ _ _ _ n7).trans (vb 0)⟩)
      (first|(go_at_call 109;refine (U6 _ _ _ (by omega) (by omega)).mono ?_;rintro e wf ⟨rfl,m,rfl⟩))
     all_goals
      go_wp2_with fail;go_roundw
      case rel=>exact ⟨k+1,zs.set k _,by omega,by omega,by go_num,by rw [List.length_set,HL.out],(HS.out.drewN _).put k _⟩
      case measure=>simp [intOf];omega
    ·have hke:k=64:=by omega
     have nT:Hid ((Tryz.prog.info? 209).map (·.size)=some (aF zs).size):=ae (by rw [dh,HL.out];kernel_rfl);have HRW:Hid (pX wr (w.heap.size+1) (aF zs)):=ae ⟨HS.out.var.lt,HS.out.var.cell⟩;have kS:Hid ((aF (List.replicate 64 0)).size=(aF zs).size):=ae (by rw [dh,dh,HL.out];simp);go_wp2_with (first
      |((with_reducible refine jy 209 ?_);go_must (refine bG rfl _ _ rfl (w.heap.size+1) rfl (aF zs) HRW.out _ Tryz.underlying209 rfl nT.out ?_))
      |((with_reducible refine eQ 209 ?_);go_must (refine wpList_store_row rfl _ _ _ rfl w.heap.size (aF zs) rfl rfl 209 (aF (List.replicate 64 0)) HS.out.res.var nT.out kS.out (jg _) ?_)))
     refine bodyPost_ret (v:= .agg (aF zs)) (results_cell_row rfl _ _ w.heap.size _ (aF zs) (0,0) _ rfl (setRow_heap _ _ _ _ _ _ HS.out.res.var) Tryz.underlying209 rfl nT.out) rfl ?_;exact ⟨zs,HL.out,rfl,aC HS.out.lo (Nat.le_refl _) _⟩
theorem uJ:(Tryz.prog.info? 190).map (fun i=>(i.zero,i.size))=some (some (.agg (aF (List.replicate 8 0))),(aF (List.replicate 8 0)).size):=by kernel_rfl
theorem eight3 {t:List Int} (h:t.length=8):∃a b c d e f g i,t= [a,b,c,d,e,f,g,i]:=by
 match t,h with
 | [a,b,c,d,e,f,g,i],_=>exact ⟨a,b,c,d,e,f,g,i,rfl⟩
structure Wq (w:World) (cs:Array Value) (W:World):Prop where
 s:AV w.heap.size 190 cs W
 r:AV (w.heap.size+1) 190 (aF (List.replicate 8 0)) W
 lo:Below w.heap.size w W
theorem Wq.start (w:World) (cs:Array Value):Wq w cs ((w.alloc (.cells cs 190)).alloc (.cells (aF (List.replicate 8 0)) 190)):=
 ⟨⟨heap_alloc2_old w _ _⟩,⟨heap_alloc2_new w _ _⟩,ah (ag w _) (ag _ _)⟩
theorem Wq.grow {w W W':World} {cs:Array Value} (h:Wq w cs W) (hb:Below W.heap.size W W'):Wq w cs W':=
 ⟨h.s.below hb,h.r.below hb,ah h.lo hb⟩
structure EZ (w:World) (wb:Nat) (cs ts ws ks:Array Value) (W:World):Prop where
 b:Wq w cs W
 hw:w.heap.size+2≤wb
 w:AV wb 209 ws W
 k:AV (wb+1) 209 ks W
 t:AV (wb+2) 190 ts W
theorem EZ.drewN {w W:World} {wb:Nat} {cs ts ws ks:Array Value} (h:EZ w wb cs ts ws ks W) (n:Nat):EZ w wb cs ts ws ks (W.drewN n):=
 ⟨⟨⟨h.b.s.var⟩,⟨h.b.r.var⟩,⟨h.b.lo.os,h.b.lo.tape,h.b.lo.output,h.b.lo.size,h.b.lo.block⟩⟩,h.hw,⟨h.w.var⟩,⟨h.k.var⟩,⟨h.t.var⟩⟩
theorem EZ.drew {w W:World} {wb:Nat} {cs ts ws ks:Array Value} (h:EZ w wb cs ts ws ks W):EZ w wb cs ts ws ks W.drew:=
 ⟨⟨⟨h.b.s.var⟩,⟨h.b.r.var⟩,⟨h.b.lo.os,h.b.lo.tape,h.b.lo.output,h.b.lo.size,h.b.lo.block⟩⟩,h.hw,⟨h.w.var⟩,⟨h.k.var⟩,⟨h.t.var⟩⟩
theorem EZ.row {w W:World} {wb:Nat} {cs ts ws ks:Array Value} (h:EZ w wb cs ts ws ks W) (ds:Array Value):EZ w wb cs ds ws ks (W.setRow (wb+2) ds):=by
 have hw:=h.hw;exact ⟨⟨h.b.s.qW (by omega) _,h.b.r.qW (by omega) _,aC h.b.lo (by omega) _⟩,h.hw,h.w.qW (by omega) _,h.k.qW (by omega) _,h.t.oH _⟩
theorem EZ.put {w W:World} {wb:Nat} {cs ws ks:Array Value} {zs:List Int} (h:EZ w wb cs (aF zs) ws ks W) (i:Nat) (z:Int):EZ w wb cs (aF (zs.set i z)) ws ks (W.setCell ⟨wb+2,i,none⟩ (.int .u32 z)):=by
 have hw:=h.hw;exact ⟨⟨h.b.s.far (by omega) _ _,h.b.r.far (by omega) _ _,h.b.lo.setCell (p:=⟨wb+2,i,none⟩) (show w.heap.size≤wb+2 by omega) _⟩,h.hw,h.w.far (by omega) _ _,h.k.far (by omega) _ _,by rw [←Cf];exact h.t.put i _⟩
theorem EZ.start {w W:World} {cs:Array Value} (h:Wq w cs W) (ws ks zs:Array Value):EZ w W.heap.size cs cs ws ks ((((((W.alloc (.cells zs 209)).alloc (.cells zs 209)).setRow W.heap.size ws).setRow (W.heap.size+1) ks).alloc (.cells (aF (List.replicate 8 0)) 190)).setRow (W.heap.size+2) cs):=by
 obtain ⟨W1,hW1⟩:∃W1,W.alloc (.cells zs 209)=W1:=⟨_,rfl⟩;have s1:W1.heap.size=W.heap.size+1:=by rw [←hW1];simp
 have b1:Below W.heap.size W W1:=by rw [←hW1];exact ag W _
 have a1:AV W.heap.size 209 zs W1:=by rw [←hW1];exact AV.new W _ _
 rw [hW1];obtain ⟨W2,hW2⟩:∃W2,W1.alloc (.cells zs 209)=W2:=⟨_,rfl⟩;have b2:Below W1.heap.size W1 W2:=by rw [←hW2];exact ag W1 _
 have s2:W2.heap.size=W.heap.size+2:=by rw [←hW2];simp;omega
 have a2:AV (W.heap.size+1) 209 zs W2:=by rw [←hW2,←s1];exact AV.new W1 _ _
 rw [hW2];obtain ⟨W3,hW3⟩:∃W3,W2.setRow W.heap.size ws=W3:=⟨_,rfl⟩;have s3:W3.heap.size=W.heap.size+2:=by rw [←hW3,←s2];simp [World.setRow]
 have b3:Below W.heap.size W W3:=by rw [←hW3];exact aC (b1.trans (b2.mono (by omega))) (Nat.le_refl _) _
 have a3:AV W.heap.size 209 ws W3:=by rw [←hW3];exact (a1.below b2).oH _
 have a3':AV (W.heap.size+1) 209 zs W3:=by rw [←hW3];exact a2.qW (by omega) _
 rw [hW3];obtain ⟨W4,hW4⟩:∃W4,W3.setRow (W.heap.size+1) ks=W4:=⟨_,rfl⟩;have s4:W4.heap.size=W.heap.size+2:=by rw [←hW4,←s3];simp [World.setRow]
 have b4:Below W.heap.size W W4:=by rw [←hW4];exact aC b3 (by omega) _
 have a4:AV W.heap.size 209 ws W4:=by rw [←hW4];exact a3.qW (by omega) _
 have a4':AV (W.heap.size+1) 209 ks W4:=by rw [←hW4];exact a3'.oH _
 rw [hW4];have b5:=ag W4 (.cells (aF (List.replicate 8 0)) 190);have a5:=AV.new W4 (aF (List.replicate 8 0)) 190;rw [s4] at a5;have hl:=h.lo.size;have hr:=h.r.lt;exact ⟨⟨((h.s.below b4).below b5).qW (by have:=h.s.lt;omega) _,((h.r.below b4).below b5).qW (by omega) _,aC (ah h.lo (b4.trans (b5.mono (by omega)))) (by omega) _⟩,by omega,(a4.below b5).qW (by omega) _,(a4'.below b5).qW (by omega) _,a5.oH _⟩
theorem JW (W:World) (zs ws ks:Array Value):((((W.alloc (.cells zs 209)).alloc (.cells zs 209)).setRow W.heap.size ws).setRow (W.heap.size+1) ks).heap.size=W.heap.size+2:=by simp [World.setRow]
theorem Qy (W:World) (zs ws ks:Array Value):Below W.heap.size W ((((W.alloc (.cells zs 209)).alloc (.cells zs 209)).setRow W.heap.size ws).setRow (W.heap.size+1) ks):=
 aC (aC (ah (ag W _) (ag _ _)) (Nat.le_refl _) _) (Nat.le_succ _) _
theorem X3 {w W:World} {cs:Array Value} (h:Wq w cs W) (zs ws ks:Array Value):pX ((((W.alloc (.cells zs 209)).alloc (.cells zs 209)).setRow W.heap.size ws).setRow (W.heap.size+1) ks) w.heap.size cs:=(h.s.below (Qy W zs ws ks)).lu
theorem X4 (W:World) (zs ws ks cs:Array Value):(((((W.alloc (.cells zs 209)).alloc (.cells zs 209)).setRow W.heap.size ws).setRow (W.heap.size+1) ks).alloc (.cells cs 190)).heap[W.heap.size+2]? =some (.cells cs 190 (0,0)):=by
 rw [←JW W zs ws ks];exact heap_alloc_last _ _
theorem step_r (w:World) (bb off c:Nat) (ss:List Int) (hs:ss.length=8) (xs:List UInt8) (hx:xs.length=64) (hb:bb<w.heap.size) (hA:∀j,j<64→w.cell? ⟨bb,off+j,none⟩=some (Extern.Stop.cell (xs[j]?.getD 0))):
  Calls Tryz.prog 92 #[.agg (aF ss), .slice (some ⟨bb,off,none⟩) 64 c] w fun e w'=>∃zs:List Int,zs.length=8∧e= .returned (.agg (aF zs))∧Below w.heap.size w w':=by
 obtain ⟨cs,hcs⟩:∃a,aF ss=a:=⟨_,rfl⟩;rw [hcs];have hz:cs.size=8:=by rw [←hcs,dh,hs]
 have HCS:=ae hcs;have vW:=ae hs;have H0:=ae (Wq.start w cs);have HEX:Hid (∀W,Below w.heap.size w W→Calls Tryz.prog 107 #[.slice (some ⟨bb,off,none⟩) 64 c] W fun e w'=>∃zs:List Int,zs.length=64∧e= .returned (.agg (aF zs))∧Below W.heap.size W w'):=
  ae fun W h=>TE W bb off c xs hx (dS hb h.size) fun j hj=>(h.cell (p:=⟨bb,off+j,none⟩) hb).trans (hA j hj)
 have HI8:Hid ((Tryz.prog.info? 190).map (·.size)=some cs.size):=ae (by rw [hz];kernel_rfl);have Lu:Hid ((aF (List.replicate 8 0)).size=cs.size):=ae (by rw [dh,hz];simp);have jO:Hid (cs.all (·.oneCell')=true):=ae (by rw [←hcs];exact jg _);clear hx hA hcs hs hz;go_enter Tryz.func92,Tryz.ntmps92;go_upto_region 1 with (first
  |((with_reducible refine bu 190 ?_);go_must (refine aN rfl _ rfl (aF (List.replicate 8 0)) uJ ?_)))
 generalize (w.alloc (.cells cs 190)).alloc (.cells (aF (List.replicate 8 0)) 190)=W0 at H0 ⊢;go_wp2_with fail;refine (HEX.out _ H0.out.lo).mono ?_;rintro e w1 ⟨ws,hwl,rfl,hb1⟩;have H1:=ae (H0.out.grow hb1);have HWL:=ae hwl;clear hb1 H0 HEX hwl;go_wp2_with fail;refine (UL w1).mono ?_;rintro e w2 ⟨rfl,hb2⟩;have H2:=ae (H1.out.grow hb2);clear hb2 H1;rw [Ye];obtain ⟨ks,hks⟩:∃l,rk3=l:=⟨_,rfl⟩;rw [hks];have rD:Hid (ks.length=64):=ae (by rw [←hks];rfl);clear hks;have H3:=ae (EZ.start H2.out (aF ws) (aF ks) (aF (List.replicate 64 0)));have HI4:Hid ((Tryz.prog.info? 209).map (·.size)=some (aF ws).size):=ae (by rw [dh,HWL.out];kernel_rfl);have QV:Hid ((Tryz.prog.info? 209).map (·.size)=some (aF ks).size):=ae (by rw [dh,rD.out];kernel_rfl);have Og:Hid ((aF (List.replicate 64 0)).size=(aF ws).size):=ae (by rw [dh,dh,HWL.out];simp);have Oh:Hid ((aF (List.replicate 64 0)).size=(aF ks).size):=ae (by rw [dh,dh,rD.out];simp);obtain ⟨u64,hu64⟩:∃l:List Int,List.replicate 64 0=l:=⟨_,rfl⟩;rw [hu64] at H3 Og Oh;have HUI:Hid ((Tryz.prog.info? 209).map (fun i=>(i.zero,i.size))=some (some (.agg (aF u64)),(aF u64).size)):=ae (by rw [←hu64];exact zX);clear hu64;obtain ⟨u8,Zi⟩:∃l:List Int,List.replicate 8 0=l:=⟨_,rfl⟩;rw [Zi] at H3 Lu;have HU8:Hid ((Tryz.prog.info? 190).map (fun i=>(i.zero,i.size))=some (some (.agg (aF u8)),(aF u8).size)):=ae (by rw [←Zi];exact uJ);clear Zi;go_upto_region 2 with (first
  |((with_reducible refine bu 209 ?_);go_must (refine aN rfl _ rfl (aF u64) HUI.out ?_))
  |((with_reducible refine eQ 209 ?_);go_must (first
    |(refine wpList_store_row rfl _ _ _ rfl w2.heap.size (aF ws) rfl rfl 209 (aF u64) (heap_alloc2_old w2 _ _) HI4.out Og.out (jg _) ?_)
    |(refine wpList_store_row rfl _ _ _ rfl (w2.heap.size+1) (aF ks) (congrArg (fun b=>Value.pointer (some ⟨b,0,none⟩)) (oV w2 _)) rfl 209 (aF u64) ((setRow_other _ _ _ _ (by omega)).trans (heap_alloc2_new w2 _ _)) QV.out Oh.out (jg _) ?_))))
 have HR4:=ae (X3 H2.out (aF u64) (aF ws) (aF ks));have HV5:=ae (X4 w2 (aF u64) (aF ws) (aF ks) (aF u8));have yu:=ae (JW w2 (aF u64) (aF ws) (aF ks));generalize ((((w2.alloc (.cells (aF u64) 209)).alloc (.cells (aF u64) 209)).setRow w2.heap.size (aF ws)).setRow (w2.heap.size+1) (aF ks))=W4 at H3 HR4 HV5 yu ⊢;obtain ⟨wb,hwb⟩:∃b,w2.heap.size=b:=⟨_,rfl⟩;rw [hwb] at H3 HV5 yu;rw [oV w2,hwb];clear hwb H2 Og Oh HUI;go_wp2_with (first
  |((with_reducible refine jy 190 ?_);go_must (refine bG rfl _ _ rfl w.heap.size rfl cs HR4.out _ Tryz.underlying190 rfl HI8.out ?_))
  |((with_reducible refine bu 190 ?_);go_must (refine aN rfl _ rfl (aF u8) HU8.out ?_))
  |((with_reducible refine eQ 190 ?_);go_must (refine wpList_store_row rfl _ _ _ rfl (wb+2) cs (congrArg (fun b=>Value.pointer (some ⟨b,0,none⟩)) yu.out) rfl 190 (aF u8) HV5.out HI8.out Lu.out jO.out ?_)))
 generalize (W4.alloc (.cells (aF u8) 190)).setRow (wb+2) cs=W6 at H3 ⊢;rw [yu.out];clear HR4 HV5 yu Lu HU8
 go_loopw [8] (fun i wr=>∃(k:Nat) (ts:List Int),k≤64∧i=I k∧ts.length=8∧EZ w wb cs (aF ts) (aF ws) (aF ks) wr) (fun i _=>64 - (intOf i).toNat)
 case atStart=>exact ⟨0,ss,Nat.zero_le _,rfl,vW.out,by rw [HCS.out];exact H3.out⟩
 case round=>
  obtain ⟨k,ts,hk,rfl,htl,hs⟩:=hrel;have HS:=ae hs;clear H3 hs;by_cases hlt:(k:Int)<64
  ·obtain ⟨t0,t1,t2,t3,t4,t5,t6,t7,rfl⟩:=eight3 htl;clear htl;have c0:wr.cell? ⟨wb+2,0,none⟩=some (.int .u32 t0):=HS.out.t.cell 0;have c4:wr.cell? ⟨wb+2,4,none⟩=some (.int .u32 t4):=HS.out.t.cell 4;go_wp2_with fail;go_quiet (fail);obtain ⟨W7,TT⟩:∃W,wr.drewN nq=W:=⟨_,rfl⟩;rw [TT];have QX:Hid (EZ w wb cs (aF [t0,t1,t2,t3,t4,t5,t6,t7]) (aF ws) (aF ks) W7):=ae (by rw [←TT];exact HS.out.drewN nq);clear TT c0 c4 HS;obtain ⟨wk,hwk⟩:∃z,ws[k]?.getD 0=z:=⟨_,rfl⟩;obtain ⟨kk,hkk⟩:∃z,ks[k]?.getD 0=z:=⟨_,rfl⟩;have cw:W7.cell? ⟨wb,k,none⟩=some (.int .u32 wk):=(QX.out.w.cell k).trans (by rw [gU _ _ (by rw [HWL.out];omega),hwk]);have ck:W7.cell? ⟨wb+1,k,none⟩=some (.int .u32 kk):=(QX.out.k.cell k).trans (by rw [gU _ _ (by rw [rD.out];omega),hkk]);clear hwk hkk;have c0:W7.cell? ⟨wb+2,0,none⟩=some (.int .u32 t0):=QX.out.t.cell 0;have c1:W7.cell? ⟨wb+2,1,none⟩=some (.int .u32 t1):=QX.out.t.cell 1;have c2:W7.cell? ⟨wb+2,2,none⟩=some (.int .u32 t2):=QX.out.t.cell 2;have c3:W7.cell? ⟨wb+2,3,none⟩=some (.int .u32 t3):=QX.out.t.cell 3;have c4:W7.cell? ⟨wb+2,4,none⟩=some (.int .u32 t4):=QX.out.t.cell 4;have c5:W7.cell? ⟨wb+2,5,none⟩=some (.int .u32 t5):=QX.out.t.cell 5;have c6:W7.cell? ⟨wb+2,6,none⟩=some (.int .u32 t6):=QX.out.t.cell 6;have c7:W7.cell? ⟨wb+2,7,none⟩=some (.int .u32 t7):=QX.out.t.cell 7;go_wp2_with fail;go_quiet ((go_at_call 109;exact DJ _ _ _ _ (by omega) (by omega)));generalize (((t7+bits BinOp.xor IntKind.u32 (bits BinOp.xor IntKind.u32 (uF t4 6) (uF t4 11)) (uF t4 25)+bits BinOp.xor IntKind.u32 (bits BinOp.and IntKind.u32 t4 t5) (bits BinOp.and IntKind.u32 ((4294967295 - t4)%4294967296) t6)+kk)%4294967296+wk)%4294967296)=X;obtain ⟨W8,hW8⟩:∃W,W7.drewN nq=W:=⟨_,rfl⟩;rw [hW8];have HS8:Hid (EZ w wb cs (aF [t0,t1,t2,t3,t4,t5,t6,t7]) (aF ws) (aF ks) W8):=ae (by rw [←hW8];exact QX.out.drewN nq);clear hW8 c0 c1 c2 c3 c4 c5 c6 c7 cw ck QX;have c1:W8.cell? ⟨wb+2,1,none⟩=some (.int .u32 t1):=HS8.out.t.cell 1;have c2:W8.cell? ⟨wb+2,2,none⟩=some (.int .u32 t2):=HS8.out.t.cell 2;go_wp2_with fail;go_quiet ((go_at_call 109;exact DJ _ _ _ _ (by omega) (by omega)));generalize ((bits BinOp.xor IntKind.u32 (bits BinOp.xor IntKind.u32 (uF t0 2) (uF t0 13)) (uF t0 22)+bits BinOp.xor IntKind.u32 (bits BinOp.xor IntKind.u32 (bits BinOp.and IntKind.u32 t0 t1) (bits BinOp.and IntKind.u32 t0 t2)) (bits BinOp.and IntKind.u32 t1 t2))%4294967296)=Y;obtain ⟨W9,hW9⟩:∃W,W8.drewN nq=W:=⟨_,rfl⟩;rw [hW9];have VE:Hid (EZ w wb cs (aF [t0,t1,t2,t3,t4,t5,t6,t7]) (aF ws) (aF ks) W9):=ae (by rw [←hW9];exact HS8.out.drewN nq);clear hW9 c1 c2 HS8;have c0:W9.cell? ⟨wb+2,0,none⟩=some (.int .u32 t0):=VE.out.t.cell 0;have c1:W9.cell? ⟨wb+2,1,none⟩=some (.int .u32 t1):=VE.out.t.cell 1;have c2:W9.cell? ⟨wb+2,2,none⟩=some (.int .u32 t2):=VE.out.t.cell 2;have c3:W9.cell? ⟨wb+2,3,none⟩=some (.int .u32 t3):=VE.out.t.cell 3;have c4:W9.cell? ⟨wb+2,4,none⟩=some (.int .u32 t4):=VE.out.t.cell 4;have c5:W9.cell? ⟨wb+2,5,none⟩=some (.int .u32 t5):=VE.out.t.cell 5;have c6:W9.cell? ⟨wb+2,6,none⟩=some (.int .u32 t6):=VE.out.t.cell 6;have c7:W9.cell? ⟨wb+2,7,none⟩=some (.int .u32 t7):=VE.out.t.cell 7;have HI9:Hid ((Tryz.prog.info? 190).map (·.size)=some (aF [(X+Y)%4294967296,t0,t1,t2,(t3+X)%4294967296,t4,t5,t6]).size):=ae (by kernel_rfl);go_wp2_with ((with_reducible refine eQ 190 ?_);go_must (refine wpList_store_row rfl _ _ _ rfl (wb+2) (aF [(X+Y)%4294967296,t0,t1,t2,(t3+X)%4294967296,t4,t5,t6]) rfl rfl 190 (aF [t0,t1,t2,t3,t4,t5,t6,t7]) VE.out.t.var HI9.out rfl (jg _) ?_));go_roundw
   case rel=>exact ⟨k+1,_,by omega,by go_num,rfl,VE.out.row _⟩
   case measure=>simp [intOf];omega
  ·have BJ:=ae htl;clear htl;go_wp2_with fail
   go_loopw [13] (fun i wr=>∃(k:Nat) (zs:List Int),k≤8∧i=I k∧zs.length=8∧EZ w wb cs (aF zs) (aF ws) (aF ks) wr) (fun i _=>8 - (intOf i).toNat)
   case atStart=>exact ⟨0,ts,Nat.zero_le _,rfl,BJ.out,HS.out⟩
   case round=>
    clear HS BJ hlt;obtain ⟨j,zs,hj,rfl,hzl,hs⟩:=hrel;have HS:=ae hs;have HL:=ae hzl;clear hs hzl;by_cases hlt:(j:Int)<8
    ·obtain ⟨sj,hsj⟩:∃z,ss[j]?.getD 0=z:=⟨_,rfl⟩;obtain ⟨tj,htj⟩:∃z,zs[j]?.getD 0=z:=⟨_,rfl⟩;have cS:wr.cell? ⟨w.heap.size,j,none⟩=some (.int .u32 sj):=(HS.out.b.s.cell j).trans (by rw [←HCS.out,gU _ _ (by rw [vW.out];omega),hsj]);have cT:wr.cell? ⟨wb+2,j,none⟩=some (.int .u32 tj):=(HS.out.t.cell j).trans (by rw [gU _ _ (by rw [HL.out];omega),htj]);have cf:=HS.out.t.gG j;clear hsj htj;go_wp2_with fail;go_still_tail 9,(by kernel_rfl);change wpList _ _ _ _ _ wr.drew;go_wp2_with fail;go_roundw
     case rel=>exact ⟨j+1,zs.set j _,by omega,by go_num,by rw [List.length_set,HL.out],HS.out.drew.put j _⟩
     case measure=>simp [intOf];omega
    ·have nT:Hid ((Tryz.prog.info? 190).map (·.size)=some (aF zs).size):=ae (by rw [dh,HL.out];kernel_rfl);have HRW:Hid (pX wr (wb+2) (aF zs)):=ae HS.out.t.lu;have kS:Hid ((aF (List.replicate 8 0)).size=(aF zs).size):=ae (by rw [dh,dh,HL.out];simp);go_wp2_with (first
      |((with_reducible refine jy 190 ?_);go_must (refine bG rfl _ _ rfl (wb+2) rfl (aF zs) HRW.out _ Tryz.underlying190 rfl nT.out ?_))
      |((with_reducible refine eQ 190 ?_);go_must (refine wpList_store_row rfl _ _ _ rfl (w.heap.size+1) (aF zs) rfl rfl 190 (aF (List.replicate 8 0)) HS.out.b.r.var nT.out kS.out (jg _) ?_)))
     refine bodyPost_ret (v:= .agg (aF zs)) (results_cell_row rfl _ _ (w.heap.size+1) _ (aF zs) (0,0) _ rfl (setRow_heap _ _ _ _ _ _ HS.out.b.r.var) Tryz.underlying190 rfl nT.out) rfl ?_;exact ⟨zs,HL.out,rfl,aC HS.out.b.lo (Nat.le_succ _) _⟩
theorem uM.app0 {w w3:World} {v v':Value} (hg:w.grownBy w3 v.ownBlock) (hat:v'.ownBlock=v.ownBlock∨v'.ownBlock=some w.heap.size):uM v w v' w3:=
 ⟨hg.os,hg.tape,hg.output,hg.size,fun k hk hv=>hg.block k hk hv,hat.imp id fun e=>⟨_,e,Nat.le_refl _⟩⟩
theorem uM.jC {w w':World} {v:Value} (h:uM (.slice none 0 0) w v w'):Below w.heap.size w w':=h.xE (fun g hg=>by cases hg) (Nat.le_refl _)
end Go.Proofs.YtdibbemgpikgjaaGreat
