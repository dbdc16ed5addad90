/- The texts Ks, Kt, Ku, Kw, Kx, Ky, Kz, La, Qh, Vy, TrA, RsP, in this order. -/
import Derived.Test.YtbaehbbonkljpaaGreatDoorS00
import Derived.Laws.BitsAllLaws
import Derived.Laws.Cover3
import Derived.MapKept
import Derived.Test.YtbaehbbonkljpaaGreatDoorS01
import Derived.Test.YtbaehbbonkljpaaGreatDoorS03
import Derived.Test.YtbaehbbonkljpaaGreatDoorS08
import Derived.Test.YtbaehbbonkljpaaGreatDoorS11
import Derived.Test.YtbaehbbonkljpaaGreatDoorS17
import Derived.Test.YtbaehbbonkljpaaGreatDoorS25
set_option maxRecDepth 10000
set_option maxHeartbeats 8000000
namespace Go.Proofs.YtbaehbbonkljpaaGreatDoor
open Go Go.RowKit
def xb3 (m:Int) (x:UInt8):UInt8:=byteOf (bits BinOp.xor IntKind.u8 x.toNat m)
theorem YR (x:UInt8) (m:Int):0<=bits BinOp.xor IntKind.u8 x.toNat m/\bits BinOp.xor IntKind.u8 x.toNat m<256:=by
 unfold bits;simp only [IntKind.wrap,IntKind.bits,IntKind.signed];constructor
 ·exact Int.emod_nonneg _ (by decide)
 ·exact Int.emod_lt_of_pos _ (by decide)
theorem Vt (m:Int) (x:UInt8):Extern.Stop.cell (xb3 m x)= .int .u8 (bits BinOp.xor IntKind.u8 x.toNat m):=by
 obtain ⟨h1,h2⟩:=YR x m;unfold xb3;rw [fF];congr 1;omega
def rG (m:Int) (d:List UInt8):List UInt8:=d.map (xb3 m)++List.replicate 32 (byteOf m)
theorem uj (m:Int) (d:List UInt8) (h:d.length=32):(rG m d).length=64:=by simp [rG,h]
theorem Tm (m:Int) (h0:0<=m) (h1:m<256):Extern.Stop.cell (byteOf m)= .int .u8 m:=by
 rw [fF];congr 1;omega
theorem EL (m:Int) (d:List UInt8) (w:World) (hd:d.length=32) (h0:0<=m) (h1:m<256):
  Calls Tryz.prog 60 #[.agg (ax d).toArray, .int .u8 m] w (Zc w.heap.size (.slice none 0 0) w (rG m d)):=by
 obtain ⟨i0,hi,hz0,hz1,hz2⟩:=info_parts lN;have HI:=ae hi;have HZ0:=ae hz0;have HZ1:=ae hz1;have HZ2:=ae hz2;clear hi hz0 hz1 hz2;have HF:=ae (CB.fresh w (ax d).toArray 24);have HD:=ae hd;obtain ⟨xs,hxs⟩:∃l,d.map (xb3 m)=l:=⟨_,rfl⟩;have Rx:Hid (xs.length=32):=ae (by rw [<-hxs,List.length_map,hd]);have KA:=ae hxs;obtain ⟨ys,hys⟩:∃l,List.replicate 32 (byteOf m)=l:=⟨_,rfl⟩;have qo:Hid (ys.length=32):=ae (by rw [<-hys,List.length_replicate]);have HYS:=ae hys;have HM:=ae (Tm m h0 h1);clear hd hxs hys;go_enter Tryz.func60,Tryz.ntmps60;go_wp2_with fail
 go_loopw [5,6] (fun b i wr=>Ij w.heap.size (.slice none 0 0) w (ax d).toArray (fun k=>xs.take k) 32 b i wr) (fun _ i _=>32 - (intOf i).toNat)
 case atStart=>exact ⟨0,0,0,_,Nat.zero_le _,rfl,by go_num,HF.out⟩
 case round=>
  obtain ⟨k,n,c,A,hk,rfl,rfl,hb⟩:=hrel;have HB:Hid (CB w.heap.size (.slice none 0 0) w (ax d).toArray (xs.take k) A n c wr):=ae hb;have hn:n=k:=by rw [<-hb.len];show (xs.take k).length=k;rw [List.length_take,Rx.out];omega
  have hsz:w.heap.size<=wr.heap.size:=hb.keep.size;clear hb;subst hn;by_cases hlt:(n:Int)<32
  ·obtain ⟨x,hx⟩:∃x,d[n]? =some x:=⟨_,bK (by rw [HD.out];omega)⟩;have v0:wr.cell? ⟨w.heap.size,n,none⟩=some (.int .u8 (x.toNat:Int)):=by rw [HB.out.row.2 n,List.getElem?_toArray];unfold ax;rw [List.getElem?_map,hx];rfl
   have HX:Hid (xs[n]? =some (xb3 m x)):=ae (by rw [<-KA.out,List.getElem?_map,hx];rfl);have HXC:=ae (Vt m x);clear hx;obtain ⟨pre,hpre⟩:∃l,xs.take n=l:=⟨_,rfl⟩;have DR:=ae hpre;rw [hpre] at HB;clear hpre;have N9:=ae (World.ownsRow.alloc HB.out.own (.cells #[Value.int .u8 (bits BinOp.xor IntKind.u8 x.toNat m)] 5));go_wp2_with (at_builtin;go_must (refine wpList_append_own_at _ rfl _ _ 55 rfl w.heap.size 5 i0 (.int .u8 0) 1 1 Tryz.underlying55 HI.out HZ0.out HZ1.out HZ2.out rfl (by decide) _ n ((pre).map Extern.Stop.cell) rfl N9.out _ 1 1 [Value.int .u8 (bits BinOp.xor IntKind.u8 x.toNat m)] rfl rfl (cell_one_new _ _ _) (wV _) (by unfold maxLen;omega) (by omega) (by simp;omega) ?_));intro v' w3 hown hg _ hat;obtain ⟨A',c',rfl⟩:=fD hown;have H2:=ae (HB.out.grown (bs':=xs.take (n+1)) (by unfold ou;rw [take_snoc xs n _ HX.out,DR.out,List.map_append];show World.ownsRow _ _ _ _ _ _ (_++ [Extern.Stop.cell _]);rw [HXC.out];exact hown) (by rw [List.length_take,Rx.out];omega) hg hat);clear hown hg hat;go_wp2_with fail;go_roundw
   case rel=>exact ⟨n+1,n+1,c',A',by omega,rfl,by go_num,H2.out⟩
   case measure=>simp [intOf];omega
  ·have HN32:Hid (n=32):=ae (by omega);have HB3:Hid (CB w.heap.size (.slice none 0 0) w (ax d).toArray (xs++ys.take 0) A n c wr):=ae (by have hb:=HB.out;rw [HN32.out,List.take_of_length_le (Nat.le_of_eq Rx.out),<-HN32.out] at hb;simpa using hb);go_wp2_with fail
   go_loopw [5,7] (fun b i wr=>Ij w.heap.size (.slice none 0 0) w (ax d).toArray (fun k=>xs++ys.take k) 32 b i wr) (fun _ i _=>32 - (intOf i).toNat)
   case atStart=>exact ⟨0,n,c,A,Nat.zero_le _,rfl,by go_num,HB3.out⟩
   case round=>
    clear HB HB3 hsz hk hlt;obtain ⟨k,n2,c,A,hk,rfl,rfl,hb⟩:=hrel;have HB:Hid (CB w.heap.size (.slice none 0 0) w (ax d).toArray (xs++ys.take k) A n2 c wr):=ae hb;have hn:n2=32+k:=by rw [<-hb.len];show (xs++ys.take k).length=32+k;rw [bF,List.length_take,Rx.out,qo.out];omega
    have hsz:w.heap.size<=wr.heap.size:=hb.keep.size;clear hb;subst hn;by_cases hlt:(k:Int)<32
    ·have HX:Hid (ys[k]? =some (byteOf m)):=ae (by rw [<-HYS.out,List.getElem?_replicate,if_pos (by omega)]);obtain ⟨pre,hpre⟩:∃l,xs++ys.take k=l:=⟨_,rfl⟩;have DR:=ae hpre;rw [hpre] at HB;clear hpre;have N9:=ae (World.ownsRow.alloc HB.out.own (.cells #[Value.int .u8 m] 5));go_wp2_with (at_builtin;go_must (refine wpList_append_own_at _ rfl _ _ 55 rfl w.heap.size 5 i0 (.int .u8 0) 1 1 Tryz.underlying55 HI.out HZ0.out HZ1.out HZ2.out rfl (by decide) _ (32+k) ((pre).map Extern.Stop.cell) rfl N9.out _ 1 1 [Value.int .u8 m] rfl rfl (cell_one_new _ _ _) (wV _) (by unfold maxLen;omega) (by omega) (by simp;omega) ?_));intro v' w3 hown hg _ hat;obtain ⟨A',c',rfl⟩:=fD hown;have H2:=ae (HB.out.grown (bs':=xs++ys.take (k+1)) (n':=32+k+1) (by unfold ou;rw [take_snoc ys k _ HX.out,<-List.append_assoc,DR.out,List.map_append];show World.ownsRow _ _ _ _ _ _ (_++ [Extern.Stop.cell _]);rw [HM.out];exact hown) (by rw [bF,List.length_take,Rx.out,qo.out];omega) hg hat);clear hown hg hat;go_wp2_with fail;go_roundw
     case rel=>exact ⟨k+1,32+k+1,c',A',by omega,rfl,by go_num,H2.out⟩
     case measure=>simp [intOf];omega
    ·have HN:Hid (k=32):=ae (by omega);go_wp2_with fail;go_ret;have hb:=HB.out;have hk:=HN.out;subst hk;rw [List.take_of_length_le (Nat.le_of_eq qo.out),<-KA.out,<-HYS.out] at hb;exact ⟨A,64,c,uj m d HD.out,rfl,hb.own,hb.keep⟩
structure PB (v0:Value) (w:World) (bs:List UInt8) (A:Option Addr) (n c:Nat) (W:World):Prop where
 own:ou w.heap.size W A n c bs
 len:bs.length=n
 keep:uO v0 w (.slice A n c) W
theorem PB.grown {n c n' c':Nat} {v0:Value} {A A':Option Addr} {w W W':World} {o:Obj} {bs bs':List UInt8} (h:PB v0 w bs A n c W) (hO:ou w.heap.size W' A' n' c' bs') (hl:bs'.length=n') (hg:(W.alloc o).grownBy W' (Value.slice A n c).ownBlock) (hat:(Value.slice A' n' c').ownBlock=(Value.slice A n c).ownBlock\/(Value.slice A' n' c').ownBlock=some (W.heap.size+1)):PB v0 w bs' A' n' c' W':=
 ⟨hO,hl,h.keep.trans (uO.app hg (hat.imp id fun e=>e.trans (by simp)))⟩
def lenV:Value->Nat
 | .slice _ m _=>m
 |_=>0
def GH (n:Nat):Nat:=(120 - (n+1)%64)%64
theorem Jn (n:Nat):(n+1+GH n)%64=56:=by unfold GH;omega
theorem OO (n:Nat):GH n<64:=Nat.mod_lt _ (by omega)
theorem PB.fresh {w W:World} {A:Option Addr} {n c:Nat} {bs:List UInt8} (h:ou w.heap.size W A n c bs) (hl:bs.length=n) (hg:(w.alloc (.cells #[] 5)).grownBy W (some w.heap.size)) (hat:(Value.slice A n c).ownBlock=some w.heap.size\/(Value.slice A n c).ownBlock=some (w.heap.size+1)):PB (.slice none 0 0) w bs A n c W:=by
 refine ⟨h,hl,hg.os,hg.tape,hg.output,Nat.le_trans (by simp) hg.size,fun k hk _=>(hg.block k (by simp;omega) (fun e=>by injection e;omega)).trans (Below.heap_alloc w _ k hk), .inr ?_⟩;rcases hat with e|e
 ·exact ⟨_,e,by omega⟩
 ·exact ⟨_,e,by omega⟩
def eU (x n:Int):Int:=bits BinOp.or IntKind.u32 (x / 2 ^ n.toNat) (x*2 ^ (32 - n).toNat%4294967296)
theorem Ve (x n:Int) (w:World) (h0:0<n) (h1:n<32):
  Calls Tryz.prog 102 #[.int .u32 x,I n] w fun e w'=>e= .returned (.int .u32 (eU x n))/\∃k,w'=w.drewN k:=by
 have h2:0<=32 - n:=by omega
 have h3:IntKind.i64.wrap (32 - n)=32 - n:=by rw [IntKind.wrap_i64];omega
 go_enter Tryz.func102,Tryz.ntmps102;go_wp2_with fail;go_quiet (fail);go_wp2_with fail;go_ret;exact ⟨rfl,_,rfl⟩
def qx:List Int:= [1116352408,1899447441,3049323471,3921009573,961987163,1508970993,2453635748,2870763221,3624381080,310598401,607225278,1426881987,1925078388,2162078206,2614888103,3248222580,3835390401,4022224774,264347078,604807628,770255983,1249150122,1555081692,1996064986,2554220882,2821834349,2952996808,3210313671,3336571891,3584528711,113926993,338241895,666307205,773529912,1294757372,1396182291,1695183700,1986661051,2177026350,2456956037,2730485921,2820302411,3259730800,3345764771,3516065817,3600352804,4094571909,275423344,430227734,506948616,659060556,883997877,958139571,1322822218,1537002063,1747873779,1955562222,2024104815,2227730452,2361852424,2428436474,2756734187,3204031479,3329325298]
def J5 (l:List Int):Array Value:=(l.map (Value.int .u32)).toArray
theorem Vg (l:List Int):(J5 l).all (·.oneCell')=true:=by
 unfold J5;rw [Array.all_eq_true'];intro u hu;simp only [List.mem_toArray,List.mem_map] at hu;obtain ⟨x,_,rfl⟩:=hu;rfl
theorem UT (w:World):Calls Tryz.prog 101 #[] w (Gives (.agg (J5 qx)) w):=by
 go_enter Tryz.func101,Tryz.ntmps101;go_wp2_with ((with_reducible refine dW 190 ?_);go_must (refine wpList_store_row rfl _ _ _ rfl w.heap.size (J5 qx) rfl rfl 190 (J5 (List.replicate 64 0)) (heap_alloc_last w _) (by kernel_rfl) rfl (Vg _) ?_));refine bodyPost_ret (v:= .agg (J5 qx)) (results_cell_row rfl _ _ w.heap.size _ (J5 qx) (0,0) _ rfl (setRow_heap _ _ _ _ _ _ (heap_alloc_last w _)) Tryz.underlying190 rfl (by kernel_rfl)) rfl ?_;exact ⟨rfl,below_setRow (ag w _) (Nat.le_refl _) _⟩
theorem YQ (l:List Int):J5 l=aj l:=rfl
theorem CY (x n:Int) (w:World) (k:Nat) (h0:0<n) (h1:n<32):Calls Tryz.prog 102 #[.int .u32 x,I n] (w.drewN k) fun e w''=>e= .returned (.int .u32 (eU x n))/\∃m,w''=w.drewN m:=
 Calls.quiet_of (Ve x n _ h0 h1)
structure KE (w:World) (zs:List Int) (wr:World):Prop where
 var:AV (w.heap.size+1) 190 (aj zs) wr
 res:AV w.heap.size 190 (aj (List.replicate 64 0)) wr
 lo:Below w.heap.size w wr
theorem KE.drew {w wr:World} {zs:List Int} (h:KE w zs wr):KE w zs wr.drew:=⟨h.var.drew,h.res.drew,h.lo.drew⟩
theorem KE.put {w wr:World} {zs:List Int} (h:KE w zs wr) (i:Nat) (z:Int):KE w (zs.set i z) (wr.setCell ⟨w.heap.size+1,i,none⟩ (.int .u32 z)):=
 ⟨by rw [<-rH];exact h.var.put i _,h.res.far (by omega) _ _,h.lo.setCell (p:=⟨w.heap.size+1,i,none⟩) (Nat.le_succ _) _⟩
theorem KE.drewN {w wr:World} {zs:List Int} (h:KE w zs wr) (n:Nat):KE w zs (wr.drewN n):=⟨⟨h.var.var⟩,⟨h.res.var⟩,⟨h.lo.os,h.lo.tape,h.lo.output,h.lo.size,h.lo.block⟩⟩
theorem uM:(Tryz.prog.info? 155).map (fun i=>(i.zero,i.size))=some (some (.agg (aj (List.replicate 8 0))),(aj (List.replicate 8 0)).size):=by kernel_rfl
theorem BO {t:List Int} (h:t.length=8):∃a b c d e f g i,t= [a,b,c,d,e,f,g,i]:=by
 match t,h with
 | [a,b,c,d,e,f,g,i],_=>exact ⟨a,b,c,d,e,f,g,i,rfl⟩
structure Xr (w:World) (cs:Array Value) (W:World):Prop where
 s:AV w.heap.size 155 cs W
 r:AV (w.heap.size+1) 155 (aj (List.replicate 8 0)) W
 lo:Below w.heap.size w W
theorem Xr.start (w:World) (cs:Array Value):Xr w cs ((w.alloc (.cells cs 155)).alloc (.cells (aj (List.replicate 8 0)) 155)):=
 ⟨⟨heap_alloc2_old w _ _⟩,⟨heap_alloc2_new w _ _⟩,ah (ag w _) (ag _ _)⟩
theorem Xr.grow {w W W':World} {cs:Array Value} (h:Xr w cs W) (hb:Below W.heap.size W W'):Xr w cs W':=
 ⟨h.s.below hb,h.r.below hb,ah h.lo hb⟩
structure Bo (w:World) (wb:Nat) (cs ts ws ks:Array Value) (W:World):Prop where
 b:Xr w cs W
 hw:w.heap.size+2<=wb
 w:AV wb 190 ws W
 k:AV (wb+1) 190 ks W
 t:AV (wb+2) 155 ts W
theorem Bo.drewN {w W:World} {wb:Nat} {cs ts ws ks:Array Value} (h:Bo w wb cs ts ws ks W) (n:Nat):Bo w wb cs ts ws ks (W.drewN n):=
 ⟨⟨⟨h.b.s.var⟩,⟨h.b.r.var⟩,⟨h.b.lo.os,h.b.lo.tape,h.b.lo.output,h.b.lo.size,h.b.lo.block⟩⟩,h.hw,⟨h.w.var⟩,⟨h.k.var⟩,⟨h.t.var⟩⟩
theorem Bo.drew {w W:World} {wb:Nat} {cs ts ws ks:Array Value} (h:Bo w wb cs ts ws ks W):Bo w wb cs ts ws ks W.drew:=
 ⟨⟨⟨h.b.s.var⟩,⟨h.b.r.var⟩,⟨h.b.lo.os,h.b.lo.tape,h.b.lo.output,h.b.lo.size,h.b.lo.block⟩⟩,h.hw,⟨h.w.var⟩,⟨h.k.var⟩,⟨h.t.var⟩⟩
theorem Bo.row {w W:World} {wb:Nat} {cs ts ws ks:Array Value} (h:Bo w wb cs ts ws ks W) (ds:Array Value):Bo w wb cs ds ws ks (W.setRow (wb+2) ds):=by
 have hw:=h.hw;exact ⟨⟨h.b.s.rW (by omega) _,h.b.r.rW (by omega) _,aB h.b.lo (by omega) _⟩,h.hw,h.w.rW (by omega) _,h.k.rW (by omega) _,h.t.qy _⟩
theorem Bo.put {w W:World} {wb:Nat} {cs ws ks:Array Value} {zs:List Int} (h:Bo w wb cs (aj zs) ws ks W) (i:Nat) (z:Int):Bo w wb cs (aj (zs.set i z)) ws ks (W.setCell ⟨wb+2,i,none⟩ (.int .u32 z)):=by
 have hw:=h.hw;exact ⟨⟨h.b.s.far (by omega) _ _,h.b.r.far (by omega) _ _,h.b.lo.setCell (p:=⟨wb+2,i,none⟩) (show w.heap.size<=wb+2 by omega) _⟩,h.hw,h.w.far (by omega) _ _,h.k.far (by omega) _ _,by rw [<-rH];exact h.t.put i _⟩
theorem Bo.start {w W:World} {cs:Array Value} (h:Xr w cs W) (ws ks zs:Array Value):Bo w W.heap.size cs cs ws ks ((((((W.alloc (.cells zs 190)).alloc (.cells zs 190)).setRow W.heap.size ws).setRow (W.heap.size+1) ks).alloc (.cells (aj (List.replicate 8 0)) 155)).setRow (W.heap.size+2) cs):=by
 obtain ⟨W1,hW1⟩:∃W1,W.alloc (.cells zs 190)=W1:=⟨_,rfl⟩;have s1:W1.heap.size=W.heap.size+1:=by rw [<-hW1];simp
 have b1:Below W.heap.size W W1:=by rw [<-hW1];exact ag W _
 have a1:AV W.heap.size 190 zs W1:=by rw [<-hW1];exact AV.new W _ _
 rw [hW1];obtain ⟨W2,hW2⟩:∃W2,W1.alloc (.cells zs 190)=W2:=⟨_,rfl⟩;have b2:Below W1.heap.size W1 W2:=by rw [<-hW2];exact ag W1 _
 have s2:W2.heap.size=W.heap.size+2:=by rw [<-hW2];simp;omega
 have a2:AV (W.heap.size+1) 190 zs W2:=by rw [<-hW2,<-s1];exact AV.new W1 _ _
 rw [hW2];obtain ⟨W3,hW3⟩:∃W3,W2.setRow W.heap.size ws=W3:=⟨_,rfl⟩;have s3:W3.heap.size=W.heap.size+2:=by rw [<-hW3,<-s2];simp [World.setRow]
 have b3:Below W.heap.size W W3:=by rw [<-hW3];exact aB (b1.trans (b2.mono (by omega))) (Nat.le_refl _) _
 have a3:AV W.heap.size 190 ws W3:=by rw [<-hW3];exact (a1.below b2).qy _
 have a3':AV (W.heap.size+1) 190 zs W3:=by rw [<-hW3];exact a2.rW (by omega) _
 rw [hW3];obtain ⟨W4,RG⟩:∃W4,W3.setRow (W.heap.size+1) ks=W4:=⟨_,rfl⟩;have s4:W4.heap.size=W.heap.size+2:=by rw [<-RG,<-s3];simp [World.setRow]
 have b4:Below W.heap.size W W4:=by rw [<-RG];exact aB b3 (by omega) _
 have a4:AV W.heap.size 190 ws W4:=by rw [<-RG];exact a3.rW (by omega) _
 have a4':AV (W.heap.size+1) 190 ks W4:=by rw [<-RG];exact a3'.qy _
 rw [RG];have b5:=ag W4 (.cells (aj (List.replicate 8 0)) 155);have a5:=AV.new W4 (aj (List.replicate 8 0)) 155;rw [s4] at a5;have hl:=h.lo.size;have hr:=h.r.lt;exact ⟨⟨((h.s.below b4).below b5).rW (by have:=h.s.lt;omega) _,((h.r.below b4).below b5).rW (by omega) _,aB (ah h.lo (b4.trans (b5.mono (by omega)))) (by omega) _⟩,by omega,(a4.below b5).rW (by omega) _,(a4'.below b5).rW (by omega) _,a5.qy _⟩
theorem JH (W:World) (zs ws ks:Array Value):((((W.alloc (.cells zs 190)).alloc (.cells zs 190)).setRow W.heap.size ws).setRow (W.heap.size+1) ks).heap.size=W.heap.size+2:=by simp [World.setRow]
theorem QJ (W:World) (zs ws ks:Array Value):Below W.heap.size W ((((W.alloc (.cells zs 190)).alloc (.cells zs 190)).setRow W.heap.size ws).setRow (W.heap.size+1) ks):=
 aB (aB (ah (ag W _) (ag _ _)) (Nat.le_refl _) _) (Nat.le_succ _) _
theorem YF {w W:World} {cs:Array Value} (h:Xr w cs W) (zs ws ks:Array Value):gK ((((W.alloc (.cells zs 190)).alloc (.cells zs 190)).setRow W.heap.size ws).setRow (W.heap.size+1) ks) w.heap.size cs:=(h.s.below (QJ W zs ws ks)).jw
theorem YG (W:World) (zs ws ks cs:Array Value):(((((W.alloc (.cells zs 190)).alloc (.cells zs 190)).setRow W.heap.size ws).setRow (W.heap.size+1) ks).alloc (.cells cs 155)).heap[W.heap.size+2]? =some (.cells cs 155 (0,0)):=by
 rw [<-JH W zs ws ks];exact heap_alloc_last _ _
section
variable {P:Program} {ops:Array Oper} {a:Act} {w:World} {rest:List Oper} {o:Oper}
theorem zY {Q:Act->Prop} (hw:Region.wanted o (yielded ops a.tmps)=true) (ty:TypeId) (x:Operand) (ho:o.op= .load ty x) (g:Nat) (hx:a.eval x= .pointer (some ⟨g,0,none⟩)) (cs:Array Value) (hr:gK w g cs)
  (d:TypeDesc) (hu:P.underlying ty=some d) (hd:d.isRow=true) (hi:(P.info? ty).map (·.size)=some cs.size)
  (h:wpStill P ops w Q rest (a.put o.dst (.agg cs))):wpStill P ops w Q (o::rest) a:=by
 refine wpStill_step fun K hK=>?_;rw [if_pos hw];have hc:w.rangeAt g 0 cs.toList:=fun j v hv=>by rw [Nat.zero_add,hr.2 j];simpa using hv
 unfold Oper.still execOp;simp only [ho,hx,Instr.loadAt,Instr.sureAddr,Sem.run_bind,Sem.run_pure,Result.andThen_ok,run_loadVar_mid w g 0 ty cs.toList d hc hu hd (by rw [hi];simp)];exact ⟨rfl,hK _ (by simpa using h)⟩
end
def cD (bs:List UInt8):Array Value:=(ax bs).toArray
theorem kL (bs:List UInt8):(cD bs).size=bs.length:=by simp [cD,ax]
theorem uk (bs:List UInt8):(cD bs).all (·.oneCell')=true:=by
 rw [Array.all_eq_true_iff_forall_mem];intro v hv;have h:v∈bs.map Extern.Stop.cell:=by simpa [cD,ax] using hv
 obtain ⟨x,_,rfl⟩:=List.mem_map.1 h;rfl
theorem cD_set (bs:List UInt8) (i:Nat) (x:UInt8):(cD bs).setIfInBounds i (Extern.Stop.cell x)=cD (bs.set i x):=by
 simp [cD,ax,List.map_set]
theorem cD_get (bs:List UInt8) (i:Nat) (h:i<bs.length):(cD bs)[i]? =some (Extern.Stop.cell (bs[i]?.getD 0)):=by
 simp [cD,ax,h]
def d32:List UInt8:=List.replicate 32 0
theorem uo:(Tryz.prog.info? 24).map (fun i=>(i.zero,i.size))=some (some (.agg (cD d32)),(cD d32).size):=by kernel_rfl
theorem Ah:d32.length=32:=by simp [d32]
def iv3:List Int:= [1779033703,3144134277,1013904242,2773480762,1359893119,2600822924,528734635,1541459225]
structure DY (w:World) (zs:List Int) (W:World):Prop where
 r:AV w.heap.size 24 (cD d32) W
 s:AV (w.heap.size+1) 155 (aj zs) W
 lo:Below w.heap.size w W
theorem DY.start (w:World) (z:List Int):DY w iv3 (((w.alloc (.cells (cD d32) 24)).alloc (.cells (aj z) 155)).setRow (w.heap.size+1) (aj iv3)):=
 ⟨⟨(setRow_other _ _ _ _ (by omega)).trans (heap_alloc2_old w _ _)⟩,⟨setRow_heap _ _ _ _ _ _ (heap_alloc2_new w _ _)⟩,aB (ah (ag w _) (ag _ _)) (Nat.le_succ _) _⟩
theorem DY.grow {w W W':World} {zs:List Int} (h:DY w zs W) (hb:Below W.heap.size W W'):DY w zs W':=⟨h.r.below hb,h.s.below hb,ah h.lo hb⟩
theorem DY.row {w W:World} {zs:List Int} (h:DY w zs W) (ds:List Int):DY w ds (W.setRow (w.heap.size+1) (aj ds)):=
 ⟨h.r.rW (by omega) _,h.s.qy _,aB h.lo (Nat.le_succ _) _⟩
theorem DY.drew {w W:World} {zs:List Int} (h:DY w zs W):DY w zs W.drew:=⟨⟨h.r.var⟩,⟨h.s.var⟩,⟨h.lo.os,h.lo.tape,h.lo.output,h.lo.size,h.lo.block⟩⟩
theorem DY.far {w W:World} {zs:List Int} (h:DY w zs W) (b:Nat) (hb:w.heap.size+1<b) (o:Nat) (v:Value):DY w zs (W.setCell ⟨b,o,none⟩ v):=
 ⟨h.r.far (by omega) _ _,h.s.far (by omega) _ _,h.lo.setCell (p:=⟨b,o,none⟩) (show w.heap.size<=b by omega) _⟩
theorem DY.farRow {w W:World} {zs:List Int} (h:DY w zs W) (b:Nat) (hb:w.heap.size+1<b) (cs:Array Value):DY w zs (W.setRow b cs):=
 ⟨h.r.rW (by omega) _,h.s.rW (by omega) _,aB h.lo (by omega) _⟩
theorem E5 {w:World} {lo n c:Nat} {A:Option Addr} {bs:List UInt8} (h:ou lo w A n c bs) (h0:0<n):∃g cur,A=some ⟨g,0,none⟩/\lo<=g/\n<=c/\c<=maxLen/\AV g 5 cur w/\∀j,j<n->cur[j]? =some (Extern.Stop.cell (bs[j]?.getD 0)):=by
 have hl:bs.length=n:=by have:=h.1;rw [List.length_map] at this;omega
 rcases h.2 with ⟨_,hn⟩|⟨g,cap,cur,hv,hlo,hh,hnc,hcm,_,ht⟩
 ·omega
 ·injection hv with h1 _ h3;subst h3;refine ⟨g,cur,h1,hlo,hnc,hcm,⟨hh⟩,fun j hj=>?_⟩;have e:(cur.toList.take (n*1))[j]? =some (Extern.Stop.cell (bs[j]?.getD 0)):=by rw [ht,List.getElem?_map,bK (by omega)];rfl
  rw [List.getElem?_take_of_lt (by omega)] at e;simpa using e
theorem nK {ops:Array Oper} {rest:List Oper} {o:Oper} {a:Act} {Q:Exit->Act->World->Prop} {w:World} (hgd:o.guard=none) (sl x:Operand)
  (ho:o.op= .call {callee:= .builtin .append,args:= #[sl,x],argTypes:= #[55,55]}) (lo n c:Nat) (A:Option Addr) (bs:List UInt8) (hs:a.eval sl= .slice A n c) (hown:ou lo w A n c bs)
  (B:Nat) (A2:Option Addr) (m c2:Nat) (ds:List UInt8) (hx:a.eval x= .slice A2 m c2) (hl:ds.length=m) (hm:0<m) (hc:aA w B A2 (ds.map Extern.Stop.cell)) (hlen:n+m<=1000000000) (hbase:lo<=w.heap.size)
  (h:∀A' c' w',ou lo w' A' (n+m) c' (bs++ds)->uO (.slice A n c) w (.slice A' (n+m) c') w'->wpList Tryz.prog ops Q rest (a.put o.dst (.slice A' (n+m) c')) w'):wpList Tryz.prog ops Q (o::rest) a w:=by
 obtain ⟨i0,hi,hz0,hz1,hz2⟩:=info_parts lN;obtain ⟨b,off,rfl,_,hcl⟩:=hc.there (by rw [List.length_map];omega);refine wpList_append_own_at _ hgd sl x 55 ho lo 5 i0 (.int .u8 0) 1 1 Tryz.underlying55 hi hz0 hz1 hz2 rfl (by decide) _ n (bs.map Extern.Stop.cell) hs hown ⟨b,off,none⟩ m c2 (ds.map Extern.Stop.cell) hx (by rw [List.length_map];omega) (fun j u hu=>by rw [show (⟨b,off,none⟩:Addr).add j=⟨b,off+j,none⟩ by unfold Addr.add;split<;>simp_all];exact hcl j u hu)
  (fun u hu=>by obtain ⟨y,_,rfl⟩:=List.mem_map.1 hu;rfl) (by unfold maxLen;omega) (by omega) hbase ?_
 intro v' w' hown' hg _ hat;obtain ⟨A',c',rfl⟩:=fD hown';exact h A' c' w' (by unfold ou;rw [List.map_append];exact hown') (uO.app0 hg hat)
structure V2 (w:World) (t:TypeId) (cs:Array Value) (t2:TypeId) (ds:Array Value) (W:World):Prop where
 s:AV w.heap.size t cs W
 r:AV (w.heap.size+1) t2 ds W
 lo:Below w.heap.size w W
theorem V2.start (w:World) (t:TypeId) (cs:Array Value) (t2:TypeId) (ds:Array Value):V2 w t cs t2 ds ((w.alloc (.cells cs t)).alloc (.cells ds t2)):=
 ⟨⟨heap_alloc2_old w _ _⟩,⟨heap_alloc2_new w _ _⟩,ah (ag w _) (ag _ _)⟩
theorem V2.OB {w W W':World} {t t2:TypeId} {cs ds:Array Value} {L:Nat} (h:V2 w t cs t2 ds W) (hb:Below L W W') (hL:w.heap.size+1<L):V2 w t cs t2 ds W':=
 ⟨⟨(hb.block _ (by omega)).trans h.s.var⟩,⟨(hb.block _ (by omega)).trans h.r.var⟩,h.lo.trans (hb.mono (by omega))⟩
theorem V2.grow {w W W':World} {t t2:TypeId} {cs ds:Array Value} (h:V2 w t cs t2 ds W) (hb:Below W.heap.size W W'):V2 w t cs t2 ds W':=h.OB hb h.r.lt
theorem FY.good {t:Tb} (h:FY t) (hp:t.prev.length=32) (hm:t.bP.length=32):TbG t where
 bG:=⟨h.bG.1,by have:=h.bG.2;omega⟩
 version:=h.version
 aO:=h.aO
 prev:=hp
 bP:=hm
 first:=h.first
 num:=by have:=h.num;omega
 good:=fun e he=>⟨(h.aF e he).made,(h.aF e he).ok⟩
 short:=fun e he=>by
  obtain ⟨k,hk⟩:=List.getElem?_of_mem he;rw [h.names k e hk,Dw];omega
theorem FY.up {t:Tb} (h:FY t) {zs:List dw} (hz:t.aF=zs.map (·.e)):FW zs:=by
 intro k x hx;have hk:=(gQ.1 hx).1;have hn:=h.num;rw [hz,List.length_map] at hn;have h1:∀j y,zs[j]? =some y->y.e.name=bW j:=fun j y hy=>h.names j y.e (by rw [hz,List.getElem?_map,hy];rfl);have hl:jG zs k=Cj k:=by
  cases k with
  |zero=>rfl
  |succ k=>
   show (zs[k]?.map (·.e.name)).getD ⟨#[]⟩=bW k;rw [bK (by omega)];exact h1 k _ (bK (by omega))
 rw [h1 k x hx,hl];exact VJ k (by omega)
theorem EP:∀(es:List Ze) (last:ByteArray),(∀e∈es,vg e.z=0/\e.name.size<=32)->(∀k e,es[k]? =some e->mM e.name (if k=0 then last else (es[k - 1]?.map (·.name)).getD ⟨#[]⟩)=false)->eu last es=0
 | [],_,_,_=>rfl
 |x::es,last,h,hn=>by
  obtain ⟨h2,h3⟩:=h x List.mem_cons_self;have h4:mM x.name last=false:=hn 0 x rfl;rw [oZ,if_neg (by rw [h4];rintro (h|h);omega;cases h),if_pos h2];refine EP es x.name (fun e he=>h e (List.mem_cons_of_mem _ he)) fun k e hk=>?_;have h5:=hn (k+1) e hk;rw [if_neg (by omega),Nat.add_sub_cancel] at h5;cases k with
  |zero=>exact h5
  |succ j=>exact h5
theorem Yd {t:Tb} (h:TbG t) {zs:List dw} (hz:t.aF=zs.map (·.e)) (hu:FW zs):mg t=0:=by
 have h1:Wq t=false:=by
  have:=h.bG;have:=h.version;exact decide_eq_false (by omega)
 have h2:Ws t=false:=by
  have:=h.aO;refine decide_eq_false fun hh=>?_;rcases hh with hh|hh|⟨hh,hp⟩
  ·omega
  ·omega
  ·rw [h.first hh] at hp;have:(fU==fU)=true:=by rfl
   rw [this] at hp;cases hp
 unfold mg;rw [h1,h2,if_neg (by decide),if_neg (by decide),if_neg (by have:=h.num;omega)];refine EP _ _ (fun e he=>⟨(h.good e he).2,h.short e he⟩) fun k e hk=>?_;rw [hz,List.getElem?_map] at hk;cases hx:zs[k]? with
 |none=>rw [hx] at hk;cases hk
 |some y=>
  rw [hx] at hk;injection hk with hk;obtain ⟨u1,u2⟩:=hu k y hx;have e1:(if k=0 then (⟨#[]⟩:ByteArray) else (t.aF[k - 1]?.map (·.name)).getD ⟨#[]⟩)=jG zs k:=by
   cases k with
   |zero=>rfl
   |succ j=>
    rw [if_neg (by omega),Nat.add_sub_cancel,hz,List.getElem?_map];show _=(zs[j]?.map (·.e.name)).getD ⟨#[]⟩;cases zs[j]? <;>rfl
  rw [e1];unfold mM;rw [<-hk,u1,u2];rfl
theorem FY.tv {t:Tb} (h:FY t) (hp:t.prev.length=32) (hm:t.bP.length=32) {zs:List dw} (hz:t.aF=zs.map (·.e)):mg t=0:=Yd (h.good hp hm) hz (h.up hz)
theorem xB (x:dF) (w:World) (hx:fV w w.heap.size x) (h:FY x.t):Calls Tryz.prog 30 #[.agg (ai x.t (.slice x.A x.zs.length x.c))] w (PH w x.t):=
 rV x w hx (h.tv hx.prev hx.bP hx.names)
structure jO (M:Nat) (w:World) (rb:Nat) (rest:List UInt8):Prop where
 at_:∃bb off c,w.heap[rb]? =some (.cells #[.slice (some ⟨bb,off,none⟩) rest.length c] 135 (0,0))/\rest.length<=c/\c<=9223372036854775807/\bb<M/\∀j,j<rest.length->w.cell? ⟨bb,off+j,none⟩=some (Extern.Stop.cell (rest[j]?.getD 0))
 lo:M<=rb
theorem jO.lt {M:Nat} {w:World} {rb:Nat} {rest:List UInt8} (h:jO M w rb rest):rb<w.heap.size:=by
 obtain ⟨bb,off,c,h1,_⟩:=h.at_;exact (bV.1 h1).1
theorem jO.of {M:Nat} {w w':World} {rb:Nat} {rest:List UInt8} (h:jO M w rb rest) (h1:w'.heap[rb]? =w.heap[rb]?) (h2:∀k,k<M->w'.heap[k]? =w.heap[k]?):jO M w' rb rest:=by
 obtain ⟨bb,off,c,g1,g2,g3,g4,g5⟩:=h.at_;exact ⟨⟨bb,off,c,h1.trans g1,g2,g3,g4,fun j hj=>(World.cell?_of_block (a:=⟨bb,off+j,none⟩) (h2 bb g4)).trans (g5 j hj)⟩,h.lo⟩
theorem jO.below {M B:Nat} {w w':World} {rb:Nat} {rest:List UInt8} (h:jO M w rb rest) (hb:Below B w w') (hM:rb<B):jO M w' rb rest:=
 h.of (hb.block rb hM) fun k hk=>hb.block k (by have:=h.lo;omega)
theorem jO.drew {M:Nat} {w:World} {rb:Nat} {rest:List UInt8} (h:jO M w rb rest):jO M w.drew rb rest:=h.of rfl fun _ _=>rfl
def GotT (M:Nat) (w:World) (rb n:Nat) (rest:List UInt8) (e:Ending) (w':World):Prop:=
 ∃bb off c,e= .returned (.slice (some ⟨bb,off,none⟩) n c)/\n<=c/\c<=9223372036854775807/\bb<M/\(∀j,j<n->w'.cell? ⟨bb,off+j,none⟩=some (Extern.Stop.cell ((rest.take n)[j]?.getD 0)))/\jO M w' rb (rest.drop n)/\gB rb w w'
theorem O9 {M:Nat} {w:World} {rb bb off' c' n:Nat} {rest:List UInt8} {v:Value} (hM:M<=rb) (h1:w.heap[rb]? =some (.cells #[v] 135 (0,0))) (h2:rest.length - n<=c') (h3:c'<=9223372036854775807) (h4:bb<M)
  (h5:∀j,j<(rest.drop n).length->w.cell? ⟨bb,off'+j,none⟩=some (Extern.Stop.cell ((rest.drop n)[j]?.getD 0))):
  jO M (w.setCell ⟨rb,0,none⟩ (.slice (some ⟨bb,off',none⟩) (rest.length - n) c')) rb (rest.drop n)/\gB rb w (w.setCell ⟨rb,0,none⟩ (.slice (some ⟨bb,off',none⟩) (rest.length - n) c')):=by
 have hd:(rest.drop n).length=rest.length - n:=List.length_drop;refine ⟨⟨⟨bb,off',c',?_,by omega,h3,h4,fun j hj=>?_⟩,hM⟩,⟨rfl,rfl,rfl,by simp [World.setCell],fun k _ hk=>heap_setCell_other w ⟨rb,0,none⟩ k _ hk⟩⟩
 ·rw [heap_setCell_same w rb 0 _ _ _ h1,hd];rfl
 ·exact (World.cell?_of_block (a:=⟨bb,off'+j,none⟩) (heap_setCell_other w ⟨rb,0,none⟩ bb _ (by show bb≠rb;omega))).trans (h5 j hj)
theorem wU (M:Nat) (w:World) (rb n:Nat) (rest:List UInt8) (hr:jO M w rb rest) (hn:n<=rest.length):
  Calls Tryz.prog 186 #[.pointer (some ⟨rb,0,none⟩),I n] w (GotT M w rb n rest):=by
 obtain ⟨⟨bb,off,c,h1,h2,h3,h4,h5⟩,hM⟩:=hr;have hc0:w.cell? ⟨rb,0,none⟩=some (.slice (some ⟨bb,off,none⟩) rest.length c):=cell_of_row w rb 0 _ _ _ h1;have hf0:=frozen_of_row w rb 0 _ _ h1;obtain ⟨m,hm⟩:∃m,rest.length=m:=⟨_,rfl⟩;have HM:=ae hm;have HT:Hid (∀j,j<n->w.cell? ⟨bb,off+j,none⟩=some (Extern.Stop.cell ((rest.take n)[j]?.getD 0))):=ae (fun j hj=>by rw [h5 j (by omega),List.getElem?_take_of_lt (by omega)]);have H5:=ae h5;have H1:=ae h1;rw [hm] at hc0 hn h2;clear h1 h5 hm;have n1:¬(m:Int)<(n:Int):=by omega
 have n2:(0:Int)<=(n:Int):=by omega
 by_cases hcn:c=n
 ·have hmn:m=n:=by omega
  subst hmn;subst hcn;have hS:=O9 (off':=off) (c':=0) (n:=c) (v:= .slice (some ⟨bb,off,none⟩) rest.length c) hM H1.out (by rw [HM.out];omega) (by omega) h4 (fun j hj=>by rw [List.length_drop,HM.out] at hj;omega);rw [HM.out,Nat.sub_self] at hS;have oD:=ae hS;have HT2:Hid (∀j,j<c->(w.setCell ⟨rb,0,none⟩ (.slice (some ⟨bb,off,none⟩) 0 0)).cell? ⟨bb,off+j,none⟩=some (Extern.Stop.cell ((rest.take c)[j]?.getD 0))):=ae fun j hj=>(World.cell?_of_block (a:=⟨bb,off+j,none⟩) (heap_setCell_other w _ bb _ (by show bb≠rb;omega))).trans (HT.out j hj);clear hS;go_enter Tryz.func186,Tryz.ntmps186
  go_wp2
  go_ret;exact ⟨_,_,_,rfl,Nat.le_refl _,h3,h4,HT2.out,oD.out.1,oD.out.2⟩
 ·have hcn2:¬n=c:=fun h=>hcn h.symm;have hS:=O9 (off':=off+n) (c':=c - n) (n:=n) (v:= .slice (some ⟨bb,off,none⟩) rest.length c) hM H1.out (by rw [HM.out];omega) (by omega) h4 (fun j hj=>by
   rw [List.length_drop,HM.out] at hj;rw [Nat.add_assoc,H5.out (n+j) (by rw [HM.out];omega),List.getElem?_drop])
  rw [HM.out] at hS;have oD:=ae hS;have HT2:Hid (∀j,j<n->(w.setCell ⟨rb,0,none⟩ (.slice (some ⟨bb,off+n,none⟩) (m - n) (c - n))).cell? ⟨bb,off+j,none⟩=some (Extern.Stop.cell ((rest.take n)[j]?.getD 0))):=ae fun j hj=>(World.cell?_of_block (a:=⟨bb,off+j,none⟩) (heap_setCell_other w _ bb _ (by show bb≠rb;omega))).trans (HT.out j hj);clear hS;go_enter Tryz.func186,Tryz.ntmps186
  go_wp2
  go_ret;exact ⟨_,_,_,rfl,by omega,h3,h4,HT2.out,oD.out.1,oD.out.2⟩
def hvs (s:Int) (l:List (Nat×UInt8)):Int:=l.foldl (fun s x=>s*256+(x.2.toNat:Int)) s
theorem or_mul (a b:Nat) (h:a<256):(b*256) ||| a=b*256+a:=by
 rw [show b*256=b <<< 8 from by rw [Nat.shiftLeft_eq],Nat.shiftLeft_add_eq_or_of_lt (by omega)]
theorem QX (s:Int) (c:UInt8):Vh s c=(s*256+(c.toNat:Int))%18446744073709551616:=by
 unfold Vh;have hc:=c.toNat_lt;obtain ⟨b,hb⟩:∃b:Nat,IntKind.u64.wrap (s*256)=((b*256:Nat):Int):=by
  rw [show IntKind.u64.wrap (s*256)=(s*256)%18446744073709551616 by simp [IntKind.wrap,IntKind.bits,IntKind.signed]];exact ⟨((s*256)%18446744073709551616 / 256).toNat,by omega⟩
 have hw:((b*256:Nat):Int)=(s*256)%18446744073709551616:=by rw [<-hb];simp [IntKind.wrap,IntKind.bits,IntKind.signed]
 rw [hb,u64_or_nat _ _ (by omega) (by omega),or_mul _ _ (by omega)];omega
theorem Nv (s:Int) (c:UInt8):zt s c=wrap64 (s*256+(c.toNat:Int)):=by
 have hc:=c.toNat_lt;have h1:=QX s c;unfold Vh at h1;have key:∀x y:Int,bits BinOp.or IntKind.i64 (wrap64 x) y=wrap64 (bits BinOp.or IntKind.u64 (IntKind.u64.wrap x) y):=by
  intro x y;have e:BitVec.ofInt 64 (wrap64 x)=BitVec.ofInt 64 (IntKind.u64.wrap x):=by
   apply BitVec.eq_of_toInt_eq;rw [BitVec.toInt_ofInt,BitVec.toInt_ofInt,show IntKind.u64.wrap x=x%18446744073709551616 by simp [IntKind.wrap,IntKind.bits,IntKind.signed]];unfold wrap64;simp only [Int.bmod];omega
  show IntKind.i64.wrap ((BitVec.ofInt 64 (wrap64 x) ||| BitVec.ofInt 64 y).toNat:Int)=wrap64 (IntKind.u64.wrap ((BitVec.ofInt 64 (IntKind.u64.wrap x) ||| BitVec.ofInt 64 y).toNat:Int));rw [e];have hb:=(BitVec.ofInt 64 (IntKind.u64.wrap x) ||| BitVec.ofInt 64 y).isLt;obtain ⟨n,hn⟩:∃n,(BitVec.ofInt 64 (IntKind.u64.wrap x) ||| BitVec.ofInt 64 y).toNat=n:=⟨_,rfl⟩;rw [hn] at hb ⊢;rw [IntKind.wrap_i64,show IntKind.u64.wrap (n:Int)=(n:Int)%18446744073709551616 by simp [IntKind.wrap,IntKind.bits,IntKind.signed]];unfold wrap64;omega
 unfold zt;rw [key,h1];unfold wrap64;omega
theorem Z9 (l:List (Nat×UInt8)):∀s t:Int,s=wrap64 t->l.foldl (fun s x=>zt s x.2) s=wrap64 (hvs t l):=by
 induction l with
 |nil=>intro s t h;exact h
 |cons x l ih=>
  intro s t h;rw [List.foldl_cons];refine ih _ (t*256+(x.2.toNat:Int)) ?_;rw [Nv];unfold wrap64 at*;omega
theorem oV (n:Int):((byteOf n).toNat:Int)=n%256:=by
 have h:=fF n;unfold Extern.Stop.cell at h;injection h
theorem hvs1 (x:Int) (h0:0<=x) (h1:x<256):wrap64 (hvs 0 (upto (bk (le x 1)) 1))=x:=by
 have e:hvs 0 (upto (bk (le x 1)) 1)=0*256+((byteOf x).toNat:Int):=rfl;rw [e];simp only [oV];unfold wrap64;omega
theorem YJ (x:Int) (n:Nat) (R:List UInt8):(le x n++R).take n=le x n:=by
 rw [List.take_append_of_le_length (by rw [aC];exact Nat.le_refl n),List.take_of_length_le (by rw [aC];exact Nat.le_refl n)]
theorem XJ (x:Int) (n:Nat) (R:List UInt8):(le x n++R).drop n=R:=by
 rw [List.drop_append_of_le_length (by rw [aC];exact Nat.le_refl n),List.drop_of_length_le (by rw [aC];exact Nat.le_refl n)];rfl
theorem U6 (x:Int) (n:Nat) (R:List UInt8):tk (le x n++R) false n=le x n/\tkR (le x n++R) false n=R/\tkB (le x n++R) false n=false:=by
 have e:tkB (le x n++R) false n=false:=by
  unfold tkB;rw [Bool.false_or];exact decide_eq_false (by rw [bF,aC];omega)
 unfold tk tkR;rw [e];exact ⟨YJ x n R,XJ x n R,rfl⟩
theorem rdN_1 (x:Int) (h0:0<=x) (h1:x<256) (R:List UInt8):O0 (le x 1++R) false 1=x:=by
 unfold O0 yO;rw [(U6 x 1 R).1,aC,Z9 _ 0 0 (by unfold wrap64;omega)];exact hvs1 x h0 h1
end Go.Proofs.YtbaehbbonkljpaaGreatDoor
