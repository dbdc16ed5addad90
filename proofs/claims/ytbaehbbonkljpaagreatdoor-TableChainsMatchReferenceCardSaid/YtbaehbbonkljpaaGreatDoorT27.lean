/- The texts Ks, Kt, Ku, Kw, Kx, Ky, Kz, La, Qh, Vy, TrA, RsP, in this order. -/
import Derived.Test.YtbaehbbonkljpaaGreatDoorT25
set_option maxRecDepth 10000
set_option maxHeartbeats 8000000
namespace Go.Proofs.YtbaehbbonkljpaaGreatDoor
open Go Go.RowKit
def xb3 (m:Int)(x:au):au:=byteOf (bits BinOp.xor IntKind.u8 x.toNat m)
theorem aoO (x:au)(m:Int):0<=bits BinOp.xor IntKind.u8 x.toNat m/\bits BinOp.xor IntKind.u8 x.toNat m<256:=by
 unfold bits;simp only[IntKind.wrap,IntKind.bits,IntKind.signed];constructor
 ·exact iL _ (by decide)
 ·exact gG _ (by decide)
theorem al7 (m:Int)(x:au):Extern.Stop.cell (xb3 m x)=.int .u8 (bits BinOp.xor IntKind.u8 x.toNat m):=by
 obtain⟨h1,h2⟩:=aoO x m;unfold xb3;rw[LH];congr 1;omega
def Ul (m:Int)(d:ag au):ag au:=d.map (xb3 m)++List.replicate 32 (byteOf m)
theorem U7 (m:Int)(d:ag au)(h:d.length=32):(Ul m d).length=64:=by simp[Ul,h]
theorem akl (m:Int)(h0:0<=m)(h1:m<256):Extern.Stop.cell (byteOf m)=.int .u8 m:=by
 rw[LH];congr 1;omega
theorem abo (m:Int)(d:ag au)(w:ae)(hd:d.length=32)(h0:0<=m)(h1:m<256):
  Calls Tryz.prog 60 #[.agg (JO d).toArray,.int .u8 m] w (BsQ w.heap.size (.slice none 0 0) w (Ul m d)):=by
 obtain⟨i0,hi,hz0,hz1,hz2⟩:=dN Qb;have HI:=JJ hi;have HZ0:=JJ hz0;have HZ1:=JJ hz1;have HZ2:=JJ hz2;clear hi hz0 hz1 hz2;have HF:=JJ (CB.fresh w (JO d).toArray 24);have HD:=JJ hd;obtain⟨xs,hxs⟩:∃l,d.map (xb3 m)=l:=⟨_,rfl⟩;have HXL:Hid (xs.length=32):=JJ (by rw[<-hxs,aI,hd]);have Ud:=JJ hxs;obtain⟨ys,hys⟩:∃l,List.replicate 32 (byteOf m)=l:=⟨_,rfl⟩;have SN:Hid (ys.length=32):=JJ (by rw[<-hys,gz]);have HYS:=JJ hys;have HM:=JJ (akl m h0 h1);clear hd hxs hys;go_enter Tryz.func60,Tryz.ntmps60;go_wp2_with fail
 go_loopw [5,6] (fun b i wr=>adi w.heap.size (.slice none 0 0) w (JO d).toArray (fun k=>xs.take k) 32 b i wr) (fun _ i _=>32 - (intOf i).toNat)
 case atStart=>exact⟨0,0,0,_,aG _,rfl,by go_num,HF.out⟩
 case round=>
  obtain⟨k,n,c,A,hk,rfl,rfl,hb⟩:=hrel;have HB:Hid (CB w.heap.size (.slice none 0 0) w (JO d).toArray (xs.take k) A n c wr):=JJ hb;have hn:n=k:=by rw[<-hb.len];show(xs.take k).length=k;rw[bn,HXL.out];omega
  have hsz:w.heap.size<=wr.heap.size:=hb.keep.size;clear hb;subst hn;by_cases hlt:(n:Int)<32
  ·obtain⟨x,hx⟩:∃x,d[n]? =some x:=⟨_,KL (by rw[HD.out];omega)⟩;have v0:wr.cell? ⟨w.heap.size,n,none⟩=some (.int .u8 (x.toNat:Int)):=by rw[HB.out.row.2 n,eU];unfold JO;rw[aJ,hx];rfl
   have HX:Hid (xs[n]? =some (xb3 m x)):=JJ (by rw[<-Ud.out,aJ,hx];rfl);have HXC:=JJ (al7 m x);clear hx;obtain⟨pre,hpre⟩:∃l,xs.take n=l:=⟨_,rfl⟩;have aaQ:=JJ hpre;rw[hpre] at HB;clear hpre;have HOA:=JJ (fO HB.out.own (.cells #[Value.int .u8 (bits BinOp.xor IntKind.u8 x.toNat m)] 5));go_wp2_with(at_builtin;refine bK _ rfl _ _ 55 rfl w.heap.size 5 i0 (.int .u8 0) 1 1 bC HI.out HZ0.out HZ1.out HZ2.out rfl (by decide) _ n ((pre).map Extern.Stop.cell) rfl HOA.out _ 1 1 [Value.int .u8 (bits BinOp.xor IntKind.u8 x.toNat m)] rfl rfl (jk _ _ _) (WG _) (by unfold maxLen;omega) (by omega) (by simp;omega) ?_);intro v' w3 hown hg _ hat;obtain⟨A',c',rfl⟩:=LU hown;have H2:=JJ (HB.out.grown (bs':=xs.take (n+1)) (by unfold Rh;rw[take_snoc xs n _ HX.out,aaQ.out,bY];show World.ownsRow _ _ _ _ _ _ (_++ [Extern.Stop.cell _]);rw[HXC.out];exact hown) (by rw[bn,HXL.out];omega) hg hat);clear hown hg hat;go_wp2_with fail;go_roundw
   case rel=>exact⟨n+1,n+1,c',A',by omega,rfl,by go_num,H2.out⟩
   case measure=>simp[intOf];omega
  ·have auY:Hid (n=32):=JJ (by omega);have HB3:Hid (CB w.heap.size (.slice none 0 0) w (JO d).toArray (xs++ys.take 0) A n c wr):=JJ (by have hb:=HB.out;rw[auY.out,aU (iT HXL.out),<-auY.out] at hb;simpa using hb);go_wp2_with fail
   go_loopw [5,7] (fun b i wr=>adi w.heap.size (.slice none 0 0) w (JO d).toArray (fun k=>xs++ys.take k) 32 b i wr) (fun _ i _=>32 - (intOf i).toNat)
   case atStart=>exact⟨0,n,c,A,aG _,rfl,by go_num,HB3.out⟩
   case round=>
    clear HB HB3 hsz hk hlt;obtain⟨k,n2,c,A,hk,rfl,rfl,hb⟩:=hrel;have HB:Hid (CB w.heap.size (.slice none 0 0) w (JO d).toArray (xs++ys.take k) A n2 c wr):=JJ hb;have hn:n2=32+k:=by rw[<-hb.len];show(xs++ys.take k).length=32+k;rw[KN,bn,HXL.out,SN.out];omega
    have hsz:w.heap.size<=wr.heap.size:=hb.keep.size;clear hb;subst hn;by_cases hlt:(k:Int)<32
    ·have HX:Hid (ys[k]? =some (byteOf m)):=JJ (by rw[<-HYS.out,mg,bD (by omega)]);obtain⟨pre,hpre⟩:∃l,xs++ys.take k=l:=⟨_,rfl⟩;have aaQ:=JJ hpre;rw[hpre] at HB;clear hpre;have HOA:=JJ (fO HB.out.own (.cells #[Value.int .u8 m] 5));go_wp2_with(at_builtin;refine bK _ rfl _ _ 55 rfl w.heap.size 5 i0 (.int .u8 0) 1 1 bC HI.out HZ0.out HZ1.out HZ2.out rfl (by decide) _ (32+k) ((pre).map Extern.Stop.cell) rfl HOA.out _ 1 1 [Value.int .u8 m] rfl rfl (jk _ _ _) (WG _) (by unfold maxLen;omega) (by omega) (by simp;omega) ?_);intro v' w3 hown hg _ hat;obtain⟨A',c',rfl⟩:=LU hown;have H2:=JJ (HB.out.grown (bs':=xs++ys.take (k+1)) (n':=32+k+1) (by unfold Rh;rw[take_snoc ys k _ HX.out,<-aH,aaQ.out,bY];show World.ownsRow _ _ _ _ _ _ (_++ [Extern.Stop.cell _]);rw[HM.out];exact hown) (by rw[KN,bn,HXL.out,SN.out];omega) hg hat);clear hown hg hat;go_wp2_with fail;go_roundw
     case rel=>exact⟨k+1,32+k+1,c',A',by omega,rfl,by go_num,H2.out⟩
     case measure=>simp[intOf];omega
    ·have HN:Hid (k=32):=JJ (by omega);go_wp2_with fail;go_ret;have hb:=HB.out;have hk:=HN.out;subst hk;rw[aU (iT SN.out),<-Ud.out,<-HYS.out] at hb;exact⟨A,64,c,U7 m d HD.out,rfl,hb.own,hb.keep⟩
structure PB (v0:ah)(w:ae)(bs:ag au)(A:aj Addr)(n c:Nat)(W:ae):Prop where
 own:Rh w.heap.size W A n c bs
 len:bs.length=n
 keep:Vu v0 w (.slice A n c) W
theorem PB.grown {n c n' c':Nat}{v0:ah}{A A':aj Addr}{w W W':ae}{o:Obj}{bs bs':ag au}(h:PB v0 w bs A n c W)(hO:Rh w.heap.size W' A' n' c' bs')(hl:bs'.length=n')(hg:(W.alloc o).grownBy W' (Value.slice A n c).ownBlock)(hat:(Value.slice A' n' c').ownBlock=(Value.slice A n c).ownBlock\/(Value.slice A' n' c').ownBlock=some (W.heap.size+1)):PB v0 w bs' A' n' c' W':=
 ⟨hO,hl,h.keep.trans (Vu.app hg (hat.imp id fun e=>e.trans (by simp)))⟩
def lenV:ah->Nat
 | .slice _ m _=>m
 |_=>0
def acy (n:Nat):Nat:=(120 - (n+1)%64)%64
theorem ad7 (n:Nat):(n+1+acy n)%64=56:=by unfold acy;omega
theorem ahk (n:Nat):acy n<64:=jE _ (by omega)
theorem PB.fresh {w W:ae}{A:aj Addr}{n c:Nat}{bs:ag au}(h:Rh w.heap.size W A n c bs)(hl:bs.length=n)(hg:(w.alloc (.cells #[] 5)).grownBy W (some w.heap.size))(hat:(Value.slice A n c).ownBlock=some w.heap.size\/(Value.slice A n c).ownBlock=some (w.heap.size+1)):PB (.slice none 0 0) w bs A n c W:=by
 refine⟨h,hl,hg.os,hg.tape,hg.output,aO (by simp) hg.size,fun k hk _=>(hg.block k (by simp;omega) (fun e=>by injection e;omega)).trans (aV w _ k hk),.inr ?_⟩;rcases hat with e|e
 ·exact⟨_,e,by omega⟩
 ·exact⟨_,e,by omega⟩
def MC (x n:Int):Int:=bits BinOp.or IntKind.u32 (x / 2 ^ n.toNat) (x*2 ^ (32 - n).toNat%4294967296)
theorem alW (x n:Int)(w:ae)(h0:0<n)(h1:n<32):
  Calls Tryz.prog 102 #[.int .u32 x,I n] w fun e w'=>e=.returned (.int .u32 (MC x n))/\∃k,w'=w.drewN k:=by
 have h2:0<=32 - n:=by omega
 have h3:IntKind.i64.wrap (32 - n)=32 - n:=by rw[aA];omega
 go_enter Tryz.func102,Tryz.ntmps102;go_wp2_with fail;go_quiet (fail);go_wp2_with fail;go_ret;exact⟨rfl,_,rfl⟩
def Qm:ag Int:= [1116352408,1899447441,3049323471,3921009573,961987163,1508970993,2453635748,2870763221,3624381080,310598401,607225278,1426881987,1925078388,2162078206,2614888103,3248222580,3835390401,4022224774,264347078,604807628,770255983,1249150122,1555081692,1996064986,2554220882,2821834349,2952996808,3210313671,3336571891,3584528711,113926993,338241895,666307205,773529912,1294757372,1396182291,1695183700,1986661051,2177026350,2456956037,2730485921,2820302411,3259730800,3345764771,3516065817,3600352804,4094571909,275423344,430227734,506948616,659060556,883997877,958139571,1322822218,1537002063,1747873779,1955562222,2024104815,2227730452,2361852424,2428436474,2756734187,3204031479,3329325298]
def aeG (l:ag Int):ax ah:=(l.map (Value.int .u32)).toArray
theorem alY (l:ag Int):(aeG l).all (·.oneCell')=true:=by
 unfold aeG;rw[Array.all_eq_true'];intro u hu;simp only[List.mem_toArray,fJ] at hu;obtain⟨x,_,rfl⟩:=hu;rfl
theorem alB (w:ae):Calls Tryz.prog 101 #[] w (Gives (.agg (aeG Qm)) w):=by
 go_enter Tryz.func101,Tryz.ntmps101;go_wp2_with((with_reducible refine KZ 190 ?_);refine aB rfl _ _ _ rfl w.heap.size (aeG Qm) rfl rfl 190 (aeG (List.replicate 64 0)) (aF w _) (by kernel_rfl) rfl (alY _) ?_);refine aX (v:=.agg (aeG Qm)) (dH rfl _ _ w.heap.size _ (aeG Qm) (0,0) _ rfl (aQ _ _ _ _ _ _ (aF w _)) iD rfl (by kernel_rfl)) rfl ?_;exact⟨rfl,eH (JM w _) (ay _) _⟩
theorem aoN (l:ag Int):aeG l=JP l:=rfl
theorem aam (x n:Int)(w:ae)(k:Nat)(h0:0<n)(h1:n<32):Calls Tryz.prog 102 #[.int .u32 x,I n] (w.drewN k) fun e w''=>e=.returned (.int .u32 (MC x n))/\∃m,w''=w.drewN m:=
 Calls.quiet_of (alW x n _ h0 h1)
structure ScY (w:ae)(zs:ag Int)(wr:ae):Prop where
 var:AV (w.heap.size+1) 190 (JP zs) wr
 res:AV w.heap.size 190 (JP (List.replicate 64 0)) wr
 lo:ai w.heap.size w wr
theorem ScY.drew {w wr:ae}{zs:ag Int}(h:ScY w zs wr):ScY w zs wr.drew:=⟨h.var.drew,h.res.drew,h.lo.drew⟩
theorem ScY.put {w wr:ae}{zs:ag Int}(h:ScY w zs wr)(i:Nat)(z:Int):ScY w (zs.set i z) (wr.setCell ⟨w.heap.size+1,i,none⟩ (.int .u32 z)):=
 ⟨by rw[<-Us];exact h.var.put i _,h.res.far (by omega) _ _,h.lo.setCell (p:=⟨w.heap.size+1,i,none⟩) (bV _) _⟩
theorem ScY.drewN {w wr:ae}{zs:ag Int}(h:ScY w zs wr)(n:Nat):ScY w zs (wr.drewN n):=⟨⟨h.var.var⟩,⟨h.res.var⟩,⟨h.lo.os,h.lo.tape,h.lo.output,h.lo.size,h.lo.block⟩⟩
theorem Vt:(Tryz.prog.info? 155).map (fun i=>(i.zero,i.size))=some (some (.agg (JP (List.replicate 8 0))),(JP (List.replicate 8 0)).size):=by kernel_rfl
theorem ZF {t:ag Int}(h:t.length=8):∃a b c d e f g i,t= [a,b,c,d,e,f,g,i]:=by
 match t,h with
 | [a,b,c,d,e,f,g,i],_=>exact⟨a,b,c,d,e,f,g,i,rfl⟩
structure St0 (w:ae)(cs:ax ah)(W:ae):Prop where
 s:AV w.heap.size 155 cs W
 r:AV (w.heap.size+1) 155 (JP (List.replicate 8 0)) W
 lo:ai w.heap.size w W
theorem St0.start (w:ae)(cs:ax ah):St0 w cs ((w.alloc (.cells cs 155)).alloc (.cells (JP (List.replicate 8 0)) 155)):=
 ⟨⟨dJ w _ _⟩,⟨bW w _ _⟩,JL (JM w _) (JM _ _)⟩
theorem St0.grow {w W W':ae}{cs:ax ah}(h:St0 w cs W)(hb:ai W.heap.size W W'):St0 w cs W':=
 ⟨h.s.below hb,h.r.below hb,JL h.lo hb⟩
structure Zm (w:ae)(wb:Nat)(cs ts ws ks:ax ah)(W:ae):Prop where
 b:St0 w cs W
 hw:w.heap.size+2<=wb
 w:AV wb 190 ws W
 k:AV (wb+1) 190 ks W
 t:AV (wb+2) 155 ts W
theorem Zm.drewN {w W:ae}{wb:Nat}{cs ts ws ks:ax ah}(h:Zm w wb cs ts ws ks W)(n:Nat):Zm w wb cs ts ws ks (W.drewN n):=
 ⟨⟨⟨h.b.s.var⟩,⟨h.b.r.var⟩,⟨h.b.lo.os,h.b.lo.tape,h.b.lo.output,h.b.lo.size,h.b.lo.block⟩⟩,h.hw,⟨h.w.var⟩,⟨h.k.var⟩,⟨h.t.var⟩⟩
theorem Zm.drew {w W:ae}{wb:Nat}{cs ts ws ks:ax ah}(h:Zm w wb cs ts ws ks W):Zm w wb cs ts ws ks W.drew:=
 ⟨⟨⟨h.b.s.var⟩,⟨h.b.r.var⟩,⟨h.b.lo.os,h.b.lo.tape,h.b.lo.output,h.b.lo.size,h.b.lo.block⟩⟩,h.hw,⟨h.w.var⟩,⟨h.k.var⟩,⟨h.t.var⟩⟩
theorem Zm.row {w W:ae}{wb:Nat}{cs ts ws ks:ax ah}(h:Zm w wb cs ts ws ks W)(ds:ax ah):Zm w wb cs ds ws ks (W.setRow (wb+2) ds):=by
 have hw:=h.hw;exact⟨⟨h.b.s.UA (by omega) _,h.b.r.UA (by omega) _,JR h.b.lo (by omega) _⟩,h.hw,h.w.UA (by omega) _,h.k.UA (by omega) _,h.t.SA _⟩
theorem Zm.put {w W:ae}{wb:Nat}{cs ws ks:ax ah}{zs:ag Int}(h:Zm w wb cs (JP zs) ws ks W)(i:Nat)(z:Int):Zm w wb cs (JP (zs.set i z)) ws ks (W.setCell ⟨wb+2,i,none⟩ (.int .u32 z)):=by
 have hw:=h.hw;exact⟨⟨h.b.s.far (by omega) _ _,h.b.r.far (by omega) _ _,h.b.lo.setCell (p:=⟨wb+2,i,none⟩) (show w.heap.size<=wb+2 by omega) _⟩,h.hw,h.w.far (by omega) _ _,h.k.far (by omega) _ _,by rw[<-Us];exact h.t.put i _⟩
theorem Zm.start {w W:ae}{cs:ax ah}(h:St0 w cs W)(ws ks zs:ax ah):Zm w W.heap.size cs cs ws ks ((((((W.alloc (.cells zs 190)).alloc (.cells zs 190)).setRow W.heap.size ws).setRow (W.heap.size+1) ks).alloc (.cells (JP (List.replicate 8 0)) 155)).setRow (W.heap.size+2) cs):=by
 obtain⟨W1,hW1⟩:∃W1,W.alloc (.cells zs 190)=W1:=⟨_,rfl⟩;have s1:W1.heap.size=W.heap.size+1:=by rw[<-hW1];simp
 have b1:ai W.heap.size W W1:=by rw[<-hW1];exact JM W _
 have a1:AV W.heap.size 190 zs W1:=by rw[<-hW1];exact AV.new W _ _
 rw[hW1];obtain⟨W2,hW2⟩:∃W2,W1.alloc (.cells zs 190)=W2:=⟨_,rfl⟩;have b2:ai W1.heap.size W1 W2:=by rw[<-hW2];exact JM W1 _
 have s2:W2.heap.size=W.heap.size+2:=by rw[<-hW2];simp;omega
 have a2:AV (W.heap.size+1) 190 zs W2:=by rw[<-hW2,<-s1];exact AV.new W1 _ _
 rw[hW2];obtain⟨W3,hW3⟩:∃W3,W2.setRow W.heap.size ws=W3:=⟨_,rfl⟩;have s3:W3.heap.size=W.heap.size+2:=by rw[<-hW3,<-s2];simp[World.setRow]
 have b3:ai W.heap.size W W3:=by rw[<-hW3];exact JR (b1.trans (b2.mono (by omega))) (ay _) _
 have a3:AV W.heap.size 190 ws W3:=by rw[<-hW3];exact(a1.below b2).SA _
 have a3':AV (W.heap.size+1) 190 zs W3:=by rw[<-hW3];exact a2.UA (by omega) _
 rw[hW3];obtain⟨W4,hW4⟩:∃W4,W3.setRow (W.heap.size+1) ks=W4:=⟨_,rfl⟩;have s4:W4.heap.size=W.heap.size+2:=by rw[<-hW4,<-s3];simp[World.setRow]
 have b4:ai W.heap.size W W4:=by rw[<-hW4];exact JR b3 (by omega) _
 have a4:AV W.heap.size 190 ws W4:=by rw[<-hW4];exact a3.UA (by omega) _
 have a4':AV (W.heap.size+1) 190 ks W4:=by rw[<-hW4];exact a3'.SA _
 rw[hW4];have b5:=JM W4 (.cells (JP (List.replicate 8 0)) 155);have a5:=AV.new W4 (JP (List.replicate 8 0)) 155;rw[s4] at a5;have hl:=h.lo.size;have hr:=h.r.lt;exact⟨⟨((h.s.below b4).below b5).UA (by have:=h.s.lt;omega) _,((h.r.below b4).below b5).UA (by omega) _,JR (JL h.lo (b4.trans (b5.mono (by omega)))) (by omega) _⟩,by omega,(a4.below b5).UA (by omega) _,(a4'.below b5).UA (by omega) _,a5.SA _⟩
theorem aet (W:ae)(zs ws ks:ax ah):((((W.alloc (.cells zs 190)).alloc (.cells zs 190)).setRow W.heap.size ws).setRow (W.heap.size+1) ks).heap.size=W.heap.size+2:=by simp[World.setRow]
theorem aiU (W:ae)(zs ws ks:ax ah):ai W.heap.size W ((((W.alloc (.cells zs 190)).alloc (.cells zs 190)).setRow W.heap.size ws).setRow (W.heap.size+1) ks):=
 JR (JR (JL (JM W _) (JM _ _)) (ay _) _) (bV _) _
theorem aoC {w W:ae}{cs:ax ah}(h:St0 w cs W)(zs ws ks:ax ah):MS ((((W.alloc (.cells zs 190)).alloc (.cells zs 190)).setRow W.heap.size ws).setRow (W.heap.size+1) ks) w.heap.size cs:=(h.s.below (aiU W zs ws ks)).Nc
theorem aoD (W:ae)(zs ws ks cs:ax ah):(((((W.alloc (.cells zs 190)).alloc (.cells zs 190)).setRow W.heap.size ws).setRow (W.heap.size+1) ks).alloc (.cells cs 155)).heap[W.heap.size+2]? =some (.cells cs 155 (0,0)):=by
 rw[<-aet W zs ws ks];exact aF _ _
section
variable {P:Program}{ops:ax Oper}{a:Act}{w:ae}{rest:ag Oper}{o:Oper}
theorem YF {Q:Act->Prop}(hw:Region.wanted o (yielded ops a.tmps)=true)(ty:TypeId)(x:Operand)(ho:o.op=.load ty x)(g:Nat)(hx:a.eval x=.pointer (some ⟨g,0,none⟩))(cs:ax ah)(hr:MS w g cs)
  (d:TypeDesc)(hu:P.underlying ty=some d)(hd:d.isRow=true)(hi:(P.info? ty).map (·.size)=some cs.size)
  (h:wpStill P ops w Q rest (a.put o.dst (.agg cs))):wpStill P ops w Q (o::rest) a:=by
 refine wpStill_step fun K hK=>?_;rw[bD hw];have hc:w.rangeAt g 0 cs.toList:=fun j v hv=>by rw[aT,hr.2 j];simpa using hv
 unfold Oper.still execOp;simp only[ho,hx,Instr.loadAt,Instr.sureAddr,fH,jF,dX,lu w g 0 ty cs.toList d hc hu hd (by rw[hi];simp)];exact⟨rfl,hK _ (by simpa using h)⟩
end
def cD (bs:ag au):ax ah:=(JO bs).toArray
theorem OW (bs:ag au):(cD bs).size=bs.length:=by simp[cD,JO]
theorem Uo (bs:ag au):(cD bs).all (·.oneCell')=true:=by
 rw[dS];intro v hv;have h:v∈bs.map Extern.Stop.cell:=by simpa[cD,JO] using hv
 obtain⟨x,_,rfl⟩:=fJ.1 h;rfl
theorem arB (bs:ag au)(i:Nat)(x:au):(cD bs).setIfInBounds i (Extern.Stop.cell x)=cD (bs.set i x):=by
 simp[cD,JO,List.map_set]
theorem arA (bs:ag au)(i:Nat)(h:i<bs.length):(cD bs)[i]? =some (Extern.Stop.cell (bs[i]?.getD 0)):=by
 simp[cD,JO,h]
def d32:ag au:=List.replicate 32 0
theorem TN:(Tryz.prog.info? 24).map (fun i=>(i.zero,i.size))=some (some (.agg (cD d32)),(cD d32).size):=by kernel_rfl
theorem Xe:d32.length=32:=by simp[d32]
def iv3:ag Int:= [1779033703,3144134277,1013904242,2773480762,1359893119,2600822924,528734635,1541459225]
structure SmS (w:ae)(zs:ag Int)(W:ae):Prop where
 r:AV w.heap.size 24 (cD d32) W
 s:AV (w.heap.size+1) 155 (JP zs) W
 lo:ai w.heap.size w W
theorem SmS.start (w:ae)(z:ag Int):SmS w iv3 (((w.alloc (.cells (cD d32) 24)).alloc (.cells (JP z) 155)).setRow (w.heap.size+1) (JP iv3)):=
 ⟨⟨(cZ _ _ _ _ (by omega)).trans (dJ w _ _)⟩,⟨aQ _ _ _ _ _ _ (bW w _ _)⟩,JR (JL (JM w _) (JM _ _)) (bV _) _⟩
theorem SmS.grow {w W W':ae}{zs:ag Int}(h:SmS w zs W)(hb:ai W.heap.size W W'):SmS w zs W':=⟨h.r.below hb,h.s.below hb,JL h.lo hb⟩
theorem SmS.row {w W:ae}{zs:ag Int}(h:SmS w zs W)(ds:ag Int):SmS w ds (W.setRow (w.heap.size+1) (JP ds)):=
 ⟨h.r.UA (by omega) _,h.s.SA _,JR h.lo (bV _) _⟩
theorem SmS.drew {w W:ae}{zs:ag Int}(h:SmS w zs W):SmS w zs W.drew:=⟨⟨h.r.var⟩,⟨h.s.var⟩,⟨h.lo.os,h.lo.tape,h.lo.output,h.lo.size,h.lo.block⟩⟩
theorem SmS.far {w W:ae}{zs:ag Int}(h:SmS w zs W)(b:Nat)(hb:w.heap.size+1<b)(o:Nat)(v:ah):SmS w zs (W.setCell ⟨b,o,none⟩ v):=
 ⟨h.r.far (by omega) _ _,h.s.far (by omega) _ _,h.lo.setCell (p:=⟨b,o,none⟩) (show w.heap.size<=b by omega) _⟩
theorem SmS.arF {w W:ae}{zs:ag Int}(h:SmS w zs W)(b:Nat)(hb:w.heap.size+1<b)(cs:ax ah):SmS w zs (W.setRow b cs):=
 ⟨h.r.UA (by omega) _,h.s.UA (by omega) _,JR h.lo (by omega) _⟩
theorem abE {w:ae}{lo n c:Nat}{A:aj Addr}{bs:ag au}(h:Rh lo w A n c bs)(h0:0<n):∃g cur,A=some ⟨g,0,none⟩/\lo<=g/\n<=c/\c<=maxLen/\AV g 5 cur w/\∀j,j<n->cur[j]? =some (Extern.Stop.cell (bs[j]?.getD 0)):=by
 have hl:bs.length=n:=by have:=h.1;rw[aI] at this;omega
 rcases h.2 with ⟨_,hn⟩|⟨g,cap,cur,hv,hlo,hh,hnc,hcm,_,ht⟩
 ·omega
 ·injection hv with h1 _ h3;subst h3;refine⟨g,cur,h1,hlo,hnc,hcm,⟨hh⟩,fun j hj=>?_⟩;have e:(cur.toList.take (n*1))[j]? =some (Extern.Stop.cell (bs[j]?.getD 0)):=by rw[ht,aJ,KL (by omega)];rfl
  rw[dK (by omega)] at e;simpa using e
theorem OO {ops:ax Oper}{rest:ag Oper}{o:Oper}{a:Act}{Q:Exit->Act->ae->Prop}{w:ae}(hgd:o.guard=none)(sl x:Operand)
  (ho:o.op=.call {callee:=.builtin .append,args:= #[sl,x],argTypes:= #[55,55]})(lo n c:Nat)(A:aj Addr)(bs:ag au)(hs:a.eval sl=.slice A n c)(hown:Rh lo w A n c bs)
  (B:Nat)(A2:aj Addr)(m c2:Nat)(ds:ag au)(hx:a.eval x=.slice A2 m c2)(hl:ds.length=m)(hm:0<m)(hc:JS w B A2 (ds.map Extern.Stop.cell))(hlen:n+m<=1000000000)(hbase:lo<=w.heap.size)
  (h:∀A' c' w',Rh lo w' A' (n+m) c' (bs++ds)->Vu (.slice A n c) w (.slice A' (n+m) c') w'->wpList Tryz.prog ops Q rest (a.put o.dst (.slice A' (n+m) c')) w'):wpList Tryz.prog ops Q (o::rest) a w:=by
 obtain⟨i0,hi,hz0,hz1,hz2⟩:=dN Qb;obtain⟨b,off,rfl,_,hcl⟩:=hc.there (by rw[aI];omega);refine bK _ hgd sl x 55 ho lo 5 i0 (.int .u8 0) 1 1 bC hi hz0 hz1 hz2 rfl (by decide) _ n (bs.map Extern.Stop.cell) hs hown ⟨b,off,none⟩ m c2 (ds.map Extern.Stop.cell) hx (by rw[aI];omega) (fun j u hu=>by rw[show(⟨b,off,none⟩:Addr).add j=⟨b,off+j,none⟩ by unfold Addr.add;split<;>simp_all];exact hcl j u hu)
  (fun u hu=>by obtain⟨y,_,rfl⟩:=fJ.1 hu;rfl) (by unfold maxLen;omega) (by omega) hbase ?_
 intro v' w' hown' hg _ hat;obtain⟨A',c',rfl⟩:=LU hown';exact h A' c' w' (by unfold Rh;rw[bY];exact hown') (Vu.app0 hg hat)
structure V2 (w:ae)(t:TypeId)(cs:ax ah)(t2:TypeId)(ds:ax ah)(W:ae):Prop where
 s:AV w.heap.size t cs W
 r:AV (w.heap.size+1) t2 ds W
 lo:ai w.heap.size w W
theorem V2.start (w:ae)(t:TypeId)(cs:ax ah)(t2:TypeId)(ds:ax ah):V2 w t cs t2 ds ((w.alloc (.cells cs t)).alloc (.cells ds t2)):=
 ⟨⟨dJ w _ _⟩,⟨bW w _ _⟩,JL (JM w _) (JM _ _)⟩
theorem V2.abx {w W W':ae}{t t2:TypeId}{cs ds:ax ah}{L:Nat}(h:V2 w t cs t2 ds W)(hb:ai L W W')(hL:w.heap.size+1<L):V2 w t cs t2 ds W':=
 ⟨⟨(hb.block _ (by omega)).trans h.s.var⟩,⟨(hb.block _ (by omega)).trans h.r.var⟩,h.lo.trans (hb.mono (by omega))⟩
theorem V2.grow {w W W':ae}{t t2:TypeId}{cs ds:ax ah}(h:V2 w t cs t2 ds W)(hb:ai W.heap.size W W'):V2 w t cs t2 ds W':=h.abx hb h.r.lt
theorem YP.good {t:Tb}(h:YP t)(hp:t.prev.length=32)(hm:t.Ku.length=32):TbG t where
 J5:=⟨h.J5.1,by have:=h.J5.2;omega⟩
 version:=h.version
 JU:=h.JU
 prev:=hp
 Ku:=hm
 first:=h.first
 num:=by have:=h.num;omega
 good:=fun e he=>⟨(h.JX e he).made,(h.JX e he).ok⟩
 short:=fun e he=>by
  obtain⟨k,hk⟩:=fU he;rw[h.names k e hk,aaB];omega
theorem YP.up {t:Tb}(h:YP t){zs:ag L9}(hz:t.JX=zs.map (·.e)):OV zs:=by
 intro k x hx;have hk:=(MF.1 hx).1;have hn:=h.num;rw[hz,aI] at hn;have h1:∀j y,zs[j]? =some y->y.e.name=QG j:=fun j y hy=>h.names j y.e (by rw[hz,aJ,hy];rfl);have hl:NG zs k=Z7 k:=by
  cases k with
  |zero=>rfl
  |succ k=>
   show(zs[k]?.map (·.e.name)).getD ⟨#[]⟩=QG k;rw[KL (by omega)];exact h1 k _ (KL (by omega))
 rw[h1 k x hx,hl];exact amn k (by omega)
theorem abt:∀(es:ag Ze) (last:ByteArray),(∀e∈es,VH e.z=0/\e.name.size<=32)->(∀k e,es[k]? =some e->QM e.name (if k=0 then last else (es[k - 1]?.map (·.name)).getD ⟨#[]⟩)=false)->Mc last es=0
 | [],_,_,_=>rfl
 |x::es,last,h,hn=>by
  obtain⟨h2,h3⟩:=h x gI;have h4:QM x.name last=false:=hn 0 x rfl;rw[Si,bP (by rw[h4];rintro(h|h);omega;cases h),bD h2];refine abt es x.name (fun e he=>h e (iE _ he)) fun k e hk=>?_;have h5:=hn (k+1) e hk;rw[bP (by omega),iC] at h5;cases k with
  |zero=>exact h5
  |succ j=>exact h5
theorem aod {t:Tb}(h:TbG t){zs:ag L9}(hz:t.JX=zs.map (·.e))(hu:OV zs):O0 t=0:=by
 have h1:tv1 t=false:=by
  have:=h.J5;have:=h.version;exact bT (by omega)
 have h2:tv2 t=false:=by
  have:=h.JU;refine bT fun hh=>?_;rcases hh with hh|hh|⟨hh,hp⟩
  ·omega
  ·omega
  ·rw[h.first hh] at hp;have:(KA==KA)=true:=by rfl
   rw[this] at hp;cases hp
 unfold O0;rw[h1,h2,bP (by decide),bP (by decide),bP (by have:=h.num;omega)];refine abt _ _ (fun e he=>⟨(h.good e he).2,h.short e he⟩) fun k e hk=>?_;rw[hz,aJ] at hk;cases hx:zs[k]? with
 |none=>rw[hx] at hk;cases hk
 |some y=>
  rw[hx] at hk;injection hk with hk;obtain⟨u1,u2⟩:=hu k y hx;have e1:(if k=0 then (⟨#[]⟩:ByteArray) else (t.JX[k - 1]?.map (·.name)).getD ⟨#[]⟩)=NG zs k:=by
   cases k with
   |zero=>rfl
   |succ j=>
    rw[bP (by omega),iC,hz,aJ];show _=(zs[j]?.map (·.e.name)).getD ⟨#[]⟩;cases zs[j]? <;>rfl
  rw[e1];unfold QM;rw[<-hk,u1,u2];rfl
theorem YP.tv {t:Tb}(h:YP t)(hp:t.prev.length=32)(hm:t.Ku.length=32){zs:ag L9}(hz:t.JX=zs.map (·.e)):O0 t=0:=aod (h.good hp hm) hz (h.up hz)
theorem Xj (x:Kv)(w:ae)(hx:Ld w w.heap.size x)(h:YP x.t):Calls Tryz.prog 30 #[.agg (JK x.t (.slice x.A x.zs.length x.c))] w (ahS w x.t):=
 Uz x w hx (h.tv hx.prev hx.Ku hx.names)
structure PV (M:Nat)(w:ae)(rb:Nat)(rest:ag au):Prop where
 at_:∃bb off c,w.heap[rb]? =some (.cells #[.slice (some ⟨bb,off,none⟩) rest.length c] 135 (0,0))/\rest.length<=c/\c<=9223372036854775807/\bb<M/\∀j,j<rest.length->w.cell? ⟨bb,off+j,none⟩=some (Extern.Stop.cell (rest[j]?.getD 0))
 lo:M<=rb
theorem PV.lt {M:Nat}{w:ae}{rb:Nat}{rest:ag au}(h:PV M w rb rest):rb<w.heap.size:=by
 obtain⟨bb,off,c,h1,_⟩:=h.at_;exact(KY.1 h1).1
theorem PV.of {M:Nat}{w w':ae}{rb:Nat}{rest:ag au}(h:PV M w rb rest)(h1:w'.heap[rb]? =w.heap[rb]?)(h2:∀k,k<M->w'.heap[k]? =w.heap[k]?):PV M w' rb rest:=by
 obtain⟨bb,off,c,g1,g2,g3,g4,g5⟩:=h.at_;exact⟨⟨bb,off,c,h1.trans g1,g2,g3,g4,fun j hj=>(bI (a:=⟨bb,off+j,none⟩) (h2 bb g4)).trans (g5 j hj)⟩,h.lo⟩
theorem PV.below {M B:Nat}{w w':ae}{rb:Nat}{rest:ag au}(h:PV M w rb rest)(hb:ai B w w')(hM:rb<B):PV M w' rb rest:=
 h.of (hb.block rb hM) fun k hk=>hb.block k (by have:=h.lo;omega)
theorem PV.drew {M:Nat}{w:ae}{rb:Nat}{rest:ag au}(h:PV M w rb rest):PV M w.drew rb rest:=h.of rfl fun _ _=>rfl
def atX (M:Nat)(w:ae)(rb n:Nat)(rest:ag au)(e:Ending)(w':ae):Prop:=
 ∃bb off c,e=.returned (.slice (some ⟨bb,off,none⟩) n c)/\n<=c/\c<=9223372036854775807/\bb<M/\(∀j,j<n->w'.cell? ⟨bb,off+j,none⟩=some (Extern.Stop.cell ((rest.take n)[j]?.getD 0)))/\PV M w' rb (rest.drop n)/\NL rb w w'
theorem ahC {M:Nat}{w:ae}{rb bb off' c' n:Nat}{rest:ag au}{v:ah}(hM:M<=rb)(h1:w.heap[rb]? =some (.cells #[v] 135 (0,0)))(h2:rest.length - n<=c')(h3:c'<=9223372036854775807)(h4:bb<M)
  (h5:∀j,j<(rest.drop n).length->w.cell? ⟨bb,off'+j,none⟩=some (Extern.Stop.cell ((rest.drop n)[j]?.getD 0))):
  PV M (w.setCell ⟨rb,0,none⟩ (.slice (some ⟨bb,off',none⟩) (rest.length - n) c')) rb (rest.drop n)/\NL rb w (w.setCell ⟨rb,0,none⟩ (.slice (some ⟨bb,off',none⟩) (rest.length - n) c')):=by
 have hd:(rest.drop n).length=rest.length - n:=iH;refine⟨⟨⟨bb,off',c',?_,by omega,h3,h4,fun j hj=>?_⟩,hM⟩,⟨rfl,rfl,rfl,by simp[World.setCell],fun k _ hk=>aN w ⟨rb,0,none⟩ k _ hk⟩⟩
 ·rw[bJ w rb 0 _ _ _ h1,hd];rfl
 ·exact(bI (a:=⟨bb,off'+j,none⟩) (aN w ⟨rb,0,none⟩ bb _ (by show bb≠rb;omega))).trans (h5 j hj)
theorem WE (M:Nat)(w:ae)(rb n:Nat)(rest:ag au)(hr:PV M w rb rest)(hn:n<=rest.length):
  Calls Tryz.prog 186 #[.pointer (some ⟨rb,0,none⟩),I n] w (atX M w rb n rest):=by
 obtain⟨⟨bb,off,c,h1,h2,h3,h4,h5⟩,hM⟩:=hr;have hc0:w.cell? ⟨rb,0,none⟩=some (.slice (some ⟨bb,off,none⟩) rest.length c):=aC w rb 0 _ _ _ h1;have hf0:=aP w rb 0 _ _ h1;obtain⟨m,hm⟩:∃m,rest.length=m:=⟨_,rfl⟩;have HM:=JJ hm;have HT:Hid (∀j,j<n->w.cell? ⟨bb,off+j,none⟩=some (Extern.Stop.cell ((rest.take n)[j]?.getD 0))):=JJ (fun j hj=>by rw[h5 j (by omega),dK (by omega)]);have H5:=JJ h5;have H1:=JJ h1;rw[hm] at hc0 hn h2;clear h1 h5 hm;have n1:¬(m:Int)<(n:Int):=by omega
 have n2:(0:Int)<=(n:Int):=by omega
 by_cases hcn:c=n
 ·have hmn:m=n:=by omega
  subst hmn;subst hcn;have hS:=ahC (off':=off) (c':=0) (n:=c) (v:=.slice (some ⟨bb,off,none⟩) rest.length c) hM H1.out (by rw[HM.out];omega) (by omega) h4 (fun j hj=>by rw[iH,HM.out] at hj;omega);rw[HM.out,kN] at hS;have RX:=JJ hS;have HT2:Hid (∀j,j<c->(w.setCell ⟨rb,0,none⟩ (.slice (some ⟨bb,off,none⟩) 0 0)).cell? ⟨bb,off+j,none⟩=some (Extern.Stop.cell ((rest.take c)[j]?.getD 0))):=JJ fun j hj=>(bI (a:=⟨bb,off+j,none⟩) (aN w _ bb _ (by show bb≠rb;omega))).trans (HT.out j hj);clear hS;go_enter Tryz.func186,Tryz.ntmps186
  go_wp2
  go_ret;exact⟨_,_,_,rfl,ay _,h3,h4,HT2.out,RX.out.1,RX.out.2⟩
 ·have aEe:¬n=c:=fun h=>hcn h.symm;have hS:=ahC (off':=off+n) (c':=c - n) (n:=n) (v:=.slice (some ⟨bb,off,none⟩) rest.length c) hM H1.out (by rw[HM.out];omega) (by omega) h4 (fun j hj=>by
   rw[iH,HM.out] at hj;rw[fE,H5.out (n+j) (by rw[HM.out];omega),jL])
  rw[HM.out] at hS;have RX:=JJ hS;have HT2:Hid (∀j,j<n->(w.setCell ⟨rb,0,none⟩ (.slice (some ⟨bb,off+n,none⟩) (m - n) (c - n))).cell? ⟨bb,off+j,none⟩=some (Extern.Stop.cell ((rest.take n)[j]?.getD 0))):=JJ fun j hj=>(bI (a:=⟨bb,off+j,none⟩) (aN w _ bb _ (by show bb≠rb;omega))).trans (HT.out j hj);clear hS;go_enter Tryz.func186,Tryz.ntmps186
  go_wp2
  go_ret;exact⟨_,_,_,rfl,by omega,h3,h4,HT2.out,RX.out.1,RX.out.2⟩
def hvs (s:Int)(l:ag (Nat×au)):Int:=l.foldl (fun s x=>s*256+(x.2.toNat:Int)) s
theorem or_mul (a b:Nat)(h:a<256):(b*256) ||| a=b*256+a:=by
 rw[show b*256=b <<< 8 from by rw[Nat.shiftLeft_eq],kZ (by omega)]
theorem ai4 (s:Int)(c:au):alZ s c=(s*256+(c.toNat:Int))%18446744073709551616:=by
 unfold alZ;have hc:=c.toNat_lt;obtain⟨b,hb⟩:∃b:Nat,IntKind.u64.wrap (s*256)=((b*256:Nat):Int):=by
  rw[show IntKind.u64.wrap (s*256)=(s*256)%18446744073709551616 by simp[IntKind.wrap,IntKind.bits,IntKind.signed]];exact⟨((s*256)%18446744073709551616 / 256).toNat,by omega⟩
 have hw:((b*256:Nat):Int)=(s*256)%18446744073709551616:=by rw[<-hb];simp[IntKind.wrap,IntKind.bits,IntKind.signed]
 rw[hb,u64_or_nat _ _ (by omega) (by omega),or_mul _ _ (by omega)];omega
theorem agb (s:Int)(c:au):Ye s c=wrap64 (s*256+(c.toNat:Int)):=by
 have hc:=c.toNat_lt;have h1:=ai4 s c;unfold alZ at h1;have key:∀x y:Int,bits BinOp.or IntKind.i64 (wrap64 x) y=wrap64 (bits BinOp.or IntKind.u64 (IntKind.u64.wrap x) y):=by
  intro x y;have e:BitVec.ofInt 64 (wrap64 x)=BitVec.ofInt 64 (IntKind.u64.wrap x):=by
   apply BitVec.eq_of_toInt_eq;rw[oP,oP,show IntKind.u64.wrap x=x%18446744073709551616 by simp[IntKind.wrap,IntKind.bits,IntKind.signed]];unfold wrap64;simp only[Int.bmod];omega
  show IntKind.i64.wrap ((BitVec.ofInt 64 (wrap64 x) ||| BitVec.ofInt 64 y).toNat:Int)=wrap64 (IntKind.u64.wrap ((BitVec.ofInt 64 (IntKind.u64.wrap x) ||| BitVec.ofInt 64 y).toNat:Int));rw[e];have hb:=(BitVec.ofInt 64 (IntKind.u64.wrap x) ||| BitVec.ofInt 64 y).isLt;obtain⟨n,hn⟩:∃n,(BitVec.ofInt 64 (IntKind.u64.wrap x) ||| BitVec.ofInt 64 y).toNat=n:=⟨_,rfl⟩;rw[hn] at hb⊢;rw[aA,show IntKind.u64.wrap (n:Int)=(n:Int)%18446744073709551616 by simp[IntKind.wrap,IntKind.bits,IntKind.signed]];unfold wrap64;omega
 unfold Ye;rw[key,h1];unfold wrap64;omega
theorem ag7 (l:ag (Nat×au)):∀s t:Int,s=wrap64 t->l.foldl (fun s x=>Ye s x.2) s=wrap64 (hvs t l):=by
 induction l with
 |nil=>intro s t h;exact h
 |cons x l ih=>
  intro s t h;rw[lC];refine ih _ (t*256+(x.2.toNat:Int)) ?_;rw[agb];unfold wrap64 at*;omega
theorem Un (n:Int):((byteOf n).toNat:Int)=n%256:=by
 have h:=LH n;unfold Extern.Stop.cell at h;injection h
theorem aAK (x:Int)(hx:fits x):wrap64 (hvs 0 (upto (bk (le x 8)) 8))=x:=by
 have e:hvs 0 (upto (bk (le x 8)) 8)=(((((((((0*256+((byteOf (x / 256 / 256 / 256 / 256 / 256 / 256 / 256)).toNat:Int))*256+((byteOf (x / 256 / 256 / 256 / 256 / 256 / 256)).toNat:Int))*256+((byteOf (x / 256 / 256 / 256 / 256 / 256)).toNat:Int))*256+((byteOf (x / 256 / 256 / 256 / 256)).toNat:Int))*256+((byteOf (x / 256 / 256 / 256)).toNat:Int))*256+((byteOf (x / 256 / 256)).toNat:Int))*256+((byteOf (x / 256)).toNat:Int))*256+((byteOf x).toNat:Int))):=rfl;rw[e];simp only[Un];unfold fits at hx;unfold wrap64;omega
theorem aAJ (x:Int)(h0:0<=x)(h1:x<4294967296):wrap64 (hvs 0 (upto (bk (le x 4)) 4))=x:=by
 have e:hvs 0 (upto (bk (le x 4)) 4)=((((0*256+((byteOf (x / 256 / 256 / 256)).toNat:Int))*256+((byteOf (x / 256 / 256)).toNat:Int))*256+((byteOf (x / 256)).toNat:Int))*256+((byteOf x).toNat:Int)):=rfl;rw[e];simp only[Un];unfold wrap64;omega
theorem aAH (x:Int)(h0:0<=x)(h1:x<256):wrap64 (hvs 0 (upto (bk (le x 1)) 1))=x:=by
 have e:hvs 0 (upto (bk (le x 1)) 1)=0*256+((byteOf x).toNat:Int):=rfl;rw[e];simp only[Un];unfold wrap64;omega
theorem aoG (x:Int)(n:Nat)(R:ag au):(le x n++R).take n=le x n:=by
 rw[fV (by rw[J4];exact ay n),aU (by rw[J4];exact ay n)]
theorem ag1 (x:Int)(n:Nat)(R:ag au):(le x n++R).drop n=R:=by
 rw[jD (by rw[J4];exact ay n),dW (by rw[J4];exact ay n)];rfl
theorem acJ (x:Int)(n:Nat)(R:ag au):tk (le x n++R) false n=le x n/\tkR (le x n++R) false n=R/\tkB (le x n++R) false n=false:=by
 have e:tkB (le x n++R) false n=false:=by
  unfold tkB;rw[lY];exact bT (by rw[KN,J4];omega)
 unfold tk tkR;rw[e];exact⟨aoG x n R,ag1 x n R,rfl⟩
theorem aqn (x:Int)(hx:fits x)(R:ag au):rdN (le x 8++R) false 8=x:=by
 unfold rdN WH;rw[(acJ x 8 R).1,J4,ag7 _ 0 0 (by unfold wrap64;omega)];exact aAK x hx
theorem axr (x:Int)(h0:0<=x)(h1:x<4294967296)(R:ag au):rdN (le x 4++R) false 4=x:=by
 unfold rdN WH;rw[(acJ x 4 R).1,J4,ag7 _ 0 0 (by unfold wrap64;omega)];exact aAJ x h0 h1
theorem Td (x:Int)(h0:0<=x)(h1:x<256)(R:ag au):rdN (le x 1++R) false 1=x:=by
 unfold rdN WH;rw[(acJ x 1 R).1,J4,ag7 _ 0 0 (by unfold wrap64;omega)];exact aAH x h0 h1
end Go.Proofs.YtbaehbbonkljpaaGreatDoor
