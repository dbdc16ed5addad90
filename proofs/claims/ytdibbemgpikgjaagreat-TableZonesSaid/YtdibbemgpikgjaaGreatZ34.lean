/- The texts Ku, Kw, Kx, Ky, Kz, Qk, in this order. -/
import Derived.Test.YtdibbemgpikgjaaGreatZ00
import Derived.Test.YtdibbemgpikgjaaGreatZ18
import Derived.Test.YtdibbemgpikgjaaGreatZ23
import Derived.Test.YtdibbemgpikgjaaGreatZ33
set_option maxRecDepth 10000
set_option maxHeartbeats 8000000
namespace Go.Proofs.YtdibbemgpikgjaaGreat
open Go Go.RowKit
def sN (x n:Int):Int:=bits BinOp.or IntKind.u32 (x / 2 ^ n.toNat) (x*2 ^ (32 - n).toNat%4294967296)
theorem Si (x n:Int) (w:World) (h0:0<n) (h1:n<32):
  Calls Tryz.prog 109 #[.int .u32 x,I n] w fun e w'=>e= .returned (.int .u32 (sN x n))∧∃k,w'=w.drewN k:=by
 have h2:0≤32 - n:=by omega
 have h3:IntKind.i64.wrap (32 - n)=32 - n:=by rw [IntKind.wrap_i64];omega
 go_enter Tryz.func109,Tryz.ntmps109;go_wp2_with fail;go_quiet (fail);go_wp2_with fail;go_ret;exact ⟨rfl,_,rfl⟩
def rk3:List Int:= [1116352408,1899447441,3049323471,3921009573,961987163,1508970993,2453635748,2870763221,3624381080,310598401,607225278,1426881987,1925078388,2162078206,2614888103,3248222580,3835390401,4022224774,264347078,604807628,770255983,1249150122,1555081692,1996064986,2554220882,2821834349,2952996808,3210313671,3336571891,3584528711,113926993,338241895,666307205,773529912,1294757372,1396182291,1695183700,1986661051,2177026350,2456956037,2730485921,2820302411,3259730800,3345764771,3516065817,3600352804,4094571909,275423344,430227734,506948616,659060556,883997877,958139571,1322822218,1537002063,1747873779,1955562222,2024104815,2227730452,2361852424,2428436474,2756734187,3204031479,3329325298]
def IA (l:List Int):Array Value:=(l.map (Value.int .u32)).toArray
theorem Sl (l:List Int):(IA l).all (·.oneCell')=true:=by
 unfold IA;rw [Array.all_eq_true'];intro u hu;simp only [List.mem_toArray,List.mem_map] at hu;obtain ⟨x,_,rfl⟩:=hu;rfl
theorem Ru (w:World):Calls Tryz.prog 108 #[] w (Gives (.agg (IA rk3)) w):=by
 go_enter Tryz.func108,Tryz.ntmps108;go_wp2_with ((with_reducible refine dO 209 ?_);go_must (refine wpList_store_row rfl _ _ _ rfl w.heap.size (IA rk3) rfl rfl 209 (IA (List.replicate 64 0)) (heap_alloc_last w _) (by kernel_rfl) rfl (Sl _) ?_));refine bodyPost_ret (v:= .agg (IA rk3)) (results_cell_row rfl _ _ w.heap.size _ (IA rk3) (0,0) _ rfl (setRow_heap _ _ _ _ _ _ (heap_alloc_last w _)) Tryz.underlying209 rfl (by kernel_rfl)) rfl ?_;exact ⟨rfl,below_setRow (ag w _) (Nat.le_refl _) _⟩
theorem Vx (l:List Int):IA l=aH l:=rfl
theorem Bz (x n:Int) (w:World) (k:Nat) (h0:0<n) (h1:n<32):Calls Tryz.prog 109 #[.int .u32 x,I n] (w.drewN k) fun e w''=>e= .returned (.int .u32 (sN x n))∧∃m,w''=w.drewN m:=
 Calls.quiet_of (Si x n _ h0 h1)
structure NI (w:World) (zs:List Int) (wr:World):Prop where
 var:AV (w.heap.size+1) 209 (aH zs) wr
 res:AV w.heap.size 209 (aH (List.replicate 64 0)) wr
 lo:Below w.heap.size w wr
theorem NI.drew {w wr:World} {zs:List Int} (h:NI w zs wr):NI w zs wr.drew:=⟨h.var.drew,h.res.drew,h.lo.drew⟩
theorem NI.put {w wr:World} {zs:List Int} (h:NI w zs wr) (i:Nat) (z:Int):NI w (zs.set i z) (wr.setCell ⟨w.heap.size+1,i,none⟩ (.int .u32 z)):=
 ⟨by rw [←Aq];exact h.var.put i _,h.res.far (by omega) _ _,h.lo.setCell (p:=⟨w.heap.size+1,i,none⟩) (Nat.le_succ _) _⟩
theorem NI.drewN {w wr:World} {zs:List Int} (h:NI w zs wr) (n:Nat):NI w zs (wr.drewN n):=⟨⟨h.var.var⟩,⟨h.res.var⟩,⟨h.lo.os,h.lo.tape,h.lo.output,h.lo.size,h.lo.block⟩⟩
theorem Qu (w:World) (bb off c:Nat) (xs:List UInt8) (hx:xs.length=64) (hb:bb<w.heap.size) (hA:∀j,j<64→w.cell? ⟨bb,off+j,none⟩=some (Extern.Stop.cell (xs[j]?.getD 0))):
  Calls Tryz.prog 107 #[.slice (some ⟨bb,off,none⟩) 64 c] w fun e w'=>∃zs:List Int,zs.length=64∧e= .returned (.agg (aH zs))∧Below w.heap.size w w':=by
 have HX:=ae hx;have HA:=ae hA;clear hx hA;have hi0:=yO;obtain ⟨z64,uO⟩:∃l:List Int,List.replicate 64 0=l:=⟨_,rfl⟩;rw [uO] at hi0;have HI0:=ae hi0;have HZ:=ae uO;have Z7:Hid (z64.length=64):=ae (by rw [←uO];rfl);have dM:Hid ((Tryz.prog.info? 209).map (·.size)=some (aH z64).size):=ae (by rw [bW,Z7.out];kernel_rfl);have HLIT:Hid (Value.agg (aH z64)= .agg #[.int .u32 0, .int .u32 0, .int .u32 0, .int .u32 0, .int .u32 0, .int .u32 0, .int .u32 0, .int .u32 0, .int .u32 0, .int .u32 0, .int .u32 0, .int .u32 0, .int .u32 0, .int .u32 0, .int .u32 0, .int .u32 0, .int .u32 0, .int .u32 0, .int .u32 0, .int .u32 0, .int .u32 0, .int .u32 0, .int .u32 0, .int .u32 0, .int .u32 0, .int .u32 0, .int .u32 0, .int .u32 0, .int .u32 0, .int .u32 0, .int .u32 0, .int .u32 0, .int .u32 0, .int .u32 0, .int .u32 0, .int .u32 0, .int .u32 0, .int .u32 0, .int .u32 0, .int .u32 0, .int .u32 0, .int .u32 0, .int .u32 0, .int .u32 0, .int .u32 0, .int .u32 0, .int .u32 0, .int .u32 0, .int .u32 0, .int .u32 0, .int .u32 0, .int .u32 0, .int .u32 0, .int .u32 0, .int .u32 0, .int .u32 0, .int .u32 0, .int .u32 0, .int .u32 0, .int .u32 0, .int .u32 0, .int .u32 0, .int .u32 0, .int .u32 0]):=ae (by rw [←uO];rfl);clear hi0 uO;go_enter Tryz.func107,Tryz.ntmps107;go_wp2_with (first
  |(refine aG rfl _ rfl (aH z64) HI0.out ?_)
  |((with_reducible refine dO 209 ?_);go_must (refine wpList_store_row rfl _ _ _ rfl (w.alloc (.cells (aH z64) 209)).heap.size (aH z64) rfl HLIT.out.symm 209 (aH z64) (heap_alloc_last _ _) dM.out rfl (jo _) ?_)))
 have H0:Hid (NI w z64 (((w.alloc (.cells (aH z64) 209)).alloc (.cells (aH z64) 209)).setRow (w.heap.size+1) (aH z64))):=ae ⟨⟨setRow_heap _ _ _ _ _ _ (heap_alloc2_new w _ _)⟩,⟨by rw [HZ.out];exact (setRow_other _ _ _ _ (by omega)).trans (heap_alloc2_old w _ _)⟩,below_setRow (ah (ag w _) (ag _ _)) (by omega) _⟩
 go_loopw [4] (fun i wr=>∃(k:Nat) (zs:List Int),k≤16∧i=I k∧zs.length=64∧NI w zs wr) (fun i _=>16 - (intOf i).toNat)
 case atStart=>exact ⟨0,z64,Nat.zero_le _,rfl,Z7.out,H0.out⟩
 case round=>
  obtain ⟨k,zs,hk,rfl,hzl,hs⟩:=hrel;have HS:=ae hs;have HL:=ae hzl;clear H0 hs hzl;by_cases hlt:(k:Int)<16
  ·obtain ⟨p,hp⟩:∃p:Nat,4*k=p:=⟨_,rfl⟩;obtain ⟨p1,hp1⟩:∃q:Nat,p+1=q:=⟨_,rfl⟩;obtain ⟨p2,hp2⟩:∃q:Nat,p+2=q:=⟨_,rfl⟩;obtain ⟨p3,hp3⟩:∃q:Nat,p+3=q:=⟨_,rfl⟩;have c0:wr.cell? ⟨bb,off+p,none⟩=some (Extern.Stop.cell (xs[p]?.getD 0)):=(HS.out.lo.cell (p:=⟨bb,off+p,none⟩) hb).trans (HA.out p (by omega));have c1:wr.cell? ⟨bb,off+p1,none⟩=some (Extern.Stop.cell (xs[p1]?.getD 0)):=(HS.out.lo.cell (p:=⟨bb,off+p1,none⟩) hb).trans (HA.out p1 (by omega));have c2:wr.cell? ⟨bb,off+p2,none⟩=some (Extern.Stop.cell (xs[p2]?.getD 0)):=(HS.out.lo.cell (p:=⟨bb,off+p2,none⟩) hb).trans (HA.out p2 (by omega));have c3:wr.cell? ⟨bb,off+p3,none⟩=some (Extern.Stop.cell (xs[p3]?.getD 0)):=(HS.out.lo.cell (p:=⟨bb,off+p3,none⟩) hb).trans (HA.out p3 (by omega));obtain ⟨x0,e0⟩:∃x:Int,((xs[p]?.getD 0).toNat:Int)=x:=⟨_,rfl⟩;obtain ⟨x1,e1⟩:∃x:Int,((xs[p1]?.getD 0).toNat:Int)=x:=⟨_,rfl⟩;obtain ⟨x2,e2⟩:∃x:Int,((xs[p2]?.getD 0).toNat:Int)=x:=⟨_,rfl⟩;obtain ⟨x3,e3⟩:∃x:Int,((xs[p3]?.getD 0).toNat:Int)=x:=⟨_,rfl⟩;replace c0:wr.cell? ⟨bb,off+p,none⟩=some (.int .u8 x0):=c0.trans (by rw [←e0];rfl);replace c1:wr.cell? ⟨bb,off+p1,none⟩=some (.int .u8 x1):=c1.trans (by rw [←e1];rfl);replace c2:wr.cell? ⟨bb,off+p2,none⟩=some (.int .u8 x2):=c2.trans (by rw [←e2];rfl);replace c3:wr.cell? ⟨bb,off+p3,none⟩=some (.int .u8 x3):=c3.trans (by rw [←e3];rfl);have g0:4*(k:Int)=(p:Int):=by omega
   have g1:(p:Int)+1=(p1:Int):=by omega
   have g2:(p:Int)+2=(p2:Int):=by omega
   have g3:(p:Int)+3=(p3:Int):=by omega
   have w0:IntKind.i64.wrap (p:Int)=(p:Int):=by rw [IntKind.wrap_i64];omega
   have w1:IntKind.i64.wrap (p1:Int)=(p1:Int):=by rw [IntKind.wrap_i64];omega
   have w2:IntKind.i64.wrap (p2:Int)=(p2:Int):=by rw [IntKind.wrap_i64];omega
   have w3:IntKind.i64.wrap (p3:Int)=(p3:Int):=by rw [IntKind.wrap_i64];omega
   have b0:(p:Int)<64:=by omega
   have b1:(p1:Int)<64:=by omega
   have b2:(p2:Int)<64:=by omega
   have b3:(p3:Int)<64:=by omega
   have HE:=ae (And.intro (And.intro e0 e1) (And.intro e2 e3));have HP:=ae (And.intro hp (And.intro hp1 (And.intro hp2 hp3)));clear e0 e1 e2 e3 hp hp1 hp2 hp3;obtain ⟨z0,hz0⟩:∃z,zs[k]?.getD 0=z:=⟨_,rfl⟩;have hv:wr.cell? ⟨w.heap.size+1,k,none⟩=some (.int .u32 z0):=(HS.out.var.cell k).trans (by rw [gJ _ _ (by rw [HL.out];omega),hz0]);have hf:=HS.out.var.gm k;have hk64:(k:Int)<64:=by omega
   go_wp2_with fail;go_still_tail 35,(by kernel_rfl);change wpList _ _ _ _ _ wr.drew;go_wp2_with fail;go_roundw
   case rel=>exact ⟨k+1,zs.set k _,by omega,by go_num,by rw [List.length_set,HL.out],HS.out.drew.put k _⟩
   case measure=>simp [intOf];omega
  ·have H1:Hid (∃zs:List Int,zs.length=64∧NI w zs wr):=ae ⟨zs,HL.out,HS.out⟩;go_wp2_with fail
   go_loopw [5] (fun i wr=>∃(k:Nat) (zs:List Int),16≤k∧k≤64∧i=I k∧zs.length=64∧NI w zs wr) (fun i _=>64 - (intOf i).toNat)
   case atStart=>exact H1.out.elim fun zs h=>⟨16,zs,by omega,by omega,rfl,h.1,h.2⟩
   case round=>
    clear hlt HS HL;obtain ⟨k,zs,hk0,hk,rfl,hzl,hs⟩:=hrel;have HS:=ae hs;have HL:=ae hzl;clear hs hzl;by_cases hlt:(k:Int)<64
    ·obtain ⟨q16,hq16⟩:∃q:Nat,k - 16=q:=⟨_,rfl⟩;obtain ⟨ZF,hq15⟩:∃q:Nat,k - 15=q:=⟨_,rfl⟩;obtain ⟨q7,hq7⟩:∃q:Nat,k - 7=q:=⟨_,rfl⟩;obtain ⟨q2,hq2⟩:∃q:Nat,k - 2=q:=⟨_,rfl⟩;obtain ⟨za,hza⟩:∃z,zs[q16]?.getD 0=z:=⟨_,rfl⟩;obtain ⟨zx,hzx⟩:∃z,zs[ZF]?.getD 0=z:=⟨_,rfl⟩;obtain ⟨zb,hzb⟩:∃z,zs[q7]?.getD 0=z:=⟨_,rfl⟩;obtain ⟨zy,hzy⟩:∃z,zs[q2]?.getD 0=z:=⟨_,rfl⟩;have va:∀n,(wr.drewN n).cell? ⟨w.heap.size+1,q16,none⟩=some (.int .u32 za):=fun n=>(HS.out.var.cell q16).trans (by rw [gJ _ _ (by rw [HL.out];omega),hza]);have vx:wr.cell? ⟨w.heap.size+1,ZF,none⟩=some (.int .u32 zx):=(HS.out.var.cell ZF).trans (by rw [gJ _ _ (by rw [HL.out];omega),hzx]);have vb:∀n,(wr.drewN n).cell? ⟨w.heap.size+1,q7,none⟩=some (.int .u32 zb):=fun n=>(HS.out.var.cell q7).trans (by rw [gJ _ _ (by rw [HL.out];omega),hzb]);have vy:wr.cell? ⟨w.heap.size+1,q2,none⟩=some (.int .u32 zy):=(HS.out.var.cell q2).trans (by rw [gJ _ _ (by rw [HL.out];omega),hzy]);have g16:(k:Int) - 16=(q16:Int):=by omega
     have g15:(k:Int) - 15=(ZF:Int):=by omega
     have g7:(k:Int) - 7=(q7:Int):=by omega
     have g2:(k:Int) - 2=(q2:Int):=by omega
     obtain ⟨z0,hz0⟩:∃z,zs[k]?.getD 0=z:=⟨_,rfl⟩;have v0:∀n,(wr.drewN n).cell? ⟨w.heap.size+1,k,none⟩=some (.int .u32 z0):=fun n=>(HS.out.var.cell k).trans (by rw [gJ _ _ (by rw [HL.out];omega),hz0]);have hf:∀n,(wr.drewN n).frozen? ⟨w.heap.size+1,k,none⟩=false:=fun n=>HS.out.var.gm k;clear hza hzx hzb hzy hq16 hq15 hq7 hq2 hz0;have wq16:IntKind.i64.wrap (q16:Int)=(q16:Int):=by rw [IntKind.wrap_i64];omega
     have wq15:IntKind.i64.wrap (ZF:Int)=(ZF:Int):=by rw [IntKind.wrap_i64];omega
     have wq7:IntKind.i64.wrap (q7:Int)=(q7:Int):=by rw [IntKind.wrap_i64];omega
     have wq2:IntKind.i64.wrap (q2:Int)=(q2:Int):=by rw [IntKind.wrap_i64];omega
     have b16:(q16:Int)<64:=by omega
     have b15:(ZF:Int)<64:=by omega
     have b7:(q7:Int)<64:=by omega
     have b2:(q2:Int)<64:=by omega
     go_wp2_with fail;go_quiet (fail);go_wp2_with fail;have n16:(⟨w.heap.size+1,k,none⟩:Addr)≠⟨w.heap.size+1,q16,none⟩:=fun e=>by have:=congrArg Addr.off e;simp at this;omega
     have n7:(⟨w.heap.size+1,k,none⟩:Addr)≠⟨w.heap.size+1,q7,none⟩:=fun e=>by have:=congrArg Addr.off e;simp at this;omega
     go_region_held3 (fun W=>W.cell? ⟨w.heap.size+1,q16,none⟩=some (.int .u32 za)∧W.cell? ⟨w.heap.size+1,q7,none⟩=some (.int .u32 zb))
      (first|exact ⟨va 0,vb 0⟩|exact ⟨(World.cell?_setCell_other _ _ _ _ n16).trans (va 0),(World.cell?_setCell_other _ _ _ _ n7).trans (vb 0)⟩)
      (first|(go_at_call 109;refine (Si _ _ _ (by omega) (by omega)).mono ?_;rintro e wf ⟨rfl,m,rfl⟩))
     all_goals
      go_wp2_with fail;go_roundw
      case rel=>exact ⟨k+1,zs.set k _,by omega,by omega,by go_num,by rw [List.length_set,HL.out],(HS.out.drewN _).put k _⟩
      case measure=>simp [intOf];omega
    ·have hke:k=64:=by omega
     have ng:Hid ((Tryz.prog.info? 209).map (·.size)=some (aH zs).size):=ae (by rw [bW,HL.out];kernel_rfl);have HRW:Hid (oJ wr (w.heap.size+1) (aH zs)):=ae ⟨HS.out.var.lt,HS.out.var.cell⟩;have jQ:Hid ((aH (List.replicate 64 0)).size=(aH zs).size):=ae (by rw [bW,bW,HL.out];simp);go_wp2_with (first
      |((with_reducible refine fO 209 ?_);go_must (refine aW rfl _ _ rfl (w.heap.size+1) rfl (aH zs) HRW.out _ Tryz.underlying209 rfl ng.out ?_))
      |((with_reducible refine dO 209 ?_);go_must (refine wpList_store_row rfl _ _ _ rfl w.heap.size (aH zs) rfl rfl 209 (aH (List.replicate 64 0)) HS.out.res.var ng.out jQ.out (jo _) ?_)))
     refine bodyPost_ret (v:= .agg (aH zs)) (results_cell_row rfl _ _ w.heap.size _ (aH zs) (0,0) _ rfl (setRow_heap _ _ _ _ _ _ HS.out.res.var) Tryz.underlying209 rfl ng.out) rfl ?_;exact ⟨zs,HL.out,rfl,aC HS.out.lo (Nat.le_refl _) _⟩
theorem sV:(Tryz.prog.info? 190).map (fun i=>(i.zero,i.size))=some (some (.agg (aH (List.replicate 8 0))),(aH (List.replicate 8 0)).size):=by kernel_rfl
theorem YD {t:List Int} (h:t.length=8):∃a b c d e f g i,t= [a,b,c,d,e,f,g,i]:=by
 match t,h with
 | [a,b,c,d,e,f,g,i],_=>exact ⟨a,b,c,d,e,f,g,i,rfl⟩
structure Uj (w:World) (cs:Array Value) (W:World):Prop where
 s:AV w.heap.size 190 cs W
 r:AV (w.heap.size+1) 190 (aH (List.replicate 8 0)) W
 lo:Below w.heap.size w W
theorem Uj.start (w:World) (cs:Array Value):Uj w cs ((w.alloc (.cells cs 190)).alloc (.cells (aH (List.replicate 8 0)) 190)):=
 ⟨⟨heap_alloc2_old w _ _⟩,⟨heap_alloc2_new w _ _⟩,ah (ag w _) (ag _ _)⟩
theorem Uj.grow {w W W':World} {cs:Array Value} (h:Uj w cs W) (hb:Below W.heap.size W W'):Uj w cs W':=
 ⟨h.s.below hb,h.r.below hb,ah h.lo hb⟩
structure Dx (w:World) (wb:Nat) (cs ts ws ks:Array Value) (W:World):Prop where
 b:Uj w cs W
 hw:w.heap.size+2≤wb
 w:AV wb 209 ws W
 k:AV (wb+1) 209 ks W
 t:AV (wb+2) 190 ts W
theorem Dx.drewN {w W:World} {wb:Nat} {cs ts ws ks:Array Value} (h:Dx w wb cs ts ws ks W) (n:Nat):Dx w wb cs ts ws ks (W.drewN n):=
 ⟨⟨⟨h.b.s.var⟩,⟨h.b.r.var⟩,⟨h.b.lo.os,h.b.lo.tape,h.b.lo.output,h.b.lo.size,h.b.lo.block⟩⟩,h.hw,⟨h.w.var⟩,⟨h.k.var⟩,⟨h.t.var⟩⟩
theorem Dx.drew {w W:World} {wb:Nat} {cs ts ws ks:Array Value} (h:Dx w wb cs ts ws ks W):Dx w wb cs ts ws ks W.drew:=
 ⟨⟨⟨h.b.s.var⟩,⟨h.b.r.var⟩,⟨h.b.lo.os,h.b.lo.tape,h.b.lo.output,h.b.lo.size,h.b.lo.block⟩⟩,h.hw,⟨h.w.var⟩,⟨h.k.var⟩,⟨h.t.var⟩⟩
theorem Dx.row {w W:World} {wb:Nat} {cs ts ws ks:Array Value} (h:Dx w wb cs ts ws ks W) (ds:Array Value):Dx w wb cs ds ws ks (W.setRow (wb+2) ds):=by
 have hw:=h.hw;exact ⟨⟨h.b.s.qJ (by omega) _,h.b.r.qJ (by omega) _,aC h.b.lo (by omega) _⟩,h.hw,h.w.qJ (by omega) _,h.k.qJ (by omega) _,h.t.lq _⟩
theorem Dx.put {w W:World} {wb:Nat} {cs ws ks:Array Value} {zs:List Int} (h:Dx w wb cs (aH zs) ws ks W) (i:Nat) (z:Int):Dx w wb cs (aH (zs.set i z)) ws ks (W.setCell ⟨wb+2,i,none⟩ (.int .u32 z)):=by
 have hw:=h.hw;exact ⟨⟨h.b.s.far (by omega) _ _,h.b.r.far (by omega) _ _,h.b.lo.setCell (p:=⟨wb+2,i,none⟩) (show w.heap.size≤wb+2 by omega) _⟩,h.hw,h.w.far (by omega) _ _,h.k.far (by omega) _ _,by rw [←Aq];exact h.t.put i _⟩
theorem Dx.start {w W:World} {cs:Array Value} (h:Uj w cs W) (ws ks zs:Array Value):Dx w W.heap.size cs cs ws ks ((((((W.alloc (.cells zs 209)).alloc (.cells zs 209)).setRow W.heap.size ws).setRow (W.heap.size+1) ks).alloc (.cells (aH (List.replicate 8 0)) 190)).setRow (W.heap.size+2) cs):=by
 obtain ⟨W1,hW1⟩:∃W1,W.alloc (.cells zs 209)=W1:=⟨_,rfl⟩;have s1:W1.heap.size=W.heap.size+1:=by rw [←hW1];simp
 have b1:Below W.heap.size W W1:=by rw [←hW1];exact ag W _
 have a1:AV W.heap.size 209 zs W1:=by rw [←hW1];exact AV.new W _ _
 rw [hW1];obtain ⟨W2,hW2⟩:∃W2,W1.alloc (.cells zs 209)=W2:=⟨_,rfl⟩;have b2:Below W1.heap.size W1 W2:=by rw [←hW2];exact ag W1 _
 have s2:W2.heap.size=W.heap.size+2:=by rw [←hW2];simp;omega
 have a2:AV (W.heap.size+1) 209 zs W2:=by rw [←hW2,←s1];exact AV.new W1 _ _
 rw [hW2];obtain ⟨W3,hW3⟩:∃W3,W2.setRow W.heap.size ws=W3:=⟨_,rfl⟩;have s3:W3.heap.size=W.heap.size+2:=by rw [←hW3,←s2];simp [World.setRow]
 have b3:Below W.heap.size W W3:=by rw [←hW3];exact aC (b1.trans (b2.mono (by omega))) (Nat.le_refl _) _
 have a3:AV W.heap.size 209 ws W3:=by rw [←hW3];exact (a1.below b2).lq _
 have a3':AV (W.heap.size+1) 209 zs W3:=by rw [←hW3];exact a2.qJ (by omega) _
 rw [hW3];obtain ⟨W4,hW4⟩:∃W4,W3.setRow (W.heap.size+1) ks=W4:=⟨_,rfl⟩;have s4:W4.heap.size=W.heap.size+2:=by rw [←hW4,←s3];simp [World.setRow]
 have b4:Below W.heap.size W W4:=by rw [←hW4];exact aC b3 (by omega) _
 have a4:AV W.heap.size 209 ws W4:=by rw [←hW4];exact a3.qJ (by omega) _
 have a4':AV (W.heap.size+1) 209 ks W4:=by rw [←hW4];exact a3'.lq _
 rw [hW4];have b5:=ag W4 (.cells (aH (List.replicate 8 0)) 190);have a5:=AV.new W4 (aH (List.replicate 8 0)) 190;rw [s4] at a5;have hl:=h.lo.size;have hr:=h.r.lt;exact ⟨⟨((h.s.below b4).below b5).qJ (by have:=h.s.lt;omega) _,((h.r.below b4).below b5).qJ (by omega) _,aC (ah h.lo (b4.trans (b5.mono (by omega)))) (by omega) _⟩,by omega,(a4.below b5).qJ (by omega) _,(a4'.below b5).qJ (by omega) _,a5.lq _⟩
theorem Ih (W:World) (zs ws ks:Array Value):((((W.alloc (.cells zs 209)).alloc (.cells zs 209)).setRow W.heap.size ws).setRow (W.heap.size+1) ks).heap.size=W.heap.size+2:=by simp [World.setRow]
theorem Ov (W:World) (zs ws ks:Array Value):Below W.heap.size W ((((W.alloc (.cells zs 209)).alloc (.cells zs 209)).setRow W.heap.size ws).setRow (W.heap.size+1) ks):=
 aC (aC (ah (ag W _) (ag _ _)) (Nat.le_refl _) _) (Nat.le_succ _) _
theorem Vm {w W:World} {cs:Array Value} (h:Uj w cs W) (zs ws ks:Array Value):oJ ((((W.alloc (.cells zs 209)).alloc (.cells zs 209)).setRow W.heap.size ws).setRow (W.heap.size+1) ks) w.heap.size cs:=(h.s.below (Ov W zs ws ks)).jK
theorem Vo (W:World) (zs ws ks cs:Array Value):(((((W.alloc (.cells zs 209)).alloc (.cells zs 209)).setRow W.heap.size ws).setRow (W.heap.size+1) ks).alloc (.cells cs 190)).heap[W.heap.size+2]? =some (.cells cs 190 (0,0)):=by
 rw [←Ih W zs ws ks];exact heap_alloc_last _ _
theorem ZJ (w:World) (bb off c:Nat) (ss:List Int) (hs:ss.length=8) (xs:List UInt8) (hx:xs.length=64) (hb:bb<w.heap.size) (hA:∀j,j<64→w.cell? ⟨bb,off+j,none⟩=some (Extern.Stop.cell (xs[j]?.getD 0))):
  Calls Tryz.prog 92 #[.agg (aH ss), .slice (some ⟨bb,off,none⟩) 64 c] w fun e w'=>∃zs:List Int,zs.length=8∧e= .returned (.agg (aH zs))∧Below w.heap.size w w':=by
 obtain ⟨cs,hcs⟩:∃a,aH ss=a:=⟨_,rfl⟩;rw [hcs];have hz:cs.size=8:=by rw [←hcs,bW,hs]
 have HCS:=ae hcs;have uH:=ae hs;have H0:=ae (Uj.start w cs);have HEX:Hid (∀W,Below w.heap.size w W→Calls Tryz.prog 107 #[.slice (some ⟨bb,off,none⟩) 64 c] W fun e w'=>∃zs:List Int,zs.length=64∧e= .returned (.agg (aH zs))∧Below W.heap.size W w'):=
  ae fun W h=>Qu W bb off c xs hx (dR hb h.size) fun j hj=>(h.cell (p:=⟨bb,off+j,none⟩) hb).trans (hA j hj)
 have HI8:Hid ((Tryz.prog.info? 190).map (·.size)=some cs.size):=ae (by rw [hz];kernel_rfl);have zG:Hid ((aH (List.replicate 8 0)).size=cs.size):=ae (by rw [bW,hz];simp);have jf:Hid (cs.all (·.oneCell')=true):=ae (by rw [←hcs];exact jo _);clear hx hA hcs hs hz;go_enter Tryz.func92,Tryz.ntmps92;go_upto_region 1 with (first
  |((with_reducible refine bn 190 ?_);go_must (refine aG rfl _ rfl (aH (List.replicate 8 0)) sV ?_)))
 generalize (w.alloc (.cells cs 190)).alloc (.cells (aH (List.replicate 8 0)) 190)=W0 at H0 ⊢;go_wp2_with fail;refine (HEX.out _ H0.out.lo).mono ?_;rintro e w1 ⟨ws,hwl,rfl,hb1⟩;have H1:=ae (H0.out.grow hb1);have HWL:=ae hwl;clear hb1 H0 HEX hwl;go_wp2_with fail;refine (Ru w1).mono ?_;rintro e w2 ⟨rfl,hb2⟩;have H2:=ae (H1.out.grow hb2);clear hb2 H1;rw [Vx];obtain ⟨ks,hks⟩:∃l,rk3=l:=⟨_,rfl⟩;rw [hks];have qw:Hid (ks.length=64):=ae (by rw [←hks];rfl);clear hks;have H3:=ae (Dx.start H2.out (aH ws) (aH ks) (aH (List.replicate 64 0)));have HI4:Hid ((Tryz.prog.info? 209).map (·.size)=some (aH ws).size):=ae (by rw [bW,HWL.out];kernel_rfl);have OY:Hid ((Tryz.prog.info? 209).map (·.size)=some (aH ks).size):=ae (by rw [bW,qw.out];kernel_rfl);have Uc:Hid ((aH (List.replicate 64 0)).size=(aH ws).size):=ae (by rw [bW,bW,HWL.out];simp);have NG:Hid ((aH (List.replicate 64 0)).size=(aH ks).size):=ae (by rw [bW,bW,qw.out];simp);obtain ⟨u64,hu64⟩:∃l:List Int,List.replicate 64 0=l:=⟨_,rfl⟩;rw [hu64] at H3 Uc NG;have HUI:Hid ((Tryz.prog.info? 209).map (fun i=>(i.zero,i.size))=some (some (.agg (aH u64)),(aH u64).size)):=ae (by rw [←hu64];exact yO);clear hu64;obtain ⟨u8,Xc⟩:∃l:List Int,List.replicate 8 0=l:=⟨_,rfl⟩;rw [Xc] at H3 zG;have HU8:Hid ((Tryz.prog.info? 190).map (fun i=>(i.zero,i.size))=some (some (.agg (aH u8)),(aH u8).size)):=ae (by rw [←Xc];exact sV);clear Xc;go_upto_region 2 with (first
  |((with_reducible refine bn 209 ?_);go_must (refine aG rfl _ rfl (aH u64) HUI.out ?_))
  |((with_reducible refine dO 209 ?_);go_must (first
    |(refine wpList_store_row rfl _ _ _ rfl w2.heap.size (aH ws) rfl rfl 209 (aH u64) (heap_alloc2_old w2 _ _) HI4.out Uc.out (jo _) ?_)
    |(refine wpList_store_row rfl _ _ _ rfl (w2.heap.size+1) (aH ks) (congrArg (fun b=>Value.pointer (some ⟨b,0,none⟩)) (nY w2 _)) rfl 209 (aH u64) ((setRow_other _ _ _ _ (by omega)).trans (heap_alloc2_new w2 _ _)) OY.out NG.out (jo _) ?_))))
 have HR4:=ae (Vm H2.out (aH u64) (aH ws) (aH ks));have HV5:=ae (Vo w2 (aH u64) (aH ws) (aH ks) (aH u8));have yf:=ae (Ih w2 (aH u64) (aH ws) (aH ks));generalize ((((w2.alloc (.cells (aH u64) 209)).alloc (.cells (aH u64) 209)).setRow w2.heap.size (aH ws)).setRow (w2.heap.size+1) (aH ks))=W4 at H3 HR4 HV5 yf ⊢;obtain ⟨wb,hwb⟩:∃b,w2.heap.size=b:=⟨_,rfl⟩;rw [hwb] at H3 HV5 yf;rw [nY w2,hwb];clear hwb H2 Uc NG HUI;go_wp2_with (first
  |((with_reducible refine fO 190 ?_);go_must (refine aW rfl _ _ rfl w.heap.size rfl cs HR4.out _ Tryz.underlying190 rfl HI8.out ?_))
  |((with_reducible refine bn 190 ?_);go_must (refine aG rfl _ rfl (aH u8) HU8.out ?_))
  |((with_reducible refine dO 190 ?_);go_must (refine wpList_store_row rfl _ _ _ rfl (wb+2) cs (congrArg (fun b=>Value.pointer (some ⟨b,0,none⟩)) yf.out) rfl 190 (aH u8) HV5.out HI8.out zG.out jf.out ?_)))
 generalize (W4.alloc (.cells (aH u8) 190)).setRow (wb+2) cs=W6 at H3 ⊢;rw [yf.out];clear HR4 HV5 yf zG HU8
 go_loopw [8] (fun i wr=>∃(k:Nat) (ts:List Int),k≤64∧i=I k∧ts.length=8∧Dx w wb cs (aH ts) (aH ws) (aH ks) wr) (fun i _=>64 - (intOf i).toNat)
 case atStart=>exact ⟨0,ss,Nat.zero_le _,rfl,uH.out,by rw [HCS.out];exact H3.out⟩
 case round=>
  obtain ⟨k,ts,hk,rfl,htl,hs⟩:=hrel;have HS:=ae hs;clear H3 hs;by_cases hlt:(k:Int)<64
  ·obtain ⟨t0,t1,t2,t3,t4,t5,t6,t7,rfl⟩:=YD htl;clear htl;have c0:wr.cell? ⟨wb+2,0,none⟩=some (.int .u32 t0):=HS.out.t.cell 0;have c4:wr.cell? ⟨wb+2,4,none⟩=some (.int .u32 t4):=HS.out.t.cell 4;go_wp2_with fail;go_quiet (fail);obtain ⟨W7,QG⟩:∃W,wr.drewN nq=W:=⟨_,rfl⟩;rw [QG];have O4:Hid (Dx w wb cs (aH [t0,t1,t2,t3,t4,t5,t6,t7]) (aH ws) (aH ks) W7):=ae (by rw [←QG];exact HS.out.drewN nq);clear QG c0 c4 HS;obtain ⟨wk,hwk⟩:∃z,ws[k]?.getD 0=z:=⟨_,rfl⟩;obtain ⟨kk,hkk⟩:∃z,ks[k]?.getD 0=z:=⟨_,rfl⟩;have cw:W7.cell? ⟨wb,k,none⟩=some (.int .u32 wk):=(O4.out.w.cell k).trans (by rw [gJ _ _ (by rw [HWL.out];omega),hwk]);have ck:W7.cell? ⟨wb+1,k,none⟩=some (.int .u32 kk):=(O4.out.k.cell k).trans (by rw [gJ _ _ (by rw [qw.out];omega),hkk]);clear hwk hkk;have c0:W7.cell? ⟨wb+2,0,none⟩=some (.int .u32 t0):=O4.out.t.cell 0;have c1:W7.cell? ⟨wb+2,1,none⟩=some (.int .u32 t1):=O4.out.t.cell 1;have c2:W7.cell? ⟨wb+2,2,none⟩=some (.int .u32 t2):=O4.out.t.cell 2;have c3:W7.cell? ⟨wb+2,3,none⟩=some (.int .u32 t3):=O4.out.t.cell 3;have c4:W7.cell? ⟨wb+2,4,none⟩=some (.int .u32 t4):=O4.out.t.cell 4;have c5:W7.cell? ⟨wb+2,5,none⟩=some (.int .u32 t5):=O4.out.t.cell 5;have c6:W7.cell? ⟨wb+2,6,none⟩=some (.int .u32 t6):=O4.out.t.cell 6;have c7:W7.cell? ⟨wb+2,7,none⟩=some (.int .u32 t7):=O4.out.t.cell 7;go_wp2_with fail;go_quiet ((go_at_call 109;exact Bz _ _ _ _ (by omega) (by omega)));generalize (((t7+bits BinOp.xor IntKind.u32 (bits BinOp.xor IntKind.u32 (sN t4 6) (sN t4 11)) (sN t4 25)+bits BinOp.xor IntKind.u32 (bits BinOp.and IntKind.u32 t4 t5) (bits BinOp.and IntKind.u32 ((4294967295 - t4)%4294967296) t6)+kk)%4294967296+wk)%4294967296)=X;obtain ⟨W8,hW8⟩:∃W,W7.drewN nq=W:=⟨_,rfl⟩;rw [hW8];have HS8:Hid (Dx w wb cs (aH [t0,t1,t2,t3,t4,t5,t6,t7]) (aH ws) (aH ks) W8):=ae (by rw [←hW8];exact O4.out.drewN nq);clear hW8 c0 c1 c2 c3 c4 c5 c6 c7 cw ck O4;have c1:W8.cell? ⟨wb+2,1,none⟩=some (.int .u32 t1):=HS8.out.t.cell 1;have c2:W8.cell? ⟨wb+2,2,none⟩=some (.int .u32 t2):=HS8.out.t.cell 2;go_wp2_with fail;go_quiet ((go_at_call 109;exact Bz _ _ _ _ (by omega) (by omega)));generalize ((bits BinOp.xor IntKind.u32 (bits BinOp.xor IntKind.u32 (sN t0 2) (sN t0 13)) (sN t0 22)+bits BinOp.xor IntKind.u32 (bits BinOp.xor IntKind.u32 (bits BinOp.and IntKind.u32 t0 t1) (bits BinOp.and IntKind.u32 t0 t2)) (bits BinOp.and IntKind.u32 t1 t2))%4294967296)=Y;obtain ⟨W9,hW9⟩:∃W,W8.drewN nq=W:=⟨_,rfl⟩;rw [hW9];have Td:Hid (Dx w wb cs (aH [t0,t1,t2,t3,t4,t5,t6,t7]) (aH ws) (aH ks) W9):=ae (by rw [←hW9];exact HS8.out.drewN nq);clear hW9 c1 c2 HS8;have c0:W9.cell? ⟨wb+2,0,none⟩=some (.int .u32 t0):=Td.out.t.cell 0;have c1:W9.cell? ⟨wb+2,1,none⟩=some (.int .u32 t1):=Td.out.t.cell 1;have c2:W9.cell? ⟨wb+2,2,none⟩=some (.int .u32 t2):=Td.out.t.cell 2;have c3:W9.cell? ⟨wb+2,3,none⟩=some (.int .u32 t3):=Td.out.t.cell 3;have c4:W9.cell? ⟨wb+2,4,none⟩=some (.int .u32 t4):=Td.out.t.cell 4;have c5:W9.cell? ⟨wb+2,5,none⟩=some (.int .u32 t5):=Td.out.t.cell 5;have c6:W9.cell? ⟨wb+2,6,none⟩=some (.int .u32 t6):=Td.out.t.cell 6;have c7:W9.cell? ⟨wb+2,7,none⟩=some (.int .u32 t7):=Td.out.t.cell 7;have HI9:Hid ((Tryz.prog.info? 190).map (·.size)=some (aH [(X+Y)%4294967296,t0,t1,t2,(t3+X)%4294967296,t4,t5,t6]).size):=ae (by kernel_rfl);go_wp2_with ((with_reducible refine dO 190 ?_);go_must (refine wpList_store_row rfl _ _ _ rfl (wb+2) (aH [(X+Y)%4294967296,t0,t1,t2,(t3+X)%4294967296,t4,t5,t6]) rfl rfl 190 (aH [t0,t1,t2,t3,t4,t5,t6,t7]) Td.out.t.var HI9.out rfl (jo _) ?_));go_roundw
   case rel=>exact ⟨k+1,_,by omega,by go_num,rfl,Td.out.row _⟩
   case measure=>simp [intOf];omega
  ·have Ae:=ae htl;clear htl;go_wp2_with fail
   go_loopw [13] (fun i wr=>∃(k:Nat) (zs:List Int),k≤8∧i=I k∧zs.length=8∧Dx w wb cs (aH zs) (aH ws) (aH ks) wr) (fun i _=>8 - (intOf i).toNat)
   case atStart=>exact ⟨0,ts,Nat.zero_le _,rfl,Ae.out,HS.out⟩
   case round=>
    clear HS Ae hlt;obtain ⟨j,zs,hj,rfl,hzl,hs⟩:=hrel;have HS:=ae hs;have HL:=ae hzl;clear hs hzl;by_cases hlt:(j:Int)<8
    ·obtain ⟨sj,hsj⟩:∃z,ss[j]?.getD 0=z:=⟨_,rfl⟩;obtain ⟨tj,htj⟩:∃z,zs[j]?.getD 0=z:=⟨_,rfl⟩;have cS:wr.cell? ⟨w.heap.size,j,none⟩=some (.int .u32 sj):=(HS.out.b.s.cell j).trans (by rw [←HCS.out,gJ _ _ (by rw [uH.out];omega),hsj]);have cT:wr.cell? ⟨wb+2,j,none⟩=some (.int .u32 tj):=(HS.out.t.cell j).trans (by rw [gJ _ _ (by rw [HL.out];omega),htj]);have cf:=HS.out.t.gm j;clear hsj htj;go_wp2_with fail;go_still_tail 9,(by kernel_rfl);change wpList _ _ _ _ _ wr.drew;go_wp2_with fail;go_roundw
     case rel=>exact ⟨j+1,zs.set j _,by omega,by go_num,by rw [List.length_set,HL.out],HS.out.drew.put j _⟩
     case measure=>simp [intOf];omega
    ·have ng:Hid ((Tryz.prog.info? 190).map (·.size)=some (aH zs).size):=ae (by rw [bW,HL.out];kernel_rfl);have HRW:Hid (oJ wr (wb+2) (aH zs)):=ae HS.out.t.jK;have jQ:Hid ((aH (List.replicate 8 0)).size=(aH zs).size):=ae (by rw [bW,bW,HL.out];simp);go_wp2_with (first
      |((with_reducible refine fO 190 ?_);go_must (refine aW rfl _ _ rfl (wb+2) rfl (aH zs) HRW.out _ Tryz.underlying190 rfl ng.out ?_))
      |((with_reducible refine dO 190 ?_);go_must (refine wpList_store_row rfl _ _ _ rfl (w.heap.size+1) (aH zs) rfl rfl 190 (aH (List.replicate 8 0)) HS.out.b.r.var ng.out jQ.out (jo _) ?_)))
     refine bodyPost_ret (v:= .agg (aH zs)) (results_cell_row rfl _ _ (w.heap.size+1) _ (aH zs) (0,0) _ rfl (setRow_heap _ _ _ _ _ _ HS.out.b.r.var) Tryz.underlying190 rfl ng.out) rfl ?_;exact ⟨zs,HL.out,rfl,aC HS.out.b.lo (Nat.le_succ _) _⟩
theorem tC.app0 {w w3:World} {v v':Value} (hg:w.grownBy w3 v.ownBlock) (hat:v'.ownBlock=v.ownBlock∨v'.ownBlock=some w.heap.size):tC v w v' w3:=
 ⟨hg.os,hg.tape,hg.output,hg.size,fun k hk hv=>hg.block k hk hv,hat.imp id fun e=>⟨_,e,Nat.le_refl _⟩⟩
theorem tC.jy {w w':World} {v:Value} (h:tC (.slice none 0 0) w v w'):Below w.heap.size w w':=h.vZ (fun g hg=>by cases hg) (Nat.le_refl _)
end Go.Proofs.YtdibbemgpikgjaaGreat
