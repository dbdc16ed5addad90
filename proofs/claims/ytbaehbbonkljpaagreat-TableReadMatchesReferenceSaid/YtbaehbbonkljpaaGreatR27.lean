/- The texts Kt, Ku, Kw, Kx, Ky, Kz, Qk, Kv, in this order. -/
import Derived.Test.YtbaehbbonkljpaaGreatR00
import Derived.Test.YtbaehbbonkljpaaGreatR02
import Derived.Test.YtbaehbbonkljpaaGreatR05
import Derived.Test.YtbaehbbonkljpaaGreatR12
import Derived.Test.YtbaehbbonkljpaaGreatR15
import Derived.Test.YtbaehbbonkljpaaGreatR18
import Derived.Test.YtbaehbbonkljpaaGreatR26
set_option maxRecDepth 10000
set_option maxHeartbeats 8000000
namespace Go.Proofs.YtbaehbbonkljpaaGreat
open Go Go.RowKit
structure PB (v0:Value) (w:World) (bs:List UInt8) (A:Option Addr) (n c:Nat) (W:World):Prop where
 own:mY w.heap.size W A n c bs
 len:bs.length=n
 keep:uh v0 w (.slice A n c) W
theorem PB.grown {n c n' c':Nat} {v0:Value} {A A':Option Addr} {w W W':World} {o:Obj} {bs bs':List UInt8} (h:PB v0 w bs A n c W) (hO:mY w.heap.size W' A' n' c' bs') (hl:bs'.length=n') (hg:(W.alloc o).grownBy W' (Value.slice A n c).ownBlock) (hat:(Value.slice A' n' c').ownBlock=(Value.slice A n c).ownBlock∨(Value.slice A' n' c').ownBlock=some (W.heap.size+1)):PB v0 w bs' A' n' c' W':=
 ⟨hO,hl,h.keep.trans (uh.app hg (hat.imp id fun e=>e.trans (by simp)))⟩
def lenV:Value→Nat
 | .slice _ m _=>m
 |_=>0
def PL (n:Nat):Nat:=(120 - (n+1)%64)%64
theorem IL (n:Nat):(n+1+PL n)%64=56:=by unfold PL;omega
theorem NW (n:Nat):PL n<64:=Nat.mod_lt _ (by omega)
def PadP (w:World) (n:Nat) (e:Ending) (w':World):Prop:=∃ps:List UInt8,ps.length=n+9+PL n∧ZH w.heap.size (.slice none 0 0) w ps e w'
theorem PB.fresh {w W:World} {A:Option Addr} {n c:Nat} {bs:List UInt8} (h:mY w.heap.size W A n c bs) (hl:bs.length=n) (hg:(w.alloc (.cells #[] 5)).grownBy W (some w.heap.size)) (hat:(Value.slice A n c).ownBlock=some w.heap.size∨(Value.slice A n c).ownBlock=some (w.heap.size+1)):PB (.slice none 0 0) w bs A n c W:=by
 refine ⟨h,hl,hg.os,hg.tape,hg.output,Nat.le_trans (by simp) hg.size,fun k hk _=>(hg.block k (by simp;omega) (fun e=>by injection e;omega)).trans (Below.heap_alloc w _ k hk), .inr ?_⟩;rcases hat with e|e
 ·exact ⟨_,e,by omega⟩
 ·exact ⟨_,e,by omega⟩
theorem Ua (n c:Nat) (A:Option Addr) (bs:List UInt8) (w:World) (hl:bs.length=n) (h0:0<n) (hn:n≤200000) (hb:az w w.heap.size A (bs.map Extern.Stop.cell)):
  Calls Tryz.prog 78 #[.slice A n c] w (PadP w n):=by
 obtain ⟨i0,hi,hz0,hz1,hz2⟩:=info_parts lh;have HI:=ae hi;have HZ0:=ae hz0;have HZ1:=ae hz1;have HZ2:=ae hz2;clear hi hz0 hz1 hz2;obtain ⟨b,off,rfl,mW,hcl⟩:=hb.there (by rw [List.length_map];omega);have hb0:∀j u,(bs.map Extern.Stop.cell)[j]? =some u→(w.alloc (.cells #[] 5)).cell? ((⟨b,off,none⟩:Addr).add j)=some u:=lS hb;have HB0:=ae hb0;have HE:=ae (iU w 5 1);have HL:=ae hl;have uD:Hid ((bs.map Extern.Stop.cell).length=n*1):=ae (by rw [List.length_map,hl,Nat.mul_one]);have rW:Hid (∀u∈bs.map Extern.Stop.cell,u.oneCell'=true):=ae (fun u hu=>by obtain ⟨x,_,rfl⟩:=List.mem_map.1 hu;rfl);clear hb0 hcl hb hl;go_enter Tryz.func78,Tryz.ntmps78;go_wp2_with (at_builtin;go_must (refine wpList_append_own_at _ rfl _ _ 22 rfl w.heap.size 5 i0 (.int .u8 0) 1 1 Tryz.underlying22 HI.out HZ0.out HZ1.out HZ2.out rfl (by decide) _ 0 [] rfl HE.out ⟨b,off,none⟩ n c (bs.map Extern.Stop.cell) rfl uD.out HB0.out rW.out (by unfold maxLen;omega) (by omega) (by simp) ?_));intro v' w1 hown hg _ hat;obtain ⟨A1,c1,rfl⟩:=fC hown;have H1:Hid (PB (.slice none 0 0) w bs A1 n c1 w1):=ae (PB.fresh (by unfold mY;simpa using hown) HL.out hg hat);have hsz:w.heap.size≤w1.heap.size:=H1.out.keep.size;clear hown hg hat;have JI:=ae (World.ownsRow.alloc H1.out.own (.cells #[Value.int .u8 128] 5));go_wp2_with (at_builtin;go_must (refine wpList_append_own_at _ rfl _ _ 22 rfl w.heap.size 5 i0 (.int .u8 0) 1 1 Tryz.underlying22 HI.out HZ0.out HZ1.out HZ2.out rfl (by decide) _ n ((bs).map Extern.Stop.cell) rfl JI.out _ 1 1 [Value.int .u8 128] rfl rfl (cell_one_new _ _ _) (vJ _) (by unfold maxLen;omega) (by omega) (by simp;omega) ?_));intro v' w2 hown hg _ hat;obtain ⟨A2,c2,rfl⟩:=fC hown;have H2:=ae (H1.out.grown (bs':=bs++ [128]) (by unfold mY;rw [List.map_append];exact hown) (by rw [bH,HL.out];rfl) hg hat);clear hown hg hat;have hpl:=NW n;have QT:=ae (IL n);obtain ⟨p,hp⟩:∃p,PL n=p:=⟨_,rfl⟩;have HP:=ae hp;rw [hp] at hpl QT;clear hp hsz;go_wp2_with fail
 go_loopw [3] (fun b wr=>∃k n2 c A,k≤p∧n2=n+1+k∧b= .slice A n2 c∧PB (.slice none 0 0) w (bs++ [128]++List.replicate k 0) A n2 c wr) (fun b _=>n+1+p - lenV b)
 case atStart=>exact ⟨0,n+1,c2,A2,Nat.zero_le _,rfl,rfl,by simpa using H2.out⟩
 case round=>
  obtain ⟨k,n2,c3,A3,hk,hn2,rfl,hb⟩:=hrel;have HB:=ae hb;have hsz:w.heap.size≤wr.heap.size:=hb.keep.size;clear hb;have ht:((n2:Int)).tmod 64=((n2%64:Nat):Int):=by rw [Int.tmod_eq_emod_of_nonneg (by omega)];rfl
  obtain ⟨q,hq⟩:∃q,n2%64=q:=⟨_,rfl⟩;rw [hq] at ht;have ht2:((n2:Int))%64=(q:Int):=by omega
  have hkp:q≠56→k<p:=by
   intro hqe;have:=QT.out;rcases Nat.lt_or_ge k p with h|h
   ·exact h
   ·have e:k=p:=by omega
    subst e;subst hn2;omega
  have HN2:=ae hn2;have hn2b:n2≤n+64:=by omega
  clear hn2 hq;by_cases hqe:q=56
  ·subst hqe;go_wp2_with fail;have H4:Hid (∃ps:List UInt8,ps.length=n2∧PB (.slice none 0 0) w ps A3 n2 c3 wr):=ae ⟨_,HB.out.len,HB.out⟩;have HQE:Hid (n2%64=56):=ae (by omega);have HN5:Hid (n2=n+1+p):=ae (by
    have h1:=HN2.out;have h2:=QT.out;have h3:=HQE.out;omega)
   clear HB hkp hsz ht ht2 hk
   go_loopw [3,5] (fun b i wr=>∃(j n3 c:Nat) (A:Option Addr) (ps:List UInt8),j≤8∧n3=n2+j∧b= .slice A n3 c∧i= .int .i64 (7 - (j:Int))∧ps.length=n3∧PB (.slice none 0 0) w ps A n3 c wr) (fun _ i _=>(intOf i+1).toNat)
   case atStart=>exact H4.out.elim fun ps h=>⟨0,n2,c3,A3,ps,Nat.zero_le _,rfl,rfl,by go_num,h.1,h.2⟩
   case round=>
    obtain ⟨j,n3,c4,A4,ps,hj,hn3,rfl,rfl,hpl2,hb⟩:=hrel;have HB:=ae hb;have HN3:=ae hn3;have JV:=ae hpl2;have hsz:w.heap.size≤wr.heap.size:=hb.keep.size;have hn3b:n3≤n+80:=by omega
    clear hb hn3 hpl2;by_cases hlt:j<8
    ·obtain ⟨i,hi⟩:∃i:Int,7 - (j:Int)=i:=⟨_,rfl⟩;have hi0:0≤i:=by omega
     have hi1:i≤7:=by omega
     have HIJ:=ae hi;rw [hi];clear hi;have HBC:=ae (fQ (8*(n:Int) / 2 ^ (8*i).toNat));have JI:=ae (World.ownsRow.alloc HB.out.own (.cells #[Value.int .u8 (8*(n:Int) / 2 ^ (8*i).toNat%256)] 5));go_wp2_with (at_builtin;go_must (refine wpList_append_own_at _ rfl _ _ 22 rfl w.heap.size 5 i0 (.int .u8 0) 1 1 Tryz.underlying22 HI.out HZ0.out HZ1.out HZ2.out rfl (by decide) _ n3 ((ps).map Extern.Stop.cell) rfl JI.out _ 1 1 [Value.int .u8 (8*(n:Int) / 2 ^ (8*i).toNat%256)] rfl rfl (cell_one_new _ _ _) (vJ _) (by unfold maxLen;omega) (by omega) (by simp;omega) ?_));intro v' w3 hown hg _ hat;obtain ⟨A',c',rfl⟩:=fC hown;have H5:=ae (HB.out.grown (bs':=ps++ [byteOf (8*(n:Int) / 2 ^ (8*i).toNat)]) (n':=n3+1) (by unfold mY;rw [List.map_append];show World.ownsRow _ _ _ _ _ _ (_++ [Extern.Stop.cell _]);rw [HBC.out];exact hown) (by rw [bH,JV.out];rfl) hg hat);clear hown hg hat;go_wp2_with fail;go_roundw
     case rel=>exact ⟨j+1,n3+1,c',A',_,by omega,by have:=HN3.out;omega,rfl,by have:=HIJ.out;congr 1;omega,H5.out.len,H5.out⟩
     case measure=>simp [intOf];omega
    ·have HJ:Hid (j=8):=ae (by omega);have hz:7 - (j:Int)<0:=by omega
     have HN8:Hid (n3=n+9+p):=ae (by have:=HN3.out;have:=HN5.out;have:=HJ.out;omega);go_wp2_with fail;go_ret;exact ⟨ps,by rw [JV.out,HN8.out,HP.out],A4,n3,c4,JV.out,rfl,HB.out.own,HB.out.keep⟩
  ·have hne:((q:Int) !=56)=true:=by rw [bne_iff_ne];omega
   have hkp2:=hkp hqe;clear hkp;obtain ⟨pre,hpre⟩:∃l:List UInt8,bs++ [128]++List.replicate k 0=l:=⟨_,rfl⟩;have CJ:=ae hpre;rw [hpre] at HB;clear hpre;have JI:=ae (World.ownsRow.alloc HB.out.own (.cells #[Value.int .u8 0] 5));go_wp2_with (at_builtin;go_must (refine wpList_append_own_at _ rfl _ _ 22 rfl w.heap.size 5 i0 (.int .u8 0) 1 1 Tryz.underlying22 HI.out HZ0.out HZ1.out HZ2.out rfl (by decide) _ n2 ((pre).map Extern.Stop.cell) rfl JI.out _ 1 1 [Value.int .u8 0] rfl rfl (cell_one_new _ _ _) (vJ _) (by unfold maxLen;omega) (by omega) (by simp;omega) ?_));intro v' w3 hown hg _ hat;obtain ⟨A',c',rfl⟩:=fC hown;have H3:=ae (HB.out.grown (bs':=bs++ [128]++List.replicate (k+1) 0) (n':=n2+1) (by unfold mY;rw [List.replicate_succ',←List.append_assoc,CJ.out,List.map_append];exact hown) (by have:=HN2.out;simp [HL.out];omega) hg hat);clear hown hg hat;go_wp2_with fail;go_roundw
   case rel=>exact ⟨k+1,n2+1,c',A',by omega,by have:=HN2.out;omega,rfl,H3.out⟩
   case measure=>have:=HN2.out;simp [lenV];omega
def tJ (x n:Int):Int:=bits BinOp.or IntKind.u32 (x / 2 ^ n.toNat) (x*2 ^ (32 - n).toNat%4294967296)
theorem UF (x n:Int) (w:World) (h0:0<n) (h1:n<32):
  Calls Tryz.prog 101 #[.int .u32 x,I n] w fun e w'=>e= .returned (.int .u32 (tJ x n))∧∃k,w'=w.drewN k:=by
 have h2:0≤32 - n:=by omega
 have h3:IntKind.i64.wrap (32 - n)=32 - n:=by rw [IntKind.wrap_i64];omega
 go_enter Tryz.func101,Tryz.ntmps101;go_wp2_with fail;go_quiet (fail);go_wp2_with fail;go_ret;exact ⟨rfl,_,rfl⟩
def rk3:List Int:= [1116352408,1899447441,3049323471,3921009573,961987163,1508970993,2453635748,2870763221,3624381080,310598401,607225278,1426881987,1925078388,2162078206,2614888103,3248222580,3835390401,4022224774,264347078,604807628,770255983,1249150122,1555081692,1996064986,2554220882,2821834349,2952996808,3210313671,3336571891,3584528711,113926993,338241895,666307205,773529912,1294757372,1396182291,1695183700,1986661051,2177026350,2456956037,2730485921,2820302411,3259730800,3345764771,3516065817,3600352804,4094571909,275423344,430227734,506948616,659060556,883997877,958139571,1322822218,1537002063,1747873779,1955562222,2024104815,2227730452,2361852424,2428436474,2756734187,3204031479,3329325298]
def Js (l:List Int):Array Value:=(l.map (Value.int .u32)).toArray
theorem UH (l:List Int):(Js l).all (·.oneCell')=true:=by
 unfold Js;rw [Array.all_eq_true'];intro u hu;simp only [List.mem_toArray,List.mem_map] at hu;obtain ⟨x,_,rfl⟩:=hu;rfl
theorem Uk (w:World):Calls Tryz.prog 100 #[] w (Gives (.agg (Js rk3)) w):=by
 go_enter Tryz.func100,Tryz.ntmps100;go_wp2_with ((with_reducible refine dS 194 ?_);go_must (refine wpList_store_row rfl _ _ _ rfl w.heap.size (Js rk3) rfl rfl 194 (Js (List.replicate 64 0)) (heap_alloc_last w _) (by kernel_rfl) rfl (UH _) ?_));refine bodyPost_ret (v:= .agg (Js rk3)) (results_cell_row rfl _ _ w.heap.size _ (Js rk3) (0,0) _ rfl (setRow_heap _ _ _ _ _ _ (heap_alloc_last w _)) Tryz.underlying194 rfl (by kernel_rfl)) rfl ?_;exact ⟨rfl,below_setRow (ag w _) (Nat.le_refl _) _⟩
theorem X8 (l:List Int):Js l=aF l:=rfl
theorem BH (x n:Int) (w:World) (k:Nat) (h0:0<n) (h1:n<32):Calls Tryz.prog 101 #[.int .u32 x,I n] (w.drewN k) fun e w''=>e= .returned (.int .u32 (tJ x n))∧∃m,w''=w.drewN m:=
 Calls.quiet_of (UF x n _ h0 h1)
structure OY (w:World) (zs:List Int) (wr:World):Prop where
 var:AV (w.heap.size+1) 194 (aF zs) wr
 res:AV w.heap.size 194 (aF (List.replicate 64 0)) wr
 lo:Below w.heap.size w wr
theorem OY.drew {w wr:World} {zs:List Int} (h:OY w zs wr):OY w zs wr.drew:=⟨h.var.drew,h.res.drew,h.lo.drew⟩
theorem OY.put {w wr:World} {zs:List Int} (h:OY w zs wr) (i:Nat) (z:Int):OY w (zs.set i z) (wr.setCell ⟨w.heap.size+1,i,none⟩ (.int .u32 z)):=
 ⟨by rw [←Am];exact h.var.put i _,h.res.far (by omega) _ _,h.lo.setCell (p:=⟨w.heap.size+1,i,none⟩) (Nat.le_succ _) _⟩
theorem OY.drewN {w wr:World} {zs:List Int} (h:OY w zs wr) (n:Nat):OY w zs (wr.drewN n):=⟨⟨h.var.var⟩,⟨h.res.var⟩,⟨h.lo.os,h.lo.tape,h.lo.output,h.lo.size,h.lo.block⟩⟩
theorem RZ (w:World) (bb off c:Nat) (xs:List UInt8) (hx:xs.length=64) (hb:bb<w.heap.size) (hA:∀j,j<64→w.cell? ⟨bb,off+j,none⟩=some (Extern.Stop.cell (xs[j]?.getD 0))):
  Calls Tryz.prog 99 #[.slice (some ⟨bb,off,none⟩) 64 c] w fun e w'=>∃zs:List Int,zs.length=64∧e= .returned (.agg (aF zs))∧Below w.heap.size w w':=by
 have HX:=ae hx;have HA:=ae hA;clear hx hA;have hi0:=yN;obtain ⟨z64,Df⟩:∃l:List Int,List.replicate 64 0=l:=⟨_,rfl⟩;rw [Df] at hi0;have HI0:=ae hi0;have HZ:=ae Df;have Gx:Hid (z64.length=64):=ae (by rw [←Df];rfl);have fG:Hid ((Tryz.prog.info? 194).map (·.size)=some (aF z64).size):=ae (by rw [bT,Gx.out];kernel_rfl);have HLIT:Hid (Value.agg (aF z64)= .agg #[.int .u32 0, .int .u32 0, .int .u32 0, .int .u32 0, .int .u32 0, .int .u32 0, .int .u32 0, .int .u32 0, .int .u32 0, .int .u32 0, .int .u32 0, .int .u32 0, .int .u32 0, .int .u32 0, .int .u32 0, .int .u32 0, .int .u32 0, .int .u32 0, .int .u32 0, .int .u32 0, .int .u32 0, .int .u32 0, .int .u32 0, .int .u32 0, .int .u32 0, .int .u32 0, .int .u32 0, .int .u32 0, .int .u32 0, .int .u32 0, .int .u32 0, .int .u32 0, .int .u32 0, .int .u32 0, .int .u32 0, .int .u32 0, .int .u32 0, .int .u32 0, .int .u32 0, .int .u32 0, .int .u32 0, .int .u32 0, .int .u32 0, .int .u32 0, .int .u32 0, .int .u32 0, .int .u32 0, .int .u32 0, .int .u32 0, .int .u32 0, .int .u32 0, .int .u32 0, .int .u32 0, .int .u32 0, .int .u32 0, .int .u32 0, .int .u32 0, .int .u32 0, .int .u32 0, .int .u32 0, .int .u32 0, .int .u32 0, .int .u32 0, .int .u32 0]):=ae (by rw [←Df];rfl);clear hi0 Df;go_enter Tryz.func99,Tryz.ntmps99;go_wp2_with (first
  |(refine aI rfl _ rfl (aF z64) HI0.out ?_)
  |((with_reducible refine dS 194 ?_);go_must (refine wpList_store_row rfl _ _ _ rfl (w.alloc (.cells (aF z64) 194)).heap.size (aF z64) rfl HLIT.out.symm 194 (aF z64) (heap_alloc_last _ _) fG.out rfl (iR _) ?_)))
 have H0:Hid (OY w z64 (((w.alloc (.cells (aF z64) 194)).alloc (.cells (aF z64) 194)).setRow (w.heap.size+1) (aF z64))):=ae ⟨⟨setRow_heap _ _ _ _ _ _ (heap_alloc2_new w _ _)⟩,⟨by rw [HZ.out];exact (setRow_other _ _ _ _ (by omega)).trans (heap_alloc2_old w _ _)⟩,below_setRow (ai (ag w _) (ag _ _)) (by omega) _⟩
 go_loopw [4] (fun i wr=>∃(k:Nat) (zs:List Int),k≤16∧i=I k∧zs.length=64∧OY w zs wr) (fun i _=>16 - (intOf i).toNat)
 case atStart=>exact ⟨0,z64,Nat.zero_le _,rfl,Gx.out,H0.out⟩
 case round=>
  obtain ⟨k,zs,hk,rfl,hzl,hs⟩:=hrel;have HS:=ae hs;have HL:=ae hzl;clear H0 hs hzl;by_cases hlt:(k:Int)<16
  ·obtain ⟨p,hp⟩:∃p:Nat,4*k=p:=⟨_,rfl⟩;obtain ⟨p1,hp1⟩:∃q:Nat,p+1=q:=⟨_,rfl⟩;obtain ⟨p2,hp2⟩:∃q:Nat,p+2=q:=⟨_,rfl⟩;obtain ⟨p3,hp3⟩:∃q:Nat,p+3=q:=⟨_,rfl⟩;have c0:wr.cell? ⟨bb,off+p,none⟩=some (Extern.Stop.cell (xs[p]?.getD 0)):=(HS.out.lo.cell (p:=⟨bb,off+p,none⟩) hb).trans (HA.out p (by omega));have c1:wr.cell? ⟨bb,off+p1,none⟩=some (Extern.Stop.cell (xs[p1]?.getD 0)):=(HS.out.lo.cell (p:=⟨bb,off+p1,none⟩) hb).trans (HA.out p1 (by omega));have c2:wr.cell? ⟨bb,off+p2,none⟩=some (Extern.Stop.cell (xs[p2]?.getD 0)):=(HS.out.lo.cell (p:=⟨bb,off+p2,none⟩) hb).trans (HA.out p2 (by omega));have c3:wr.cell? ⟨bb,off+p3,none⟩=some (Extern.Stop.cell (xs[p3]?.getD 0)):=(HS.out.lo.cell (p:=⟨bb,off+p3,none⟩) hb).trans (HA.out p3 (by omega));obtain ⟨x0,e0⟩:∃x:Int,((xs[p]?.getD 0).toNat:Int)=x:=⟨_,rfl⟩;obtain ⟨x1,e1⟩:∃x:Int,((xs[p1]?.getD 0).toNat:Int)=x:=⟨_,rfl⟩;obtain ⟨x2,e2⟩:∃x:Int,((xs[p2]?.getD 0).toNat:Int)=x:=⟨_,rfl⟩;obtain ⟨x3,e3⟩:∃x:Int,((xs[p3]?.getD 0).toNat:Int)=x:=⟨_,rfl⟩;replace c0:wr.cell? ⟨bb,off+p,none⟩=some (.int .u8 x0):=c0.trans (by rw [←e0];rfl);replace c1:wr.cell? ⟨bb,off+p1,none⟩=some (.int .u8 x1):=c1.trans (by rw [←e1];rfl);replace c2:wr.cell? ⟨bb,off+p2,none⟩=some (.int .u8 x2):=c2.trans (by rw [←e2];rfl);replace c3:wr.cell? ⟨bb,off+p3,none⟩=some (.int .u8 x3):=c3.trans (by rw [←e3];rfl);have g0:4*(k:Int)=(p:Int):=by omega
   have g1:(p:Int)+1=(p1:Int):=by omega
   have g2:(p:Int)+2=(p2:Int):=by omega
   have g3:(p:Int)+3=(p3:Int):=by omega
   have w0:IntKind.i64.wrap (p:Int)=(p:Int):=by rw [IntKind.wrap_i64];omega
   have w1:IntKind.i64.wrap (p1:Int)=(p1:Int):=by rw [IntKind.wrap_i64];omega
   have w2:IntKind.i64.wrap (p2:Int)=(p2:Int):=by rw [IntKind.wrap_i64];omega
   have w3:IntKind.i64.wrap (p3:Int)=(p3:Int):=by rw [IntKind.wrap_i64];omega
   have b0:(p:Int)<64:=by omega
   have b1:(p1:Int)<64:=by omega
   have b2:(p2:Int)<64:=by omega
   have b3:(p3:Int)<64:=by omega
   have HE:=ae (And.intro (And.intro e0 e1) (And.intro e2 e3));have HP:=ae (And.intro hp (And.intro hp1 (And.intro hp2 hp3)));clear e0 e1 e2 e3 hp hp1 hp2 hp3;obtain ⟨z0,hz0⟩:∃z,zs[k]?.getD 0=z:=⟨_,rfl⟩;have hv:wr.cell? ⟨w.heap.size+1,k,none⟩=some (.int .u32 z0):=(HS.out.var.cell k).trans (by rw [gK _ _ (by rw [HL.out];omega),hz0]);have hf:=HS.out.var.eY k;have hk64:(k:Int)<64:=by omega
   go_wp2_with fail;go_still_tail 35,(by kernel_rfl);change wpList _ _ _ _ _ wr.drew;go_wp2_with fail;go_roundw
   case rel=>exact ⟨k+1,zs.set k _,by omega,by go_num,by rw [List.length_set,HL.out],HS.out.drew.put k _⟩
   case measure=>simp [intOf];omega
  ·have H1:Hid (∃zs:List Int,zs.length=64∧OY w zs wr):=ae ⟨zs,HL.out,HS.out⟩;go_wp2_with fail
   go_loopw [5] (fun i wr=>∃(k:Nat) (zs:List Int),16≤k∧k≤64∧i=I k∧zs.length=64∧OY w zs wr) (fun i _=>64 - (intOf i).toNat)
   case atStart=>exact H1.out.elim fun zs h=>⟨16,zs,by omega,by omega,rfl,h.1,h.2⟩
   case round=>
    clear hlt HS HL;obtain ⟨k,zs,hk0,hk,rfl,hzl,hs⟩:=hrel;have HS:=ae hs;have HL:=ae hzl;clear hs hzl;by_cases hlt:(k:Int)<64
    ·obtain ⟨q16,hq16⟩:∃q:Nat,k - 16=q:=⟨_,rfl⟩;obtain ⟨q15,hq15⟩:∃q:Nat,k - 15=q:=⟨_,rfl⟩;obtain ⟨q7,hq7⟩:∃q:Nat,k - 7=q:=⟨_,rfl⟩;obtain ⟨q2,hq2⟩:∃q:Nat,k - 2=q:=⟨_,rfl⟩;obtain ⟨za,hza⟩:∃z,zs[q16]?.getD 0=z:=⟨_,rfl⟩;obtain ⟨zx,hzx⟩:∃z,zs[q15]?.getD 0=z:=⟨_,rfl⟩;obtain ⟨zb,hzb⟩:∃z,zs[q7]?.getD 0=z:=⟨_,rfl⟩;obtain ⟨zy,hzy⟩:∃z,zs[q2]?.getD 0=z:=⟨_,rfl⟩;have va:∀n,(wr.drewN n).cell? ⟨w.heap.size+1,q16,none⟩=some (.int .u32 za):=fun n=>(HS.out.var.cell q16).trans (by rw [gK _ _ (by rw [HL.out];omega),hza]);have vx:wr.cell? ⟨w.heap.size+1,q15,none⟩=some (.int .u32 zx):=(HS.out.var.cell q15).trans (by rw [gK _ _ (by rw [HL.out];omega),hzx]);have vb:∀n,(wr.drewN n).cell? ⟨w.heap.size+1,q7,none⟩=some (.int .u32 zb):=fun n=>(HS.out.var.cell q7).trans (by rw [gK _ _ (by rw [HL.out];omega),hzb]);have vy:wr.cell? ⟨w.heap.size+1,q2,none⟩=some (.int .u32 zy):=(HS.out.var.cell q2).trans (by rw [gK _ _ (by rw [HL.out];omega),hzy]);have g16:(k:Int) - 16=(q16:Int):=by omega
     have g15:(k:Int) - 15=(q15:Int):=by omega
     have g7:(k:Int) - 7=(q7:Int):=by omega
     have g2:(k:Int) - 2=(q2:Int):=by omega
     obtain ⟨z0,hz0⟩:∃z,zs[k]?.getD 0=z:=⟨_,rfl⟩;have v0:∀n,(wr.drewN n).cell? ⟨w.heap.size+1,k,none⟩=some (.int .u32 z0):=fun n=>(HS.out.var.cell k).trans (by rw [gK _ _ (by rw [HL.out];omega),hz0]);have hf:∀n,(wr.drewN n).frozen? ⟨w.heap.size+1,k,none⟩=false:=fun n=>HS.out.var.eY k;clear hza hzx hzb hzy hq16 hq15 hq7 hq2 hz0;have wq16:IntKind.i64.wrap (q16:Int)=(q16:Int):=by rw [IntKind.wrap_i64];omega
     have wq15:IntKind.i64.wrap (q15:Int)=(q15:Int):=by rw [IntKind.wrap_i64];omega
     have wq7:IntKind.i64.wrap (q7:Int)=(q7:Int):=by rw [IntKind.wrap_i64];omega
     have wq2:IntKind.i64.wrap (q2:Int)=(q2:Int):=by rw [IntKind.wrap_i64];omega
     have b16:(q16:Int)<64:=by omega
     have b15:(q15:Int)<64:=by omega
     have b7:(q7:Int)<64:=by omega
     have b2:(q2:Int)<64:=by omega
     go_wp2_with fail;go_quiet (fail);go_wp2_with fail;have n16:(⟨w.heap.size+1,k,none⟩:Addr)≠⟨w.heap.size+1,q16,none⟩:=fun e=>by have:=congrArg Addr.off e;simp at this;omega
     have n7:(⟨w.heap.size+1,k,none⟩:Addr)≠⟨w.heap.size+1,q7,none⟩:=fun e=>by have:=congrArg Addr.off e;simp at this;omega
     go_region_held3 (fun W=>W.cell? ⟨w.heap.size+1,q16,none⟩=some (.int .u32 za)∧W.cell? ⟨w.heap.size+1,q7,none⟩=some (.int .u32 zb))
      (first|exact ⟨va 0,vb 0⟩|exact ⟨(World.cell?_setCell_other _ _ _ _ n16).trans (va 0),(World.cell?_setCell_other _ _ _ _ n7).trans (vb 0)⟩)
      (first|(go_at_call 101;refine (UF _ _ _ (by omega) (by omega)).mono ?_;rintro e wf ⟨rfl,m,rfl⟩))
     all_goals
      go_wp2_with fail;go_roundw
      case rel=>exact ⟨k+1,zs.set k _,by omega,by omega,by go_num,by rw [List.length_set,HL.out],(HS.out.drewN _).put k _⟩
      case measure=>simp [intOf];omega
    ·have hke:k=64:=by omega
     have pg:Hid ((Tryz.prog.info? 194).map (·.size)=some (aF zs).size):=ae (by rw [bT,HL.out];kernel_rfl);have HRW:Hid (oL wr (w.heap.size+1) (aF zs)):=ae ⟨HS.out.var.lt,HS.out.var.cell⟩;have mr:Hid ((aF (List.replicate 64 0)).size=(aF zs).size):=ae (by rw [bT,bT,HL.out];simp);go_wp2_with (first
      |((with_reducible refine gz 194 ?_);go_must (refine bu rfl _ _ rfl (w.heap.size+1) rfl (aF zs) HRW.out _ Tryz.underlying194 rfl pg.out ?_))
      |((with_reducible refine dS 194 ?_);go_must (refine wpList_store_row rfl _ _ _ rfl w.heap.size (aF zs) rfl rfl 194 (aF (List.replicate 64 0)) HS.out.res.var pg.out mr.out (iR _) ?_)))
     refine bodyPost_ret (v:= .agg (aF zs)) (results_cell_row rfl _ _ w.heap.size _ (aF zs) (0,0) _ rfl (setRow_heap _ _ _ _ _ _ HS.out.res.var) Tryz.underlying194 rfl pg.out) rfl ?_;exact ⟨zs,HL.out,rfl,aB HS.out.lo (Nat.le_refl _) _⟩
theorem tZ:(Tryz.prog.info? 171).map (fun i=>(i.zero,i.size))=some (some (.agg (aF (List.replicate 8 0))),(aF (List.replicate 8 0)).size):=by kernel_rfl
theorem eight3 {t:List Int} (h:t.length=8):∃a b c d e f g i,t= [a,b,c,d,e,f,g,i]:=by
 match t,h with
 | [a,b,c,d,e,f,g,i],_=>exact ⟨a,b,c,d,e,f,g,i,rfl⟩
structure Wv (w:World) (cs:Array Value) (W:World):Prop where
 s:AV w.heap.size 171 cs W
 r:AV (w.heap.size+1) 171 (aF (List.replicate 8 0)) W
 lo:Below w.heap.size w W
theorem Wv.start (w:World) (cs:Array Value):Wv w cs ((w.alloc (.cells cs 171)).alloc (.cells (aF (List.replicate 8 0)) 171)):=
 ⟨⟨heap_alloc2_old w _ _⟩,⟨heap_alloc2_new w _ _⟩,ai (ag w _) (ag _ _)⟩
theorem Wv.grow {w W W':World} {cs:Array Value} (h:Wv w cs W) (hb:Below W.heap.size W W'):Wv w cs W':=
 ⟨h.s.below hb,h.r.below hb,ai h.lo hb⟩
structure DX (w:World) (wb:Nat) (cs ts ws ks:Array Value) (W:World):Prop where
 b:Wv w cs W
 hw:w.heap.size+2≤wb
 w:AV wb 194 ws W
 k:AV (wb+1) 194 ks W
 t:AV (wb+2) 171 ts W
theorem DX.drewN {w W:World} {wb:Nat} {cs ts ws ks:Array Value} (h:DX w wb cs ts ws ks W) (n:Nat):DX w wb cs ts ws ks (W.drewN n):=
 ⟨⟨⟨h.b.s.var⟩,⟨h.b.r.var⟩,⟨h.b.lo.os,h.b.lo.tape,h.b.lo.output,h.b.lo.size,h.b.lo.block⟩⟩,h.hw,⟨h.w.var⟩,⟨h.k.var⟩,⟨h.t.var⟩⟩
theorem DX.drew {w W:World} {wb:Nat} {cs ts ws ks:Array Value} (h:DX w wb cs ts ws ks W):DX w wb cs ts ws ks W.drew:=
 ⟨⟨⟨h.b.s.var⟩,⟨h.b.r.var⟩,⟨h.b.lo.os,h.b.lo.tape,h.b.lo.output,h.b.lo.size,h.b.lo.block⟩⟩,h.hw,⟨h.w.var⟩,⟨h.k.var⟩,⟨h.t.var⟩⟩
theorem DX.row {w W:World} {wb:Nat} {cs ts ws ks:Array Value} (h:DX w wb cs ts ws ks W) (ds:Array Value):DX w wb cs ds ws ks (W.setRow (wb+2) ds):=by
 have hw:=h.hw;exact ⟨⟨h.b.s.qO (by omega) _,h.b.r.qO (by omega) _,aB h.b.lo (by omega) _⟩,h.hw,h.w.qO (by omega) _,h.k.qO (by omega) _,h.t.oO _⟩
theorem DX.put {w W:World} {wb:Nat} {cs ws ks:Array Value} {zs:List Int} (h:DX w wb cs (aF zs) ws ks W) (i:Nat) (z:Int):DX w wb cs (aF (zs.set i z)) ws ks (W.setCell ⟨wb+2,i,none⟩ (.int .u32 z)):=by
 have hw:=h.hw;exact ⟨⟨h.b.s.far (by omega) _ _,h.b.r.far (by omega) _ _,h.b.lo.setCell (p:=⟨wb+2,i,none⟩) (show w.heap.size≤wb+2 by omega) _⟩,h.hw,h.w.far (by omega) _ _,h.k.far (by omega) _ _,by rw [←Am];exact h.t.put i _⟩
theorem DX.start {w W:World} {cs:Array Value} (h:Wv w cs W) (ws ks zs:Array Value):DX w W.heap.size cs cs ws ks ((((((W.alloc (.cells zs 194)).alloc (.cells zs 194)).setRow W.heap.size ws).setRow (W.heap.size+1) ks).alloc (.cells (aF (List.replicate 8 0)) 171)).setRow (W.heap.size+2) cs):=by
 obtain ⟨W1,hW1⟩:∃W1,W.alloc (.cells zs 194)=W1:=⟨_,rfl⟩;have s1:W1.heap.size=W.heap.size+1:=by rw [←hW1];simp
 have b1:Below W.heap.size W W1:=by rw [←hW1];exact ag W _
 have a1:AV W.heap.size 194 zs W1:=by rw [←hW1];exact AV.new W _ _
 rw [hW1];obtain ⟨W2,hW2⟩:∃W2,W1.alloc (.cells zs 194)=W2:=⟨_,rfl⟩;have b2:Below W1.heap.size W1 W2:=by rw [←hW2];exact ag W1 _
 have s2:W2.heap.size=W.heap.size+2:=by rw [←hW2];simp;omega
 have a2:AV (W.heap.size+1) 194 zs W2:=by rw [←hW2,←s1];exact AV.new W1 _ _
 rw [hW2];obtain ⟨W3,hW3⟩:∃W3,W2.setRow W.heap.size ws=W3:=⟨_,rfl⟩;have s3:W3.heap.size=W.heap.size+2:=by rw [←hW3,←s2];simp [World.setRow]
 have b3:Below W.heap.size W W3:=by rw [←hW3];exact aB (b1.trans (b2.mono (by omega))) (Nat.le_refl _) _
 have a3:AV W.heap.size 194 ws W3:=by rw [←hW3];exact (a1.below b2).oO _
 have a3':AV (W.heap.size+1) 194 zs W3:=by rw [←hW3];exact a2.qO (by omega) _
 rw [hW3];obtain ⟨W4,hW4⟩:∃W4,W3.setRow (W.heap.size+1) ks=W4:=⟨_,rfl⟩;have s4:W4.heap.size=W.heap.size+2:=by rw [←hW4,←s3];simp [World.setRow]
 have b4:Below W.heap.size W W4:=by rw [←hW4];exact aB b3 (by omega) _
 have a4:AV W.heap.size 194 ws W4:=by rw [←hW4];exact a3.qO (by omega) _
 have a4':AV (W.heap.size+1) 194 ks W4:=by rw [←hW4];exact a3'.oO _
 rw [hW4];have b5:=ag W4 (.cells (aF (List.replicate 8 0)) 171);have a5:=AV.new W4 (aF (List.replicate 8 0)) 171;rw [s4] at a5;have hl:=h.lo.size;have hr:=h.r.lt;exact ⟨⟨((h.s.below b4).below b5).qO (by have:=h.s.lt;omega) _,((h.r.below b4).below b5).qO (by omega) _,aB (ai h.lo (b4.trans (b5.mono (by omega)))) (by omega) _⟩,by omega,(a4.below b5).qO (by omega) _,(a4'.below b5).qO (by omega) _,a5.oO _⟩
theorem Jb (W:World) (zs ws ks:Array Value):((((W.alloc (.cells zs 194)).alloc (.cells zs 194)).setRow W.heap.size ws).setRow (W.heap.size+1) ks).heap.size=W.heap.size+2:=by simp [World.setRow]
theorem P5 (W:World) (zs ws ks:Array Value):Below W.heap.size W ((((W.alloc (.cells zs 194)).alloc (.cells zs 194)).setRow W.heap.size ws).setRow (W.heap.size+1) ks):=
 aB (aB (ai (ag W _) (ag _ _)) (Nat.le_refl _) _) (Nat.le_succ _) _
theorem XW {w W:World} {cs:Array Value} (h:Wv w cs W) (zs ws ks:Array Value):oL ((((W.alloc (.cells zs 194)).alloc (.cells zs 194)).setRow W.heap.size ws).setRow (W.heap.size+1) ks) w.heap.size cs:=(h.s.below (P5 W zs ws ks)).kz
theorem XX (W:World) (zs ws ks cs:Array Value):(((((W.alloc (.cells zs 194)).alloc (.cells zs 194)).setRow W.heap.size ws).setRow (W.heap.size+1) ks).alloc (.cells cs 171)).heap[W.heap.size+2]? =some (.cells cs 171 (0,0)):=by
 rw [←Jb W zs ws ks];exact heap_alloc_last _ _
theorem step_r (w:World) (bb off c:Nat) (ss:List Int) (hs:ss.length=8) (xs:List UInt8) (hx:xs.length=64) (hb:bb<w.heap.size) (hA:∀j,j<64→w.cell? ⟨bb,off+j,none⟩=some (Extern.Stop.cell (xs[j]?.getD 0))):
  Calls Tryz.prog 79 #[.agg (aF ss), .slice (some ⟨bb,off,none⟩) 64 c] w fun e w'=>∃zs:List Int,zs.length=8∧e= .returned (.agg (aF zs))∧Below w.heap.size w w':=by
 obtain ⟨cs,hcs⟩:∃a,aF ss=a:=⟨_,rfl⟩;rw [hcs];have hz:cs.size=8:=by rw [←hcs,bT,hs]
 have HCS:=ae hcs;have uV:=ae hs;have H0:=ae (Wv.start w cs);have HEX:Hid (∀W,Below w.heap.size w W→Calls Tryz.prog 99 #[.slice (some ⟨bb,off,none⟩) 64 c] W fun e w'=>∃zs:List Int,zs.length=64∧e= .returned (.agg (aF zs))∧Below W.heap.size W w'):=
  ae fun W h=>RZ W bb off c xs hx (dW hb h.size) fun j hj=>(h.cell (p:=⟨bb,off+j,none⟩) hb).trans (hA j hj)
 have HI8:Hid ((Tryz.prog.info? 171).map (·.size)=some cs.size):=ae (by rw [hz];kernel_rfl);have Kt:Hid ((aF (List.replicate 8 0)).size=cs.size):=ae (by rw [bT,hz];simp);have mZ:Hid (cs.all (·.oneCell')=true):=ae (by rw [←hcs];exact iR _);clear hx hA hcs hs hz;go_enter Tryz.func79,Tryz.ntmps79;go_upto_region 1 with (first
  |((with_reducible refine bf 171 ?_);go_must (refine aI rfl _ rfl (aF (List.replicate 8 0)) tZ ?_)))
 generalize (w.alloc (.cells cs 171)).alloc (.cells (aF (List.replicate 8 0)) 171)=W0 at H0 ⊢;go_wp2_with fail;refine (HEX.out _ H0.out.lo).mono ?_;rintro e w1 ⟨ws,hwl,rfl,hb1⟩;have H1:=ae (H0.out.grow hb1);have HWL:=ae hwl;clear hb1 H0 HEX hwl;go_wp2_with fail;refine (Uk w1).mono ?_;rintro e w2 ⟨rfl,hb2⟩;have H2:=ae (H1.out.grow hb2);clear hb2 H1;rw [X8];obtain ⟨ks,hks⟩:∃l,rk3=l:=⟨_,rfl⟩;rw [hks];have qA:Hid (ks.length=64):=ae (by rw [←hks];rfl);clear hks;have H3:=ae (DX.start H2.out (aF ws) (aF ks) (aF (List.replicate 64 0)));have HI4:Hid ((Tryz.prog.info? 194).map (·.size)=some (aF ws).size):=ae (by rw [bT,HWL.out];kernel_rfl);have Qu:Hid ((Tryz.prog.info? 194).map (·.size)=some (aF ks).size):=ae (by rw [bT,qA.out];kernel_rfl);have JL:Hid ((aF (List.replicate 64 0)).size=(aF ws).size):=ae (by rw [bT,bT,HWL.out];simp);have HZ5:Hid ((aF (List.replicate 64 0)).size=(aF ks).size):=ae (by rw [bT,bT,qA.out];simp);obtain ⟨u64,hu64⟩:∃l:List Int,List.replicate 64 0=l:=⟨_,rfl⟩;rw [hu64] at H3 JL HZ5;have HUI:Hid ((Tryz.prog.info? 194).map (fun i=>(i.zero,i.size))=some (some (.agg (aF u64)),(aF u64).size)):=ae (by rw [←hu64];exact yN);clear hu64;obtain ⟨u8,Zp⟩:∃l:List Int,List.replicate 8 0=l:=⟨_,rfl⟩;rw [Zp] at H3 Kt;have HU8:Hid ((Tryz.prog.info? 171).map (fun i=>(i.zero,i.size))=some (some (.agg (aF u8)),(aF u8).size)):=ae (by rw [←Zp];exact tZ);clear Zp;go_upto_region 2 with (first
  |((with_reducible refine bf 194 ?_);go_must (refine aI rfl _ rfl (aF u64) HUI.out ?_))
  |((with_reducible refine dS 194 ?_);go_must (first
    |(refine wpList_store_row rfl _ _ _ rfl w2.heap.size (aF ws) rfl rfl 194 (aF u64) (heap_alloc2_old w2 _ _) HI4.out JL.out (iR _) ?_)
    |(refine wpList_store_row rfl _ _ _ rfl (w2.heap.size+1) (aF ks) (congrArg (fun b=>Value.pointer (some ⟨b,0,none⟩)) (nV w2 _)) rfl 194 (aF u64) ((setRow_other _ _ _ _ (by omega)).trans (heap_alloc2_new w2 _ _)) Qu.out HZ5.out (iR _) ?_))))
 have HR4:=ae (XW H2.out (aF u64) (aF ws) (aF ks));have HV5:=ae (XX w2 (aF u64) (aF ws) (aF ks) (aF u8));have CP:=ae (Jb w2 (aF u64) (aF ws) (aF ks));generalize ((((w2.alloc (.cells (aF u64) 194)).alloc (.cells (aF u64) 194)).setRow w2.heap.size (aF ws)).setRow (w2.heap.size+1) (aF ks))=W4 at H3 HR4 HV5 CP ⊢;obtain ⟨wb,hwb⟩:∃b,w2.heap.size=b:=⟨_,rfl⟩;rw [hwb] at H3 HV5 CP;rw [nV w2,hwb];clear hwb H2 JL HZ5 HUI;go_wp2_with (first
  |((with_reducible refine gz 171 ?_);go_must (refine bu rfl _ _ rfl w.heap.size rfl cs HR4.out _ Tryz.underlying171 rfl HI8.out ?_))
  |((with_reducible refine bf 171 ?_);go_must (refine aI rfl _ rfl (aF u8) HU8.out ?_))
  |((with_reducible refine dS 171 ?_);go_must (refine wpList_store_row rfl _ _ _ rfl (wb+2) cs (congrArg (fun b=>Value.pointer (some ⟨b,0,none⟩)) CP.out) rfl 171 (aF u8) HV5.out HI8.out Kt.out mZ.out ?_)))
 generalize (W4.alloc (.cells (aF u8) 171)).setRow (wb+2) cs=W6 at H3 ⊢;rw [CP.out];clear HR4 HV5 CP Kt HU8
 go_loopw [8] (fun i wr=>∃(k:Nat) (ts:List Int),k≤64∧i=I k∧ts.length=8∧DX w wb cs (aF ts) (aF ws) (aF ks) wr) (fun i _=>64 - (intOf i).toNat)
 case atStart=>exact ⟨0,ss,Nat.zero_le _,rfl,uV.out,by rw [HCS.out];exact H3.out⟩
 case round=>
  obtain ⟨k,ts,hk,rfl,htl,hs⟩:=hrel;have HS:=ae hs;clear H3 hs;by_cases hlt:(k:Int)<64
  ·obtain ⟨t0,t1,t2,t3,t4,t5,t6,t7,rfl⟩:=eight3 htl;clear htl;have c0:wr.cell? ⟨wb+2,0,none⟩=some (.int .u32 t0):=HS.out.t.cell 0;have c4:wr.cell? ⟨wb+2,4,none⟩=some (.int .u32 t4):=HS.out.t.cell 4;go_wp2_with fail;go_quiet (fail);obtain ⟨W7,SE⟩:∃W,wr.drewN nq=W:=⟨_,rfl⟩;rw [SE];have Qx:Hid (DX w wb cs (aF [t0,t1,t2,t3,t4,t5,t6,t7]) (aF ws) (aF ks) W7):=ae (by rw [←SE];exact HS.out.drewN nq);clear SE c0 c4 HS;obtain ⟨wk,hwk⟩:∃z,ws[k]?.getD 0=z:=⟨_,rfl⟩;obtain ⟨kk,hkk⟩:∃z,ks[k]?.getD 0=z:=⟨_,rfl⟩;have cw:W7.cell? ⟨wb,k,none⟩=some (.int .u32 wk):=(Qx.out.w.cell k).trans (by rw [gK _ _ (by rw [HWL.out];omega),hwk]);have ck:W7.cell? ⟨wb+1,k,none⟩=some (.int .u32 kk):=(Qx.out.k.cell k).trans (by rw [gK _ _ (by rw [qA.out];omega),hkk]);clear hwk hkk;have c0:W7.cell? ⟨wb+2,0,none⟩=some (.int .u32 t0):=Qx.out.t.cell 0;have c1:W7.cell? ⟨wb+2,1,none⟩=some (.int .u32 t1):=Qx.out.t.cell 1;have c2:W7.cell? ⟨wb+2,2,none⟩=some (.int .u32 t2):=Qx.out.t.cell 2;have c3:W7.cell? ⟨wb+2,3,none⟩=some (.int .u32 t3):=Qx.out.t.cell 3;have c4:W7.cell? ⟨wb+2,4,none⟩=some (.int .u32 t4):=Qx.out.t.cell 4;have c5:W7.cell? ⟨wb+2,5,none⟩=some (.int .u32 t5):=Qx.out.t.cell 5;have c6:W7.cell? ⟨wb+2,6,none⟩=some (.int .u32 t6):=Qx.out.t.cell 6;have c7:W7.cell? ⟨wb+2,7,none⟩=some (.int .u32 t7):=Qx.out.t.cell 7;go_wp2_with fail;go_quiet ((go_at_call 101;exact BH _ _ _ _ (by omega) (by omega)));generalize (((t7+bits BinOp.xor IntKind.u32 (bits BinOp.xor IntKind.u32 (tJ t4 6) (tJ t4 11)) (tJ t4 25)+bits BinOp.xor IntKind.u32 (bits BinOp.and IntKind.u32 t4 t5) (bits BinOp.and IntKind.u32 ((4294967295 - t4)%4294967296) t6)+kk)%4294967296+wk)%4294967296)=X;obtain ⟨W8,hW8⟩:∃W,W7.drewN nq=W:=⟨_,rfl⟩;rw [hW8];have HS8:Hid (DX w wb cs (aF [t0,t1,t2,t3,t4,t5,t6,t7]) (aF ws) (aF ks) W8):=ae (by rw [←hW8];exact Qx.out.drewN nq);clear hW8 c0 c1 c2 c3 c4 c5 c6 c7 cw ck Qx;have c1:W8.cell? ⟨wb+2,1,none⟩=some (.int .u32 t1):=HS8.out.t.cell 1;have c2:W8.cell? ⟨wb+2,2,none⟩=some (.int .u32 t2):=HS8.out.t.cell 2;go_wp2_with fail;go_quiet ((go_at_call 101;exact BH _ _ _ _ (by omega) (by omega)));generalize ((bits BinOp.xor IntKind.u32 (bits BinOp.xor IntKind.u32 (tJ t0 2) (tJ t0 13)) (tJ t0 22)+bits BinOp.xor IntKind.u32 (bits BinOp.xor IntKind.u32 (bits BinOp.and IntKind.u32 t0 t1) (bits BinOp.and IntKind.u32 t0 t2)) (bits BinOp.and IntKind.u32 t1 t2))%4294967296)=Y;obtain ⟨W9,hW9⟩:∃W,W8.drewN nq=W:=⟨_,rfl⟩;rw [hW9];have Vs:Hid (DX w wb cs (aF [t0,t1,t2,t3,t4,t5,t6,t7]) (aF ws) (aF ks) W9):=ae (by rw [←hW9];exact HS8.out.drewN nq);clear hW9 c1 c2 HS8;have c0:W9.cell? ⟨wb+2,0,none⟩=some (.int .u32 t0):=Vs.out.t.cell 0;have c1:W9.cell? ⟨wb+2,1,none⟩=some (.int .u32 t1):=Vs.out.t.cell 1;have c2:W9.cell? ⟨wb+2,2,none⟩=some (.int .u32 t2):=Vs.out.t.cell 2;have c3:W9.cell? ⟨wb+2,3,none⟩=some (.int .u32 t3):=Vs.out.t.cell 3;have c4:W9.cell? ⟨wb+2,4,none⟩=some (.int .u32 t4):=Vs.out.t.cell 4;have c5:W9.cell? ⟨wb+2,5,none⟩=some (.int .u32 t5):=Vs.out.t.cell 5;have c6:W9.cell? ⟨wb+2,6,none⟩=some (.int .u32 t6):=Vs.out.t.cell 6;have c7:W9.cell? ⟨wb+2,7,none⟩=some (.int .u32 t7):=Vs.out.t.cell 7;have HI9:Hid ((Tryz.prog.info? 171).map (·.size)=some (aF [(X+Y)%4294967296,t0,t1,t2,(t3+X)%4294967296,t4,t5,t6]).size):=ae (by kernel_rfl);go_wp2_with ((with_reducible refine dS 171 ?_);go_must (refine wpList_store_row rfl _ _ _ rfl (wb+2) (aF [(X+Y)%4294967296,t0,t1,t2,(t3+X)%4294967296,t4,t5,t6]) rfl rfl 171 (aF [t0,t1,t2,t3,t4,t5,t6,t7]) Vs.out.t.var HI9.out rfl (iR _) ?_));go_roundw
   case rel=>exact ⟨k+1,_,by omega,by go_num,rfl,Vs.out.row _⟩
   case measure=>simp [intOf];omega
  ·have zt:=ae htl;clear htl;go_wp2_with fail
   go_loopw [13] (fun i wr=>∃(k:Nat) (zs:List Int),k≤8∧i=I k∧zs.length=8∧DX w wb cs (aF zs) (aF ws) (aF ks) wr) (fun i _=>8 - (intOf i).toNat)
   case atStart=>exact ⟨0,ts,Nat.zero_le _,rfl,zt.out,HS.out⟩
   case round=>
    clear HS zt hlt;obtain ⟨j,zs,hj,rfl,hzl,hs⟩:=hrel;have HS:=ae hs;have HL:=ae hzl;clear hs hzl;by_cases hlt:(j:Int)<8
    ·obtain ⟨sj,hsj⟩:∃z,ss[j]?.getD 0=z:=⟨_,rfl⟩;obtain ⟨tj,htj⟩:∃z,zs[j]?.getD 0=z:=⟨_,rfl⟩;have cS:wr.cell? ⟨w.heap.size,j,none⟩=some (.int .u32 sj):=(HS.out.b.s.cell j).trans (by rw [←HCS.out,gK _ _ (by rw [uV.out];omega),hsj]);have cT:wr.cell? ⟨wb+2,j,none⟩=some (.int .u32 tj):=(HS.out.t.cell j).trans (by rw [gK _ _ (by rw [HL.out];omega),htj]);have cf:=HS.out.t.eY j;clear hsj htj;go_wp2_with fail;go_still_tail 9,(by kernel_rfl);change wpList _ _ _ _ _ wr.drew;go_wp2_with fail;go_roundw
     case rel=>exact ⟨j+1,zs.set j _,by omega,by go_num,by rw [List.length_set,HL.out],HS.out.drew.put j _⟩
     case measure=>simp [intOf];omega
    ·have pg:Hid ((Tryz.prog.info? 171).map (·.size)=some (aF zs).size):=ae (by rw [bT,HL.out];kernel_rfl);have HRW:Hid (oL wr (wb+2) (aF zs)):=ae HS.out.t.kz;have mr:Hid ((aF (List.replicate 8 0)).size=(aF zs).size):=ae (by rw [bT,bT,HL.out];simp);go_wp2_with (first
      |((with_reducible refine gz 171 ?_);go_must (refine bu rfl _ _ rfl (wb+2) rfl (aF zs) HRW.out _ Tryz.underlying171 rfl pg.out ?_))
      |((with_reducible refine dS 171 ?_);go_must (refine wpList_store_row rfl _ _ _ rfl (w.heap.size+1) (aF zs) rfl rfl 171 (aF (List.replicate 8 0)) HS.out.b.r.var pg.out mr.out (iR _) ?_)))
     refine bodyPost_ret (v:= .agg (aF zs)) (results_cell_row rfl _ _ (w.heap.size+1) _ (aF zs) (0,0) _ rfl (setRow_heap _ _ _ _ _ _ HS.out.b.r.var) Tryz.underlying171 rfl pg.out) rfl ?_;exact ⟨zs,HL.out,rfl,aB HS.out.b.lo (Nat.le_succ _) _⟩
theorem uh.app0 {w w3:World} {v v':Value} (hg:w.grownBy w3 v.ownBlock) (hat:v'.ownBlock=v.ownBlock∨v'.ownBlock=some w.heap.size):uh v w v' w3:=
 ⟨hg.os,hg.tape,hg.output,hg.size,fun k hk hv=>hg.block k hk hv,hat.imp id fun e=>⟨_,e,Nat.le_refl _⟩⟩
theorem uh.je {w w':World} {v:Value} (h:uh (.slice none 0 0) w v w'):Below w.heap.size w w':=h.wG (fun g hg=>by cases hg) (Nat.le_refl _)
theorem NI {α β:Type} (f:α→List β) (l:List α) (s k:Nat) (h:∀x∈l,(f x).length≤s):((l.take k).flatMap f).length≤l.length*s:=by
 induction l generalizing k with
 |nil=>simp
 |cons x l ih=>
  cases k with
  |zero=>simp
  |succ k=>
   rw [List.take_succ_cons,List.flatMap_cons,bH,List.length_cons,Nat.succ_mul];have h1:=h x (List.mem_cons_self ..);have h2:=ih k (fun y hy=>h y (List.mem_cons_of_mem _ hy));omega
def rQ (e:Ze):List UInt8:=le e.name.size 1++(e.name.data.toList++Gt e.z)
def pJ (t:Tb):List UInt8:= [byteOf t.bV,byteOf t.version,byteOf t.aO]++(t.prev++(le t.aG.length 1++t.aG.flatMap rQ))
theorem Yh (e:Ze) (h:Gz e.z) (hn:e.name.size≤2):(rQ e).length≤103:=by
 have h1:=U8 e.z h;have h2:e.name.data.toList.length=e.name.size:=by rw [Array.length_toList];rfl
 simp only [rQ,bH,aC];omega
theorem CB.lit {w W:World} {cs:Array Value} (hr:Row W w.heap.size cs) (hb:Below w.heap.size w W) (bs:List UInt8) (n:Nat) (hl:bs.length=n) (hn:n≤1000) (vs:Array Value) (hv:vs.toList=bs.map Extern.Stop.cell):CB w.heap.size (.slice none 0 0) w cs bs (some ⟨W.heap.size,0,none⟩) n n (W.alloc (.cells vs 5)):=by
 have hlt:=hr.1;have ho:(W.alloc (.cells vs 5)).ownsRow W.heap.size 5 1 (.slice (some ⟨W.heap.size,0,none⟩) n n) n vs.toList:=World.ownsRow_lit W vs n (Nat.le_refl _) (by unfold maxLen;omega) (by rw [←Array.length_toList,hv,List.length_map,hl,Nat.mul_one]);have hb2:Below w.heap.size w (W.alloc (.cells vs 5)):=ai hb (ag W _);refine ⟨hr.keep (ag W _),mY.lower (lo:=W.heap.size) (by rw [hv] at ho;exact ho) hb.size,hl,⟨hb2.os,hb2.tape,hb2.output,hb2.size,fun k hk _=>hb2.block k hk, .inr ⟨W.heap.size,rfl,hb.size⟩⟩,fun e=>?_⟩;have h:w.heap.size=W.heap.size:=Option.some.inj e;omega
def OB (w:World) (t:Tb) (e:Ending) (w':World):Prop:=∃A n c,(pJ t).length=n∧e= .returned (.tuple #[.slice A n c, .int .i64 0])∧mY w.heap.size w' A n c (pJ t)∧Below w.heap.size w w'
end Go.Proofs.YtbaehbbonkljpaaGreat
