/- The texts Ku, Kw, Kx, Ky, Kz, Kv, La, Lc, Kj, in this order. -/
import Derived.Test.YtdibbemgpikgjaaGreatDoorY00
import Derived.Test.YtdibbemgpikgjaaGreatDoorY01
import Derived.Test.YtdibbemgpikgjaaGreatDoorY13
import Derived.Test.YtdibbemgpikgjaaGreatDoorY18
import Derived.Test.YtdibbemgpikgjaaGreatDoorY25
import Derived.Test.YtdibbemgpikgjaaGreatDoorY30
import Derived.Test.YtdibbemgpikgjaaGreatDoorY32
set_option maxRecDepth 10000
set_option maxHeartbeats 8000000
namespace Go.Proofs.YtdibbemgpikgjaaGreatDoor
open Go Go.RowKit
def dY (x n:Int):Int:=bits BinOp.or IntKind.u32 (x / 2 ^ n.toNat) (x*2 ^ (32 - n).toNat%4294967296)
theorem Uw (x n:Int) (w:World) (h0:0<n) (h1:n<32):
  Calls Tryz.prog 101 #[.int .u32 x,I n] w fun e w'=>e= .returned (.int .u32 (dY x n))∧∃k,w'=w.drewN k:=by
 have h2:0≤32 - n:=by omega
 have h3:IntKind.i64.wrap (32 - n)=32 - n:=by rw [IntKind.wrap_i64];omega
 go_enter Tryz.func101,Tryz.ntmps101;go_wp2_with fail;go_quiet (fail);go_wp2_with fail;go_ret;exact ⟨rfl,_,rfl⟩
def um:List Int:= [1116352408,1899447441,3049323471,3921009573,961987163,1508970993,2453635748,2870763221,3624381080,310598401,607225278,1426881987,1925078388,2162078206,2614888103,3248222580,3835390401,4022224774,264347078,604807628,770255983,1249150122,1555081692,1996064986,2554220882,2821834349,2952996808,3210313671,3336571891,3584528711,113926993,338241895,666307205,773529912,1294757372,1396182291,1695183700,1986661051,2177026350,2456956037,2730485921,2820302411,3259730800,3345764771,3516065817,3600352804,4094571909,275423344,430227734,506948616,659060556,883997877,958139571,1322822218,1537002063,1747873779,1955562222,2024104815,2227730452,2361852424,2428436474,2756734187,3204031479,3329325298]
def JC (l:List Int):Array Value:=(l.map (Value.int .u32)).toArray
theorem Uy (l:List Int):(JC l).all (·.oneCell')=true:=by
 unfold JC;rw [Array.all_eq_true'];intro u hu;simp only [List.mem_toArray,List.mem_map] at hu;obtain ⟨x,_,rfl⟩:=hu;rfl
theorem Uc (w:World):Calls Tryz.prog 100 #[] w (Gives (.agg (JC um)) w):=by
 go_enter Tryz.func100,Tryz.ntmps100;go_wp2_with ((with_reducible refine eF 170 ?_);go_must (refine wpList_store_row rfl _ _ _ rfl w.heap.size (JC um) rfl rfl 170 (JC (List.replicate 64 0)) (heap_alloc_last w _) (by kernel_rfl) rfl (Uy _) ?_));refine bodyPost_ret (v:= .agg (JC um)) (results_cell_row rfl _ _ w.heap.size _ (JC um) (0,0) _ rfl (setRow_heap _ _ _ _ _ _ (heap_alloc_last w _)) Tryz.underlying170 rfl (by kernel_rfl)) rfl ?_;exact ⟨rfl,below_setRow (ag w _) (Nat.le_refl _) _⟩
theorem Xy (l:List Int):JC l=au l:=rfl
theorem CW (x n:Int) (w:World) (k:Nat) (h0:0<n) (h1:n<32):Calls Tryz.prog 101 #[.int .u32 x,I n] (w.drewN k) fun e w''=>e= .returned (.int .u32 (dY x n))∧∃m,w''=w.drewN m:=
 Calls.quiet_of (Uw x n _ h0 h1)
structure JY (w:World) (zs:List Int) (wr:World):Prop where
 var:AV (w.heap.size+1) 170 (au zs) wr
 res:AV w.heap.size 170 (au (List.replicate 64 0)) wr
 lo:Below w.heap.size w wr
theorem JY.drew {w wr:World} {zs:List Int} (h:JY w zs wr):JY w zs wr.drew:=⟨h.var.drew,h.res.drew,h.lo.drew⟩
theorem JY.put {w wr:World} {zs:List Int} (h:JY w zs wr) (i:Nat) (z:Int):JY w (zs.set i z) (wr.setCell ⟨w.heap.size+1,i,none⟩ (.int .u32 z)):=
 ⟨by rw [←rF];exact h.var.put i _,h.res.far (by omega) _ _,h.lo.setCell (p:=⟨w.heap.size+1,i,none⟩) (Nat.le_succ _) _⟩
theorem JY.drewN {w wr:World} {zs:List Int} (h:JY w zs wr) (n:Nat):JY w zs (wr.drewN n):=⟨⟨h.var.var⟩,⟨h.res.var⟩,⟨h.lo.os,h.lo.tape,h.lo.output,h.lo.size,h.lo.block⟩⟩
theorem uz:(Tryz.prog.info? 117).map (fun i=>(i.zero,i.size))=some (some (.agg (au (List.replicate 8 0))),(au (List.replicate 8 0)).size):=by kernel_rfl
theorem BO {t:List Int} (h:t.length=8):∃a b c d e f g i,t= [a,b,c,d,e,f,g,i]:=by
 match t,h with
 | [a,b,c,d,e,f,g,i],_=>exact ⟨a,b,c,d,e,f,g,i,rfl⟩
structure VG (w:World) (cs:Array Value) (W:World):Prop where
 s:AV w.heap.size 117 cs W
 r:AV (w.heap.size+1) 117 (au (List.replicate 8 0)) W
 lo:Below w.heap.size w W
theorem VG.start (w:World) (cs:Array Value):VG w cs ((w.alloc (.cells cs 117)).alloc (.cells (au (List.replicate 8 0)) 117)):=
 ⟨⟨heap_alloc2_old w _ _⟩,⟨heap_alloc2_new w _ _⟩,ah (ag w _) (ag _ _)⟩
theorem VG.grow {w W W':World} {cs:Array Value} (h:VG w cs W) (hb:Below W.heap.size W W'):VG w cs W':=
 ⟨h.s.below hb,h.r.below hb,ah h.lo hb⟩
structure Bi (w:World) (wb:Nat) (cs ts ws ks:Array Value) (W:World):Prop where
 b:VG w cs W
 hw:w.heap.size+2≤wb
 w:AV wb 170 ws W
 k:AV (wb+1) 170 ks W
 t:AV (wb+2) 117 ts W
theorem Bi.drewN {w W:World} {wb:Nat} {cs ts ws ks:Array Value} (h:Bi w wb cs ts ws ks W) (n:Nat):Bi w wb cs ts ws ks (W.drewN n):=
 ⟨⟨⟨h.b.s.var⟩,⟨h.b.r.var⟩,⟨h.b.lo.os,h.b.lo.tape,h.b.lo.output,h.b.lo.size,h.b.lo.block⟩⟩,h.hw,⟨h.w.var⟩,⟨h.k.var⟩,⟨h.t.var⟩⟩
theorem Bi.drew {w W:World} {wb:Nat} {cs ts ws ks:Array Value} (h:Bi w wb cs ts ws ks W):Bi w wb cs ts ws ks W.drew:=
 ⟨⟨⟨h.b.s.var⟩,⟨h.b.r.var⟩,⟨h.b.lo.os,h.b.lo.tape,h.b.lo.output,h.b.lo.size,h.b.lo.block⟩⟩,h.hw,⟨h.w.var⟩,⟨h.k.var⟩,⟨h.t.var⟩⟩
theorem Bi.row {w W:World} {wb:Nat} {cs ts ws ks:Array Value} (h:Bi w wb cs ts ws ks W) (ds:Array Value):Bi w wb cs ds ws ks (W.setRow (wb+2) ds):=by
 have hw:=h.hw;exact ⟨⟨h.b.s.rP (by omega) _,h.b.r.rP (by omega) _,aB h.b.lo (by omega) _⟩,h.hw,h.w.rP (by omega) _,h.k.rP (by omega) _,h.t.oZ _⟩
theorem Bi.put {w W:World} {wb:Nat} {cs ws ks:Array Value} {zs:List Int} (h:Bi w wb cs (au zs) ws ks W) (i:Nat) (z:Int):Bi w wb cs (au (zs.set i z)) ws ks (W.setCell ⟨wb+2,i,none⟩ (.int .u32 z)):=by
 have hw:=h.hw;exact ⟨⟨h.b.s.far (by omega) _ _,h.b.r.far (by omega) _ _,h.b.lo.setCell (p:=⟨wb+2,i,none⟩) (show w.heap.size≤wb+2 by omega) _⟩,h.hw,h.w.far (by omega) _ _,h.k.far (by omega) _ _,by rw [←rF];exact h.t.put i _⟩
theorem Bi.start {w W:World} {cs:Array Value} (h:VG w cs W) (ws ks zs:Array Value):Bi w W.heap.size cs cs ws ks ((((((W.alloc (.cells zs 170)).alloc (.cells zs 170)).setRow W.heap.size ws).setRow (W.heap.size+1) ks).alloc (.cells (au (List.replicate 8 0)) 117)).setRow (W.heap.size+2) cs):=by
 obtain ⟨W1,hW1⟩:∃W1,W.alloc (.cells zs 170)=W1:=⟨_,rfl⟩;have s1:W1.heap.size=W.heap.size+1:=by rw [←hW1];simp
 have b1:Below W.heap.size W W1:=by rw [←hW1];exact ag W _
 have a1:AV W.heap.size 170 zs W1:=by rw [←hW1];exact AV.new W _ _
 rw [hW1];obtain ⟨W2,hW2⟩:∃W2,W1.alloc (.cells zs 170)=W2:=⟨_,rfl⟩;have b2:Below W1.heap.size W1 W2:=by rw [←hW2];exact ag W1 _
 have s2:W2.heap.size=W.heap.size+2:=by rw [←hW2];simp;omega
 have a2:AV (W.heap.size+1) 170 zs W2:=by rw [←hW2,←s1];exact AV.new W1 _ _
 rw [hW2];obtain ⟨W3,hW3⟩:∃W3,W2.setRow W.heap.size ws=W3:=⟨_,rfl⟩;have s3:W3.heap.size=W.heap.size+2:=by rw [←hW3,←s2];simp [World.setRow]
 have b3:Below W.heap.size W W3:=by rw [←hW3];exact aB (b1.trans (b2.mono (by omega))) (Nat.le_refl _) _
 have a3:AV W.heap.size 170 ws W3:=by rw [←hW3];exact (a1.below b2).oZ _
 have a3':AV (W.heap.size+1) 170 zs W3:=by rw [←hW3];exact a2.rP (by omega) _
 rw [hW3];obtain ⟨W4,oP⟩:∃W4,W3.setRow (W.heap.size+1) ks=W4:=⟨_,rfl⟩;have s4:W4.heap.size=W.heap.size+2:=by rw [←oP,←s3];simp [World.setRow]
 have b4:Below W.heap.size W W4:=by rw [←oP];exact aB b3 (by omega) _
 have a4:AV W.heap.size 170 ws W4:=by rw [←oP];exact a3.rP (by omega) _
 have a4':AV (W.heap.size+1) 170 ks W4:=by rw [←oP];exact a3'.oZ _
 rw [oP];have b5:=ag W4 (.cells (au (List.replicate 8 0)) 117);have a5:=AV.new W4 (au (List.replicate 8 0)) 117;rw [s4] at a5;have hl:=h.lo.size;have hr:=h.r.lt;exact ⟨⟨((h.s.below b4).below b5).rP (by have:=h.s.lt;omega) _,((h.r.below b4).below b5).rP (by omega) _,aB (ah h.lo (b4.trans (b5.mono (by omega)))) (by omega) _⟩,by omega,(a4.below b5).rP (by omega) _,(a4'.below b5).rP (by omega) _,a5.oZ _⟩
theorem Jm (W:World) (zs ws ks:Array Value):((((W.alloc (.cells zs 170)).alloc (.cells zs 170)).setRow W.heap.size ws).setRow (W.heap.size+1) ks).heap.size=W.heap.size+2:=by simp [World.setRow]
theorem Qg (W:World) (zs ws ks:Array Value):Below W.heap.size W ((((W.alloc (.cells zs 170)).alloc (.cells zs 170)).setRow W.heap.size ws).setRow (W.heap.size+1) ks):=
 aB (aB (ah (ag W _) (ag _ _)) (Nat.le_refl _) _) (Nat.le_succ _) _
theorem Xp {w W:World} {cs:Array Value} (h:VG w cs W) (zs ws ks:Array Value):fD ((((W.alloc (.cells zs 170)).alloc (.cells zs 170)).setRow W.heap.size ws).setRow (W.heap.size+1) ks) w.heap.size cs:=(h.s.below (Qg W zs ws ks)).iY
theorem Xq (W:World) (zs ws ks cs:Array Value):(((((W.alloc (.cells zs 170)).alloc (.cells zs 170)).setRow W.heap.size ws).setRow (W.heap.size+1) ks).alloc (.cells cs 117)).heap[W.heap.size+2]? =some (.cells cs 117 (0,0)):=by
 rw [←Jm W zs ws ks];exact heap_alloc_last _ _
theorem Oi {α β:Type} (f:α→List β) (l:List α) (s k:Nat) (h:∀x∈l,(f x).length≤s):((l.take k).flatMap f).length≤l.length*s:=by
 induction l generalizing k with
 |nil=>simp
 |cons x l ih=>
  cases k with
  |zero=>simp
  |succ k=>
   rw [List.take_succ_cons,List.flatMap_cons,aZ,List.length_cons,Nat.succ_mul];have h1:=h x (List.mem_cons_self ..);have h2:=ih k (fun y hy=>h y (List.mem_cons_of_mem _ hy));omega
def uY (e:Ze):List UInt8:=le e.name.size 1++(e.name.data.toList++JO e.z)
def xE (t:Tb):List UInt8:= [byteOf t.aP,byteOf t.version,byteOf t.aC]++(t.prev++(le t.aK.length 1++t.aK.flatMap uY))
theorem OV (e:Ze) (h:uS e.z) (hn:e.name.size≤2):(uY e).length≤103:=by
 have h1:=UH e.z h;have h2:e.name.data.toList.length=e.name.size:=by rw [Array.length_toList];rfl
 simp only [uY,aZ,aF];omega
theorem CB.lit {w W:World} {cs:Array Value} (hr:Row W w.heap.size cs) (hb:Below w.heap.size w W) (bs:List UInt8) (n:Nat) (hl:bs.length=n) (hn:n≤1000) (vs:Array Value) (hv:vs.toList=bs.map Extern.Stop.cell):CB w.heap.size (.slice none 0 0) w cs bs (some ⟨W.heap.size,0,none⟩) n n (W.alloc (.cells vs 5)):=by
 have hlt:=hr.1;have ho:(W.alloc (.cells vs 5)).ownsRow W.heap.size 5 1 (.slice (some ⟨W.heap.size,0,none⟩) n n) n vs.toList:=World.ownsRow_lit W vs n (Nat.le_refl _) (by unfold maxLen;omega) (by rw [←Array.length_toList,hv,List.length_map,hl,Nat.mul_one]);have hb2:Below w.heap.size w (W.alloc (.cells vs 5)):=ah hb (ag W _);refine ⟨hr.keep (ag W _),nH.lower (lo:=W.heap.size) (by rw [hv] at ho;exact ho) hb.size,hl,⟨hb2.os,hb2.tape,hb2.output,hb2.size,fun k hk _=>hb2.block k hk, .inr ⟨W.heap.size,rfl,hb.size⟩⟩,fun e=>?_⟩;have h:w.heap.size=W.heap.size:=Option.some.inj e;omega
def YR (w:World) (t:Tb) (e:Ending) (w':World):Prop:=∃A n c,(xE t).length=n∧e= .returned (.tuple #[.slice A n c, .int .i64 0])∧nH w.heap.size w' A n c (xE t)∧Below w.heap.size w w'
attribute [local go_sem] jy jA jQ bD
theorem EG (x:bI) (w:World) (hx:jE w w.heap.size x) (h:FN x.t):
  Calls Tryz.prog 44 #[.agg (ai x.t (.slice x.A x.zs.length x.c))] w (YR w x.t):=by
 obtain ⟨i0,hi,hz0,hz1,hz2⟩:=info_parts kF;have HI:=ae hi;have HZ0:=ae hz0;have HZ1:=ae hz1;have HZ2:=ae hz2;clear hi hz0 hz1 hz2;have QP:Hid (∀W,Below w.heap.size w W→Calls Tryz.prog 64 #[.agg (ai x.t (.slice x.A x.zs.length x.c))] W (Gives (.int .i64 0) W)):=ae fun W hb=>Qs x W (hx.grow hb) h;obtain ⟨t,A,c,zs⟩:=x;obtain ⟨hz,hp,hm,hA⟩:=hx;simp only at hz hp hm hA h QP ⊢;obtain ⟨n,hn⟩:∃n,zs.length=n:=⟨_,rfl⟩;rw [hn] at QP ⊢;have HB0:=ae (ag w (.cells (ai t (.slice A n c)) 37));have HR0:=ae (Row.new w (ai t (.slice A n c)) 37);have dR:=ae (bU t (.slice A n c) hp hm);have hn3:n≤3:=by have:=h.num;rw [hz,List.length_map,hn] at this;exact this
 have HF:=ae h;have HZ:=ae hz;have Dv:=ae hn;have Dw:=ae hp;have HA:=ae hA;have h32:(Tryz.prog.info? 23).map (·.size)=some (aj t.prev).length:=by rw [show (aj t.prev).length=32 by simp [aj,hp]];kernel_rfl
 have QE:=ae h32;clear h hz hp hm hA hn h32;go_enter Tryz.func44,Tryz.ntmps44;go_wp2_with ((with_reducible refine fU 37 ?_);go_must (refine aY rfl _ _ rfl w.heap.size rfl (ai t (.slice A n c)) HR0.out _ Tryz.underlying37 rfl dR.out ?_));refine (QP.out _ HB0.out).mono ?_;rintro e w1 ⟨rfl,hb1⟩;have HR1:=ae (HR0.out.keep hb1);have HB1:=ae (ah HB0.out hb1);have lV:Hid (CB w.heap.size (.slice none 0 0) w (ai t (.slice A n c)) [byteOf t.aP,byteOf t.version,byteOf t.aC] (some ⟨w1.heap.size,0,none⟩) 3 3 (w1.alloc (.cells #[Value.int .u8 (t.aP%256),Value.int .u8 (t.version%256),Value.int .u8 (t.aC%256)] 5))):=ae (CB.lit HR1.out HB1.out _ 3 rfl (by omega) _ (by simp only [List.map_cons,List.map_nil,dF]));have wY:=ae (mY t (.slice A n c) lV.out.row);have k1:=HR1.out.2;have hlt1:=HR1.out.1;clear hb1 HR0 HB0 QP;go_wp2_with (with_reducible refine dN 23 ?_;refine bP rfl _ _ rfl w.heap.size 4 rfl (aj t.prev) wY.out _ Tryz.underlying23 rfl QE.out ?_);generalize w1.alloc (.cells #[Value.int .u8 (t.aP%256),Value.int .u8 (t.version%256),Value.int .u8 (t.aC%256)] 5)=W1 at lV wY ⊢;refine (yt t.prev W1 Dw.out).mono ?_;rintro e w2 ⟨A2,n2,c2,l2,rfl,o2,k2⟩;have hn2:n2=32:=by rw [←l2,Dw.out]
 subst hn2;have HC2:=ae (lV.out.grow k2.jc);obtain ⟨g,cap,hgv,hgl⟩:=dE o2 (by omega);injection hgv with hA2 _ hC2;subst hA2 hC2;have NL:Hid (∀j u,(t.prev.map Extern.Stop.cell)[j]? =some u→w2.cell? ((⟨g,0,none⟩:Addr).add j)=some u):=ae (fun j u hu=>World.ownsRow.cells o2 (g:=g) rfl j u hu);have HNL:Hid ((t.prev.map Extern.Stop.cell).length=32*1):=ae (by rw [List.length_map,Dw.out]);have Ko:Hid (∀u∈t.prev.map Extern.Stop.cell,u.oneCell'=true):=ae (fun u hu=>by obtain ⟨x,_,rfl⟩:=List.mem_map.1 hu;rfl);have hsz2:w.heap.size≤w2.heap.size:=HC2.out.keep.size;obtain ⟨hd,hhd⟩:∃l,[byteOf t.aP,byteOf t.version,byteOf t.aC]=l:=⟨_,rfl⟩;have HHD:=ae hhd;rw [hhd] at HC2;have pI:=ae HC2.out.own;clear o2 l2 k2 hgl hhd k1 hlt1;go_wp2_with (at_builtin;go_must (refine wpList_append_own_at _ rfl _ _ 32 rfl w.heap.size 5 i0 (.int .u8 0) 1 1 Tryz.underlying32 HI.out HZ0.out HZ1.out HZ2.out rfl (by decide) _ 3 (hd.map Extern.Stop.cell) rfl pI.out ⟨g,0,none⟩ 32 c2 (t.prev.map Extern.Stop.cell) rfl HNL.out NL.out Ko.out (by unfold maxLen;omega) (by omega) (by omega) ?_));intro v' w3 hown hg _ hat;obtain ⟨A3,c3,rfl⟩:=dG hown;have sG:Hid (CB w.heap.size (.slice none 0 0) w (ai t (.slice A n c)) (hd++t.prev) A3 35 c3 w3):=ae (HC2.out.next (by unfold nH;rw [List.map_append];exact hown) (by rw [aZ,HC2.out.len,Dw.out]) (uD.app0 hg hat));clear hown hg hat;have k1:=sG.out.row.2;have hlt1:=sG.out.row.1;go_wp2_with fail;refine (dQ w.heap.size _ _ 1 _ _ n _ sG.out.len (by omega) (by omega) ⟨by omega,by omega⟩ sG.out.keep.size sG.out.own).mono ?_;rintro e w4 ⟨A4,n4,c4,l4,rfl,o4,k4⟩;have sQ:=ae (sG.out.next o4 l4 k4);have HZL:Hid (∀k,((t.aK.take k).flatMap uY).length≤400):=ae (fun k=>by
  have:=Oi uY t.aK 103 k (fun e he=>OV e (HF.out.aK e he).made (by obtain ⟨j,hj⟩:=List.getElem?_of_mem he;rw [HF.out.names j e hj,rV];omega));have h2:=HF.out.num;omega)
 clear l4 o4 k4 k1 hlt1;have k1:=sQ.out.row.2;have hlt1:=sQ.out.row.1;go_wp2_with fail
 go_loopw [5,6] (fun b i wr=>Hg w.heap.size (.slice none 0 0) w (ai t (.slice A n c)) (fun k=>hd++t.prev++le n 1++(t.aK.take k).flatMap uY) n b i wr) (fun _ i _=>n - (intOf i).toNat)
 case atStart=>exact ⟨0,n4,c4,A4,Nat.zero_le _,rfl,by go_num,by simpa using sQ.out⟩
 case round=>
  clear k1 hlt1;obtain ⟨k,n5,c5,A5,hk,rfl,rfl,hb⟩:=hrel;have HB:Hid (CB w.heap.size (.slice none 0 0) w (ai t (.slice A n c)) (hd++t.prev++le n 1++(t.aK.take k).flatMap uY) A5 n5 c5 wr):=ae hb;have YB:n5≤436:=by
   have h1:=HB.out.len;have h2:=HZL.out k;rw [aZ,aZ,aF,sG.out.len] at h1;omega
  clear hb;obtain ⟨pre,hpre⟩:∃l,hd++t.prev++le n 1++(t.aK.take k).flatMap uY=l:=⟨_,rfl⟩;have DJ:=ae hpre;rw [hpre] at HB;clear hpre;have k1:=HB.out.row.2;have hlt1:=HB.out.row.1;have hsz:=HB.out.keep.size;by_cases hlt:(k:Int)<(n:Int)
  ·have hkz:k<zs.length:=by rw [Dv.out];omega
   obtain ⟨x,hx⟩:∃x,zs[k]? =some x:=⟨_,bZ hkz⟩;obtain ⟨b,off,rfl,nN,hcl⟩:=HA.out.row.there (by rw [dL];omega);have hxm:x.e∈t.aK:=by rw [HZ.out];exact List.mem_map_of_mem (dS hx)
   have hzx:t.aK[k]? =some x.e:=by rw [HZ.out,List.getElem?_map,hx];rfl
   have hns:x.e.name.size=2:=by rw [HF.out.names k x.e hzx,rV]
   obtain ⟨nm,hnm⟩:∃s,x.e.name=s:=⟨_,rfl⟩;rw [hnm] at hns;have gu:Hid (∀i u,x.cells.toList[i]? =some u→w.cell? ⟨b,off+k*9+i,none⟩=some u):=ae (aA.elem (s:=9) (f:=fun x:dB=>x.cells.toList) (fun _ _=>rfl) hcl k x hx);have HNS:=ae hns;have hz1:Z14 x.e.z:=(HF.out.aK _ hxm).made.z14;have HZ14:=ae hz1;have HZN:=ae (HA.out.each x (dS hx));have HZX:=ae hzx;have Yc:=ae hnm;have z0:wr.cell? ⟨b,off+k*9,none⟩=some (.string nm):=(HB.out.keep.jc.cell (p:=⟨b,off+k*9,none⟩) nN).trans (by rw [←hnm];exact gu.out 0 _ rfl);have z1:wr.cell? ⟨b,off+k*9+1,none⟩=some (I x.e.z.cal.aX):=(HB.out.keep.jc.cell (p:=⟨b,off+k*9+1,none⟩) nN).trans (gu.out 1 _ rfl);have z2:wr.cell? ⟨b,off+k*9+2,none⟩=some (.slice x.s.A x.e.z.cal.az.length x.s.a):=(HB.out.keep.jc.cell (p:=⟨b,off+k*9+2,none⟩) nN).trans (gu.out 2 _ rfl);have z3:wr.cell? ⟨b,off+k*9+3,none⟩=some (I x.e.z.cal.dM):=(HB.out.keep.jc.cell (p:=⟨b,off+k*9+3,none⟩) nN).trans (gu.out 3 _ rfl);have z4:wr.cell? ⟨b,off+k*9+4,none⟩=some (.slice x.s.B x.e.z.cal.rules.length x.s.b):=(HB.out.keep.jc.cell (p:=⟨b,off+k*9+4,none⟩) nN).trans (gu.out 4 _ rfl);have z5:wr.cell? ⟨b,off+k*9+5,none⟩=some (I x.e.z.start):=(HB.out.keep.jc.cell (p:=⟨b,off+k*9+5,none⟩) nN).trans (gu.out 5 _ rfl);have z6:wr.cell? ⟨b,off+k*9+6,none⟩=some (.slice x.s.C x.e.z.trans.length x.s.c):=(HB.out.keep.jc.cell (p:=⟨b,off+k*9+6,none⟩) nN).trans (gu.out 6 _ rfl);have z7:wr.cell? ⟨b,off+k*9+7,none⟩=some (I x.e.z.hor):=(HB.out.keep.jc.cell (p:=⟨b,off+k*9+7,none⟩) nN).trans (gu.out 7 _ rfl);have z8:wr.cell? ⟨b,off+k*9+8,none⟩=some (.slice x.s.D x.e.z.aN.length x.s.d):=(HB.out.keep.jc.cell (p:=⟨b,off+k*9+8,none⟩) nN).trans (gu.out 8 _ rfl);have f1:fits ((nm.size:Nat):Int):=⟨by omega,by omega⟩;clear hx hcl hxm hkz hzx hns hz1;go_wp2_with fail;refine (dQ w.heap.size _ _ 1 _ _ (nm.size:Nat) _ HB.out.len (by omega) (by omega) f1 HB.out.keep.size HB.out.own).mono ?_;rintro e w6 ⟨A6,n6,d6,l6,rfl,o6,k6⟩;have sH:=ae (HB.out.next o6 l6 k6);have hn6:n6≤440:=by
    have h1:=HB.out.len;rw [aZ,aF] at l6;omega
   have WE:=sH.out.keep.size;obtain ⟨pre2,Tt⟩:∃l,pre++le (nm.size:Nat) 1=l:=⟨_,rfl⟩;have HP2:=ae Tt;rw [Tt] at sH;have wX:=ae sH.out.own;clear l6 o6 k6 k1 hlt1 Tt z0 z1 z2 z3 z4 z5 z6 z7 z8;have k1:=sH.out.row.2;have hlt1:=sH.out.row.1;have z0:w6.cell? ⟨b,off+k*9,none⟩=some (.string nm):=(sH.out.keep.jc.cell (p:=⟨b,off+k*9,none⟩) nN).trans (by rw [←hnm];exact gu.out 0 _ rfl);have z1:w6.cell? ⟨b,off+k*9+1,none⟩=some (I x.e.z.cal.aX):=(sH.out.keep.jc.cell (p:=⟨b,off+k*9+1,none⟩) nN).trans (gu.out 1 _ rfl);have z2:w6.cell? ⟨b,off+k*9+2,none⟩=some (.slice x.s.A x.e.z.cal.az.length x.s.a):=(sH.out.keep.jc.cell (p:=⟨b,off+k*9+2,none⟩) nN).trans (gu.out 2 _ rfl);have z3:w6.cell? ⟨b,off+k*9+3,none⟩=some (I x.e.z.cal.dM):=(sH.out.keep.jc.cell (p:=⟨b,off+k*9+3,none⟩) nN).trans (gu.out 3 _ rfl);have z4:w6.cell? ⟨b,off+k*9+4,none⟩=some (.slice x.s.B x.e.z.cal.rules.length x.s.b):=(sH.out.keep.jc.cell (p:=⟨b,off+k*9+4,none⟩) nN).trans (gu.out 4 _ rfl);have z5:w6.cell? ⟨b,off+k*9+5,none⟩=some (I x.e.z.start):=(sH.out.keep.jc.cell (p:=⟨b,off+k*9+5,none⟩) nN).trans (gu.out 5 _ rfl);have z6:w6.cell? ⟨b,off+k*9+6,none⟩=some (.slice x.s.C x.e.z.trans.length x.s.c):=(sH.out.keep.jc.cell (p:=⟨b,off+k*9+6,none⟩) nN).trans (gu.out 6 _ rfl);have z7:w6.cell? ⟨b,off+k*9+7,none⟩=some (I x.e.z.hor):=(sH.out.keep.jc.cell (p:=⟨b,off+k*9+7,none⟩) nN).trans (gu.out 7 _ rfl);have z8:w6.cell? ⟨b,off+k*9+8,none⟩=some (.slice x.s.D x.e.z.aN.length x.s.d):=(sH.out.keep.jc.cell (p:=⟨b,off+k*9+8,none⟩) nN).trans (gu.out 8 _ rfl);go_wp2_with (at_builtin;go_must (refine Di rfl _ _ rfl w.heap.size _ n6 (pre2.map Extern.Stop.cell) rfl wX.out nm rfl (by have:=HNS.out;omega) (by omega) ?_));intro v' w7 hown hg hat;obtain ⟨A7,d7,rfl⟩:=dG hown;have Fz:Hid (CB w.heap.size (.slice none 0 0) w (ai t (.slice (some ⟨b,off,none⟩) n c)) (pre2++nm.data.toList) A7 (n6+nm.size) d7 w7):=ae (sH.out.next (by unfold nH;rw [List.map_append];exact hown) (by rw [aZ,sH.out.len,Array.length_toList];rfl) (uD.app0 hg hat));clear hown hg hat k1 hlt1 z0 z1 z2 z3 z4 z5 z6 z7 z8;have k1:=Fz.out.row.2;have hlt1:=Fz.out.row.1;have z0:w7.cell? ⟨b,off+k*9,none⟩=some (.string nm):=(Fz.out.keep.jc.cell (p:=⟨b,off+k*9,none⟩) nN).trans (by rw [←hnm];exact gu.out 0 _ rfl);have z1:w7.cell? ⟨b,off+k*9+1,none⟩=some (I x.e.z.cal.aX):=(Fz.out.keep.jc.cell (p:=⟨b,off+k*9+1,none⟩) nN).trans (gu.out 1 _ rfl);have z2:w7.cell? ⟨b,off+k*9+2,none⟩=some (.slice x.s.A x.e.z.cal.az.length x.s.a):=(Fz.out.keep.jc.cell (p:=⟨b,off+k*9+2,none⟩) nN).trans (gu.out 2 _ rfl);have z3:w7.cell? ⟨b,off+k*9+3,none⟩=some (I x.e.z.cal.dM):=(Fz.out.keep.jc.cell (p:=⟨b,off+k*9+3,none⟩) nN).trans (gu.out 3 _ rfl);have z4:w7.cell? ⟨b,off+k*9+4,none⟩=some (.slice x.s.B x.e.z.cal.rules.length x.s.b):=(Fz.out.keep.jc.cell (p:=⟨b,off+k*9+4,none⟩) nN).trans (gu.out 4 _ rfl);have z5:w7.cell? ⟨b,off+k*9+5,none⟩=some (I x.e.z.start):=(Fz.out.keep.jc.cell (p:=⟨b,off+k*9+5,none⟩) nN).trans (gu.out 5 _ rfl);have z6:w7.cell? ⟨b,off+k*9+6,none⟩=some (.slice x.s.C x.e.z.trans.length x.s.c):=(Fz.out.keep.jc.cell (p:=⟨b,off+k*9+6,none⟩) nN).trans (gu.out 6 _ rfl);have z7:w7.cell? ⟨b,off+k*9+7,none⟩=some (I x.e.z.hor):=(Fz.out.keep.jc.cell (p:=⟨b,off+k*9+7,none⟩) nN).trans (gu.out 7 _ rfl);have z8:w7.cell? ⟨b,off+k*9+8,none⟩=some (.slice x.s.D x.e.z.aN.length x.s.d):=(Fz.out.keep.jc.cell (p:=⟨b,off+k*9+8,none⟩) nN).trans (gu.out 8 _ rfl);go_wp2_with fail;refine (UI w.heap.size (n6+nm.size) d7 A7 _ x.e.z x.s w7 Fz.out.len (by have:=HNS.out;omega) HZ14.out (HZN.out.keep Fz.out.keep.jc) Fz.out.keep.size Fz.out.own).mono ?_;rintro e w8 ⟨A8,n8,d8,l8,rfl,o8,k8⟩;have HC8:=ae (Fz.out.next o8 l8 k8);clear l8 o8 k8 k1 hlt1 z0 z1 z2 z3 z4 z5 z6 z7 z8;go_wp2_with fail;go_roundw
   case rel=>exact ⟨k+1,n8,d8,A8,by omega,rfl,by go_num,by
    have hc:=HC8.out;rw [←HP2.out,←DJ.out] at hc;show CB _ _ _ _ (_++(t.aK.take (k+1)).flatMap uY) _ _ _ _;rw [qJ _ _ _ _ HZX.out,show uY x.e=le (nm.size:Nat) 1++(nm.data.toList++JO x.e.z) by unfold uY;rw [Yc.out]];simpa [List.append_assoc] using hc⟩
   case measure=>simp [intOf];omega
  ·have HK:Hid (k=n):=ae (by omega);go_wp2_with fail;go_ret2;have hb:=HB.out;have e1:pre=xE t:=by
    rw [←DJ.out,HK.out,List.take_of_length_le (by rw [HZ.out,List.length_map,Dv.out];exact Nat.le_refl _),←HHD.out];simp [xE,HZ.out,Dv.out,List.append_assoc]
   rw [e1] at hb;exact ⟨A5,n5,c5,hb.len,rfl,hb.own,hb.keep.jc⟩
end Go.Proofs.YtdibbemgpikgjaaGreatDoor
namespace Go.Proofs.YtdibbemgpikgjaaGreatDoor
open Go Go.RowKit
section
variable {P:Program} {ops:Array Oper} {a:Act} {w:World} {rest:List Oper} {o:Oper}
theorem zV {Q:Act→Prop} (hw:Region.wanted o (yielded ops a.tmps)=true) (ty:TypeId) (x:Operand) (ho:o.op= .load ty x) (g:Nat) (hx:a.eval x= .pointer (some ⟨g,0,none⟩)) (cs:Array Value) (hr:fD w g cs)
  (d:TypeDesc) (hu:P.underlying ty=some d) (hd:d.isRow=true) (hi:(P.info? ty).map (·.size)=some cs.size)
  (h:wpStill P ops w Q rest (a.put o.dst (.agg cs))):wpStill P ops w Q (o::rest) a:=by
 refine wpStill_step fun K hK=>?_;rw [if_pos hw];have hc:w.rangeAt g 0 cs.toList:=fun j v hv=>by rw [Nat.zero_add,hr.2 j];simpa using hv
 unfold Oper.still execOp;simp only [ho,hx,Instr.loadAt,Instr.sureAddr,Sem.run_bind,Sem.run_pure,Result.andThen_ok,run_loadVar_mid w g 0 ty cs.toList d hc hu hd (by rw [hi];simp)];exact ⟨rfl,hK _ (by simpa using h)⟩
end
def cD (bs:List UInt8):Array Value:=(aj bs).toArray
theorem lD (bs:List UInt8):(cD bs).size=bs.length:=by simp [cD,aj]
theorem vV (bs:List UInt8):(cD bs).all (·.oneCell')=true:=by
 rw [Array.all_eq_true_iff_forall_mem];intro v hv;have h:v∈bs.map Extern.Stop.cell:=by simpa [cD,aj] using hv
 obtain ⟨x,_,rfl⟩:=List.mem_map.1 h;rfl
theorem Z9 (bs:List UInt8) (i:Nat) (x:UInt8):(cD bs).setIfInBounds i (Extern.Stop.cell x)=cD (bs.set i x):=by
 simp [cD,aj,List.map_set]
theorem Z8 (bs:List UInt8) (i:Nat) (h:i<bs.length):(cD bs)[i]? =some (Extern.Stop.cell (bs[i]?.getD 0)):=by
 simp [cD,aj,h]
def d32:List UInt8:=List.replicate 32 0
theorem tV:(Tryz.prog.info? 23).map (fun i=>(i.zero,i.size))=some (some (.agg (cD d32)),(cD d32).size):=by kernel_rfl
theorem Aj:d32.length=32:=by simp [d32]
def YH:List Int:= [1779033703,3144134277,1013904242,2773480762,1359893119,2600822924,528734635,1541459225]
structure DR (w:World) (zs:List Int) (W:World):Prop where
 r:AV w.heap.size 23 (cD d32) W
 s:AV (w.heap.size+1) 117 (au zs) W
 lo:Below w.heap.size w W
theorem DR.start (w:World) (z:List Int):DR w YH (((w.alloc (.cells (cD d32) 23)).alloc (.cells (au z) 117)).setRow (w.heap.size+1) (au YH)):=
 ⟨⟨(setRow_other _ _ _ _ (by omega)).trans (heap_alloc2_old w _ _)⟩,⟨setRow_heap _ _ _ _ _ _ (heap_alloc2_new w _ _)⟩,aB (ah (ag w _) (ag _ _)) (Nat.le_succ _) _⟩
theorem DR.grow {w W W':World} {zs:List Int} (h:DR w zs W) (hb:Below W.heap.size W W'):DR w zs W':=⟨h.r.below hb,h.s.below hb,ah h.lo hb⟩
theorem DR.row {w W:World} {zs:List Int} (h:DR w zs W) (ds:List Int):DR w ds (W.setRow (w.heap.size+1) (au ds)):=
 ⟨h.r.rP (by omega) _,h.s.oZ _,aB h.lo (Nat.le_succ _) _⟩
theorem DR.drew {w W:World} {zs:List Int} (h:DR w zs W):DR w zs W.drew:=⟨⟨h.r.var⟩,⟨h.s.var⟩,⟨h.lo.os,h.lo.tape,h.lo.output,h.lo.size,h.lo.block⟩⟩
theorem DR.far {w W:World} {zs:List Int} (h:DR w zs W) (b:Nat) (hb:w.heap.size+1<b) (o:Nat) (v:Value):DR w zs (W.setCell ⟨b,o,none⟩ v):=
 ⟨h.r.far (by omega) _ _,h.s.far (by omega) _ _,h.lo.setCell (p:=⟨b,o,none⟩) (show w.heap.size≤b by omega) _⟩
theorem DR.aae {w W:World} {zs:List Int} (h:DR w zs W) (b:Nat) (hb:w.heap.size+1<b) (cs:Array Value):DR w zs (W.setRow b cs):=
 ⟨h.r.rP (by omega) _,h.s.rP (by omega) _,aB h.lo (by omega) _⟩
theorem EX {w:World} {lo n c:Nat} {A:Option Addr} {bs:List UInt8} (h:nH lo w A n c bs) (h0:0<n):∃g cur,A=some ⟨g,0,none⟩∧lo≤g∧n≤c∧c≤maxLen∧AV g 5 cur w∧∀j,j<n→cur[j]? =some (Extern.Stop.cell (bs[j]?.getD 0)):=by
 have hl:bs.length=n:=by have:=h.1;rw [List.length_map] at this;omega
 rcases h.2 with ⟨_,hn⟩|⟨g,cap,cur,hv,hlo,hh,hnc,hcm,_,ht⟩
 ·omega
 ·injection hv with h1 _ h3;subst h3;refine ⟨g,cur,h1,hlo,hnc,hcm,⟨hh⟩,fun j hj=>?_⟩;have e:(cur.toList.take (n*1))[j]? =some (Extern.Stop.cell (bs[j]?.getD 0)):=by rw [ht,List.getElem?_map,bZ (by omega)];rfl
  rw [List.getElem?_take_of_lt (by omega)] at e;simpa using e
def xy (cs:Array Value) (o:Nat):List Value→Array Value
 | []=>cs
 |v::r=>xy (cs.setIfInBounds o v) (o+1) r
theorem EZ:∀(vs pre old:List Value),old.length=vs.length→xy (pre++old).toArray pre.length vs=(pre++vs).toArray
 | [],pre,old,h=>by
  have:old= []:=List.eq_nil_of_length_eq_zero h;simp [xy,this]
 |v::r,pre,old,h=>by
  obtain ⟨x,old',rfl⟩:∃x old',old=x::old':=by
   cases old with
   |nil=>simp at h
   |cons x o=>exact ⟨x,o,rfl⟩
  have h2:=EZ r (pre++ [v]) old' (by simpa using h);have e:(pre++x::old').toArray.setIfInBounds pre.length v=((pre++ [v])++old').toArray:=by simp
  unfold xy;rw [e];simpa using h2
theorem vK:∀(vs:List Value) (w:World) (b o:Nat) (cs:Array Value) (t:TypeId),w.heap[b]? =some (.cells cs t (0,0))→(w.setCells b o vs).heap[b]? =some (.cells (xy cs o vs) t (0,0))
 | [],_,_,_,_,_,h=>h
 |v::r,w,b,o,_,t,h=>vK r _ b (o+1) _ t (heap_setCell_same w b o _ _ v h)
theorem nR:∀(vs:List Value) (w:World) (b o k:Nat),k≠b→(w.setCells b o vs).heap[k]? =w.heap[k]?
 | [],_,_,_,_,_=>rfl
 |v::r,w,b,o,k,h=>(nR r _ b (o+1) k h).trans (heap_setCell_other w _ k v h)
theorem uo:∀(vs:List Value) (w:World) (b o:Nat),(w.setCells b o vs).heap.size=w.heap.size
 | [],_,_,_=>rfl
 |v::r,w,b,o=>(uo r _ b (o+1)).trans (by simp [World.setCell])
theorem nM {B b:Nat} {w0:World} (h:B≤b):∀(vs:List Value) (w:World) (o:Nat),Below B w0 w→Below B w0 (w.setCells b o vs)
 | [],_,_,hb=>hb
 |v::r,_,o,hb=>nM h r _ (o+1) (hb.setCell (p:=⟨b,o,none⟩) h v)
theorem qc (t:Tb) (v:Value):fF t v=([I t.aP,I t.version,I t.aC,v]++aj t.prev)++aj t.bn:=by simp [fF]
theorem MV (t:Tb) (v:Value) (m:List UInt8) (hp:t.prev.length=32) (h1:t.bn.length=32) (h2:m.length=32):xy (ai t v) 36 (aj m)=ai {t with bn:=m} v:=by
 have h:=EZ (aj m) ([I t.aP,I t.version,I t.aC,v]++aj t.prev) (aj t.bn) (by simp [aj,h1,h2]);have hl:([I t.aP,I t.version,I t.aC,v]++aj t.prev).length=36:=by simp [aj,hp]
 rw [hl] at h;unfold ai;rw [qc,qc];exact h
theorem fO:(Tryz.prog.info? 37).map (fun i=>(i.zero,i.size))=some (some (.agg (ai bQ (.slice none 0 0))),(ai bQ (.slice none 0 0)).size):=by kernel_rfl
theorem qI (m:List UInt8) (h:m.length=32):(Tryz.prog.info? 23).map (·.size)=some (cD m).size:=by rw [lD,h];kernel_rfl
theorem Jq (t:Tb) (h:FN t) (hp:t.prev.length=32):0<(xE t).length∧(xE t).length≤400:=by
 have e:=Oi uY t.aK 103 t.aK.length (fun e he=>OV e (h.aK e he).made (by obtain ⟨j,hj⟩:=List.getElem?_of_mem he;rw [h.names j e hj,rV];omega));rw [List.take_length] at e;have h2:=h.num;unfold xE;simp only [aZ,List.length_cons,List.length_nil,aF,hp];omega
structure ZY (w:World) (ks ts:Array Value) (W:World):Prop where
 k:AV w.heap.size 23 ks W
 t:AV (w.heap.size+1) 37 ts W
 r:AV (w.heap.size+2) 37 (ai bQ (.slice none 0 0)) W
 lo:Below w.heap.size w W
theorem ZY.start (w:World) (ks ts:Array Value):ZY w ks ts (((w.alloc (.cells ks 23)).alloc (.cells ts 37)).alloc (.cells (ai bQ (.slice none 0 0)) 37)):=by
 obtain ⟨W,hW⟩:∃W,(w.alloc (.cells ks 23)).alloc (.cells ts 37)=W:=⟨_,rfl⟩;have hs:W.heap.size=w.heap.size+2:=by rw [←hW];simp
 have hb:Below w.heap.size w W:=by rw [←hW];exact ah (ag w _) (ag _ _)
 have h1:AV w.heap.size 23 ks W:=by rw [←hW];exact ⟨heap_alloc2_old w _ _⟩
 have h2:AV (w.heap.size+1) 37 ts W:=by rw [←hW];exact ⟨heap_alloc2_new w _ _⟩
 have h3:=AV.new W (ai bQ (.slice none 0 0)) 37;rw [hs] at h3;rw [hW];exact ⟨h1.below (ag W _),h2.below (ag W _),h3,ah hb (ag W _)⟩
theorem ZY.grow {w W W':World} {ks ts:Array Value} (h:ZY w ks ts W) (hb:Below W.heap.size W W'):ZY w ks ts W':=⟨h.k.below hb,h.t.below hb,h.r.below hb,ah h.lo hb⟩
theorem AV.setQ {b:Nat} {t:TypeId} {cs:Array Value} {W:World} (h:AV b t cs W) (o:Nat) (vs:List Value):AV b t (xy cs o vs) (W.setCells b o vs):=⟨vK vs W b o cs t h.var⟩
theorem AV.VX {b g:Nat} {t:TypeId} {cs:Array Value} {W:World} (h:AV b t cs W) (hn:b≠g) (o:Nat) (vs:List Value):AV b t cs (W.setCells g o vs):=⟨(nR vs W g o b hn).trans h.var⟩
theorem AV.there {b:Nat} {t:TypeId} {cs:Array Value} {W:World} (h:AV b t cs W) (o n:Nat) (hn:o+n≤cs.size):W.there b o n:=fun j hj=>⟨by rw [h.cell (o+j),Array.getElem?_eq_getElem (by omega)];rfl,h.dZ _⟩
def sK (lo:Nat) (A:Option Addr) (cs:List Value):Prop:=cs.length=0∨∃b off,A=some ⟨b,off,none⟩∧lo≤b
theorem LZ.low {lo lo' B g:Nat} {w:World} {A:Option Addr} {cs:List Value} (h:LZ lo B g w A cs) (hlo:lo'≤lo):sK lo' A cs:=by
 rcases h with h|⟨b,off,h1,h0,_⟩
 ·exact .inl h
 ·exact .inr ⟨b,off,h1,Nat.le_trans hlo h0⟩
def Io (lo:Nat) (s:Zs) (z:Zn):Prop:=sK lo s.A (z.cal.az.map I)∧sK lo s.B (z.cal.rules.flatMap Lr.cells)∧sK lo s.C (z.trans.flatMap Tr.cells)∧sK lo s.D (z.aN.flatMap Yr.cells)
def Yl (w:World) (z:Zn) (e:Ending) (w':World):Prop:=∃s,e= .returned (.agg (ay z s))∧jG w' w'.heap.size s z∧Io w.heap.size s z∧Below w.heap.size w w'
end Go.Proofs.YtdibbemgpikgjaaGreatDoor
