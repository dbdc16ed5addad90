/- The texts Nl, in this order. -/
import Derived.Test.YtdibbemgpikgjaaGreatDoorY00
import Derived.Test.YtdibbemgpikgjaaGreatDoorY02
import Derived.Test.YtdibbemgpikgjaaGreatDoorY12
import Derived.Test.YtdibbemgpikgjaaGreatDoorY20
set_option maxRecDepth 10000
set_option maxHeartbeats 8000000
namespace Go.Proofs.YtdibbemgpikgjaaGreatDoor
open Go Go.RowKit
theorem vP (n l:Int) (w:World) (hl:0≤l∧l≤4503599627370496) (h1: -l≤n) (h2:n≤l) (k:Nat):Calls Tryz.prog 85 #[I n,I l] (w.drewN k) fun e w'=>e= .returned (.bool true)∧∃m,w'=w.drewN m:=
 (jM n l (w.drewN k) hl h1 h2).mono fun _ _ ⟨h3,h4⟩=>⟨h3,k,h4⟩
theorem IA {P:Program} {f:FuncId} {fn:Func} {c:Code} {args:Array Value} {w:World} {R:Ending→World→Prop} (hf:P.funcs[f]? =some fn) (hb:fn.body=some c)
  (h:c.wp P (bodyPostM Fence.wide 3 P fn R) {tmps:=args++Array.replicate (fn.ntmps - args.size) undef,defers:= []} w):Calls P f args w R:=
 callsIn_wide.1 (callsIn_of_wp_marks (F:=Fence.wide) (n:=3) hf hb trivial (wpIn_wide.2 h) rfl)
theorem EF {P:Program} {fn:Func} {R:Ending→World→Prop} {a:Act} {w:World} {v:Value} (hd:a.defers= []) (h:(results fn a.tmps).run P w= .ok v w) (hR:R (.returned v) w):bodyPostM Fence.wide 3 P fn R .ret a w:=by
 show LeavesInM Fence.wide 3 P fn a.tmps R a.defers .returning w;rw [hd];exact ⟨v,h,hR⟩
theorem pV {P:Program} {fn:Func} {R:Ending→World→Prop} {a:Act} {w:World} {v:Value} {D:Nat} {xs:Array Value} (hd:a.defers= [{target:= .collected D,args:=xs}]) (hD:w.heap[D]? =some (.deferred (some [])))
  (h:(results fn a.tmps).run P (w.putObj D (.deferred none))= .ok v (w.putObj D (.deferred none))) (hR:R (.returned v) (w.putObj D (.deferred none))):bodyPostM Fence.wide 3 P fn R .ret a w:=by
 show LeavesInM Fence.wide 3 P fn a.tmps R a.defers .returning w;rw [hd];exact ⟨by simp, .inl ⟨_,_,rfl,run_takeDeferred hD,⟨v,h,hR⟩⟩⟩
theorem qF.frs {w W:World} {zc:List Value} {cy ho:Int} {A C:Option Addr} {n c m cb tb B:Nat} {ts trs:List Tr} (h:qF w zc cy A n c ts W) (hB:B=W.heap.size)
  (hC:m=0∨∃b off,C=Option.some ⟨b,off,none⟩∧b<B∧∀k,k<m→W.cell? ⟨b,off+k*2,none⟩=Option.some (I (iT trs k))∧W.cell? ⟨b,off+k*2+1,none⟩=Option.some (I (lZ trs k)))
  (hc:W.heap[cb]? =some (.cells #[.pointer (Option.some ⟨w.heap.size+1,0,none⟩)] 145 (0,0))) (ht:W.heap[tb]? =some (.cells #[I ho] 3 (0,0))):
  FrS B (w.heap.size+1) cb tb (zc++ [Value.slice A n c,I cy]) A n ts C m trs ho W:=by
 subst hB;refine ⟨h.k,?_,hC,hc,ht,h.k.lt,(bT.1 hc).1,(bT.1 ht).1⟩;rcases h.own.2 with ⟨_,h0⟩|⟨g,cap,cur,hv,hg,hh,_⟩
 ·exact .inl h0
 ·injection hv with h1 h2 h3;have ho:=h.own;rw [h1] at ho;exact .inr ⟨g,h1,(bT.1 hh).1,fun k hk=>⟨rQ ho h.len k hk,uM ho h.len k hk⟩⟩
theorem Oa {W:World} {tb:Nat} {f:List TrS→Prop}:jg W.heap.size tb (fun (pre:List TrS) X=>f pre∧W.grownBy X (some tb)):=fun _ _ _ _ hs hg hr=>
 ⟨hs.1,hs.2.andThen hg (fun j e=>by
  rcases hr j e with h|h
  ·exact .inl h
  ·exact .inr (by rw [h]))⟩
def YT (w:World) (kb:Nat) (tl:Int) (c:Code) (pre:List TrS) (X:World):Prop:=
 ∃x:TrS,pre= [x]∧c= .ret∧X.heap[w.heap.size+1]? =some (.cells #[pt kb] 145 (0,0))∧X.heap[w.heap.size+2]? =some (.cells #[.bool (decide (2160≤x.1.at_ - tl))] 4 (0,0))∧Below w.heap.size w X
theorem Og {w:World} {B tb kb:Nat} {tl:Int} (hB:w.heap.size+2<B) (htb:w.heap.size+2<tb) (c:Code):jg B tb (YT w kb tl c):=by
 rintro s X Y row ⟨x,h1,h2,h3,h4,h5⟩ hg hr;have key:∀k,k≤w.heap.size+2→k<X.heap.size→Y.heap[k]? =X.heap[k]? :=fun k hk hl=>hg.block k hl (fun e=>by rcases hr k e.symm with h|h<;>omega);exact ⟨x,h1,h2,(key _ (by omega) (bT.1 h3).1).trans h3,(key _ (by omega) (bT.1 h4).1).trans h4,h5.grown hg h5.size (fun k e=>by rcases hr k e with h|h<;>omega)⟩
theorem lF {X Y:World} {k o:Nat} (h:X.heap[k]? =Y.heap[k]?):X.cell? ⟨k,o,none⟩=Y.cell? ⟨k,o,none⟩:=by simp only [World.cell?,h]
theorem cell_far {X:World} {g k o:Nat} {v:Value} (hn:k≠g):(X.setCell ⟨g,0,none⟩ v).cell? ⟨k,o,none⟩=X.cell? ⟨k,o,none⟩:=lF (heap_setCell_other X ⟨g,0,none⟩ k v hn)
theorem KO {ts:List Tr} {size t:Int} (h:ts.length≠0):(eP ts size t).2=true:=by
 unfold eP;rw [if_neg h];split<;>rfl
theorem Oo {z:Zn} (h:qL z=false) (hy:(rf z).length≠0) (ht:0<z.trans.length):2160≤(eP (rf z) (jL z*1440) z.hor).1.at_ - iT z.trans (z.trans.length - 1):=by
 unfold qL at h;simp only [KO hy,ht,decide_true,Bool.true_and,decide_eq_false_iff_not] at h;omega
theorem Ak {w X:World} {kb:Nat} {v:Bool} (h1:X.heap[w.heap.size+1]? =some (.cells #[.pointer none] 145 (0,0))) (h2:X.heap[w.heap.size+2]? =some (.cells #[.bool false] 4 (0,0))) (hb:Below w.heap.size w X):
  ((X.setCell ⟨w.heap.size+1,0,none⟩ (pt kb)).setCell ⟨w.heap.size+1+1,0,none⟩ (.bool v)).heap[w.heap.size+1]? =some (.cells #[pt kb] 145 (0,0))∧
  ((X.setCell ⟨w.heap.size+1,0,none⟩ (pt kb)).setCell ⟨w.heap.size+1+1,0,none⟩ (.bool v)).heap[w.heap.size+2]? =some (.cells #[.bool v] 4 (0,0))∧
  Below w.heap.size w ((X.setCell ⟨w.heap.size+1,0,none⟩ (pt kb)).setCell ⟨w.heap.size+1+1,0,none⟩ (.bool v)):=by
 refine ⟨?_,?_,(hb.setCell (p:=⟨w.heap.size+1,0,none⟩) (by show w.heap.size≤w.heap.size+1;omega) _).setCell (p:=⟨w.heap.size+1+1,0,none⟩) (by show w.heap.size≤w.heap.size+1+1;omega) _⟩
 ·rw [heap_setCell_other _ ⟨w.heap.size+1+1,0,none⟩ _ _ (by show w.heap.size+1≠w.heap.size+1+1;omega),heap_setCell_same X _ 0 _ _ _ h1];rfl
 ·have h3:(X.setCell ⟨w.heap.size+1,0,none⟩ (pt kb)).heap[w.heap.size+2]? =some (.cells #[.bool false] 4 (0,0)):=(heap_setCell_other X ⟨w.heap.size+1,0,none⟩ _ _ (by show w.heap.size+2≠w.heap.size+1;omega)).trans h2;show ((X.setCell ⟨w.heap.size+1,0,none⟩ (pt kb)).setCell ⟨w.heap.size+2,0,none⟩ (.bool v)).heap[w.heap.size+2]? =_;rw [heap_setCell_same _ _ 0 _ _ _ h3];rfl
theorem OM {P:Act→Prop} {a:Act} (h:∀a0,a0=a→P a0):P a:=h a rfl
theorem ZO.drewN {w W:World} {cs:Array Value} (h:ZO w cs W) (k:Nat):ZO w cs (W.drewN k):=h.below (below_drewN' _ _)
theorem NF (z:Zn) (s:Zs) (w:World) (hm:uS z) (h:jG w w.heap.size s z) (hv:zM z=0):Calls Tryz.prog 63 #[.agg (ay z s)] w fun e w'=>(∃b:Nat,e= .returned (.tuple #[pt b, .bool true]))∧Below w.heap.size w w':=by
 have hgl:jS (rf z) (jL z*1440)=true∧qL z=false:=by
  unfold zM at hv;split at hv
  ·omega
  ·rename_i h1;split at hv
   ·omega
   ·rename_i h2;exact ⟨by simpa using h1,by simpa using h2⟩
 have HK:=ae (fun (W:World) (hb:Below w.heap.size w W)=>Ul z s W hm (h.grow hb) hgl.1);have HV:=ae (fun (W:World) (hb:Below w.heap.size w W)=>nZ z.cal s.A s.B s.a s.b W hm.cal ⟨h.az.grow hb,h.rules.grow hb⟩);have Vp:=ae hgl.2;have UT:=ae hm;have HAT:=ae (fun (W:World) (hb:Below w.heap.size w W) (h0:0<z.trans.length)=>pq h.trans hb h0);have HYS:=ae h.aN;have Zy:=ae (h.trans);have hgap:=hm.gap;have NI:=ae (fun k hk=>hm.BC k hk);have DK:=ae hm.yr;have hst:=hm.start;have hho:=hm.hor;have U3:=hm.U7;have hcf:=hm.cal.form;clear hgl hv h hm;obtain ⟨cal,st,tr,ho,yr⟩:=z;obtain ⟨A0,a,R0,r,C,c0,D0,d0⟩:=s;simp only at HK HV Vp HAT HYS Zy hgap NI DK hst hho U3 hcf ⊢;obtain ⟨ep,m0,m1,lp,rs,rfl,_⟩:=hcf;have HGAP:=ae hgap;obtain ⟨n1,hn1⟩:∃n,rs.length=n:=⟨_,rfl⟩;obtain ⟨m,hmm⟩:∃n,tr.length=n:=⟨_,rfl⟩;obtain ⟨ny,hny⟩:∃n,yr.length=n:=⟨_,rfl⟩;rw [hmm] at HAT NI HGAP U3;have kH:=ae hmm;have e0:ay ⟨⟨ep,[m0,m1],lp,rs⟩,st,tr,ho,yr⟩ ⟨A0,a,R0,r,C,c0,D0,d0⟩= #[I ep, .slice A0 2 a,I lp, .slice R0 n1 r,I st, .slice C m c0,I ho, .slice D0 ny d0]:=by rw [←hn1,←hmm,←hny];rfl
 have e1:aG ⟨ep,[m0,m1],lp,rs⟩ A0 a R0 r= #[I ep, .slice A0 2 a,I lp, .slice R0 n1 r]:=by rw [←hn1];rfl
 rw [e0] at HK ⊢;rw [e1] at HV;have HW1:=ae (fun W=>jM st 1080 W (by omega) (by omega) (by omega));have HW2:=ae (fun W=>jM ho 2251799813685248 W (by omega) (by omega) (by omega));have HZ0:=ae (JQ w #[I ep, .slice A0 2 a,I lp, .slice R0 n1 r,I st, .slice C m c0,I ho, .slice D0 ny d0]);have Yd:=ae hny;have hm512:¬(512:Int)<(m:Int):=by omega
 clear e0 e1 hn1 hgap hny;refine IA Tryz.func63 rfl ?_;simp only [Tryz.ntmps63,List.size_toArray,List.length_cons,List.length_nil,Nat.reduceAdd,Nat.reduceSub,Array.replicate_succ,Array.replicate_zero,List.push_toArray,List.append_toArray,List.nil_append,List.cons_append];go_wp2_with fail;refine (HV.out _ HZ0.out.up).mono ?_;rintro e w1 ⟨rfl,hb1⟩;have HZ1:=ae (HZ0.out.below hb1);have k1:=HZ1.out.row.2;clear hb1 HZ0 HV;go_wp2_with fail;refine (HW1.out _).mono ?_;rintro e w2 ⟨rfl,rfl⟩;go_wp2_with fail;refine (HW2.out _).mono ?_;rintro e w3 ⟨rfl,rfl⟩;go_wp2_with fail;clear k1 HW1 HW2
 go_loopw [37] (fun i wr=>∃k:Nat,k≤m∧i=I (k:Nat)∧ZO w #[I ep, .slice A0 2 a,I lp, .slice R0 n1 r,I st, .slice C m c0,I ho, .slice D0 ny d0] wr) (fun i _=>m - (intOf i).toNat)
 case atStart=>exact ⟨0,Nat.zero_le _,rfl,HZ1.out⟩
 case round=>
  clear HZ1;obtain ⟨k,Wu,rfl,hzo⟩:=hrel;have HZ:=ae hzo;clear hzo;by_cases hk:k<m
  ·have i1:(k:Int)<(m:Int):=by omega
   have i0:(0:Int)≤(k:Int):=by omega
   obtain ⟨b,off,hC,hcl⟩:=HAT.out wr HZ.out.up (by omega);have hbd:=NI.out k hk;subst hC;have gu:=ae (fun (W:World) (hb:Below w.heap.size w W)=>HAT.out W hb (by omega));obtain ⟨e0,e1⟩:=hcl k hk;clear hcl;obtain ⟨xa,hxa⟩:∃x,iT tr k=x:=⟨_,rfl⟩;obtain ⟨xo,hxo⟩:∃x,lZ tr k=x:=⟨_,rfl⟩;have gQ:=ae hxa;rw [hxa] at e0 hbd;rw [hxo] at e1 hbd;clear hxa hxo;go_upto_region 6 with (first
 |((with_reducible refine bC 127 ?_);refine aH rfl 127 rfl #[I 0,I 0] (by kernel_rfl) ?_)
 |((with_reducible refine cZ 127 ?_);go_must (refine wpList_store_row rfl _ _ _ rfl wr.heap.size #[I xa,I xo] rfl rfl 127 #[I 0,I 0] (heap_alloc_last wr _) (by kernel_rfl) rfl (by simp [Value.oneCell']) ?_)))
   clear e0 e1;have hb2:Below wr.heap.size wr ((wr.alloc (.cells #[I 0,I 0] 127)).setRow wr.heap.size #[I xa,I xo]):=aB (ag wr _) (Nat.le_refl _) _;have HX:=ae (AV.oZ (AV.new wr #[I 0,I 0] 127) #[I xa,I xo]);have HZ2:=ae (HZ.out.below hb2);clear hb2 HZ;generalize (wr.alloc (.cells #[I 0,I 0] 127)).setRow wr.heap.size #[I xa,I xo]=W2 at HZ2 HX ⊢;generalize wr.heap.size=xb at HX ⊢;try simp only [Act.put]
   have x0:W2.cell? ⟨xb,0,none⟩=some (I xa):=HX.out.cell 0;have x1:W2.cell? ⟨xb,1,none⟩=some (I xo):=HX.out.cell 1;have k5:W2.cell? ⟨w.heap.size,5,none⟩=some (.slice (some ⟨b,off,none⟩) m c0):=HZ2.out.row.2 5;have k6:W2.cell? ⟨w.heap.size,6,none⟩=some (I ho):=HZ2.out.row.2 6;have hnl:¬ho≤xa:=by omega
   rcases Nat.eq_zero_or_pos k with hk0|hk0
   ·subst hk0;clear i0;go_quiet ((go_at_call 85;exact vP _ _ W2 (by omega) (by omega) (by omega) _));obtain ⟨W3,hW3⟩:∃W,W2.drewN nq=W:=⟨_,rfl⟩;rw [hW3];have HZ3:Hid (ZO w #[I ep, .slice A0 2 a,I lp, .slice R0 n1 r,I st, .slice (some ⟨b,off,none⟩) m c0,I ho, .slice D0 ny d0] W3):=ae (by rw [←hW3];exact HZ2.out.drewN nq);clear hW3 x0 x1 k5 k6 HZ2 HX hnl;go_wp2_with fail;go_roundw
    case rel=>exact ⟨1,by omega,by go_num,HZ3.out⟩
    case measure=>simp [intOf];omega
   ·obtain ⟨j,rfl⟩:∃j,k=j+1:=⟨k - 1,by omega⟩;have iz:(0:Int)<(j:Int)+1:=by omega
    have hg:=HGAP.out j (by omega);obtain ⟨b2,xq,e2,hcl⟩:=gu.out W2 HZ2.out.up;injection e2 with e2;injection e2 with e2 e3;subst e2 e3;have ej:=(hcl j (by omega)).1;obtain ⟨xj,hxj⟩:∃x,iT tr j=x:=⟨_,rfl⟩;have hbj:=(NI.out j (by omega)).2;rw [gQ.out] at hg;rw [hxj] at ej hg hbj;have hnl2:¬xa - xj<2160:=by omega
    have ij:(j:Int)<(m:Int):=by omega
    have ij0:(0:Int)≤(j:Int):=by omega
    clear hcl hxj hg;go_quiet ((go_at_call 85;exact vP _ _ W2 (by omega) (by omega) (by omega) _));obtain ⟨W3,hW3⟩:∃W,W2.drewN nq=W:=⟨_,rfl⟩;rw [hW3];have HZ3:Hid (ZO w #[I ep, .slice A0 2 a,I lp, .slice R0 n1 r,I st, .slice (some ⟨b,off,none⟩) m c0,I ho, .slice D0 ny d0] W3):=ae (by rw [←hW3];exact HZ2.out.drewN nq);clear hW3 x0 x1 k5 k6 HZ2 HX hnl ej hnl2;go_wp2_with fail;go_roundw
    case rel=>exact ⟨j+1+1,by omega,by go_num,HZ3.out⟩
    case measure=>simp [intOf];omega
  ·have i1:¬(k:Int)<(m:Int):=by omega
   rcases DK.out with BU|⟨r0,r1,BU,hr0,hr1⟩
   ·have hn0:ny=0:=by rw [←Yd.out,BU];rfl
    have JW:=ae BU;subst hn0;clear BU;have k7:wr.cell? ⟨w.heap.size,7,none⟩=some (.slice D0 0 d0):=HZ.out.row.2 7;go_wp2_with fail;refine wp_loop_rounds 1 ?_;rw [rounds_succ];go_upto_region 17 with fail;clear k7;go_wp2_with ((with_reducible refine dN 67 ?_);go_must (refine aT rfl _ _ rfl w.heap.size rfl #[I ep, .slice A0 2 a,I lp, .slice R0 n1 r,I st, .slice C m c0,I ho, .slice D0 0 d0] ⟨HZ.out.row.1,HZ.out.row.2⟩ _ Tryz.underlying67 rfl (by kernel_rfl) ?_));refine (HK.out wr HZ.out.up).mono ?_;rintro e w5 ⟨rfl,A2,n2,c2,htk⟩;have hsz0:w.heap.size+2<wr.heap.size:=(bT.1 HZ.out.r2).1;have hsz5:=htk.k.lt;have Zx:=ae (htk.grow (ag w5 (.cells #[.pointer (some ⟨wr.heap.size+1,0,none⟩)] 145)));have Rw:=ae ((HZ.out.below htk.lo).below (ag w5 (.cells #[.pointer (some ⟨wr.heap.size+1,0,none⟩)] 145)));have Hu:=ae (heap_alloc_last w5 (.cells #[.pointer (some ⟨wr.heap.size+1,0,none⟩)] 145));clear htk HZ;go_upto_region 20 with fail;generalize w5.alloc (.cells #[.pointer (some ⟨wr.heap.size+1,0,none⟩)] 145)=w6 at Zx Rw Hu ⊢;generalize w5.heap.size=pb at Hu hsz5 ⊢;have k5:w6.cell? ⟨w.heap.size,5,none⟩=some (.slice C m c0):=Rw.out.row.2 5;have Kt:=ae (Zx.out.grow (ag w6 (.cells #[I (m:Int)] 3)));have Dy:=ae (Rw.out.below (ag w6 (.cells #[I (m:Int)] 3)));have Ri:=ae ((Below.heap_alloc w6 (.cells #[I (m:Int)] 3) pb (bT.1 Hu.out).1).trans Hu.out);have Ha:=ae (heap_alloc_last w6 (.cells #[I (m:Int)] 3));have hpn:pb≠w6.heap.size:=by have:=(bT.1 Hu.out).1;omega
    have WE:pb<w6.heap.size:=(bT.1 Hu.out).1;go_upto_region 21 with fail;clear k5 Zx Rw Hu;generalize w6.alloc (.cells #[I (m:Int)] 3)=w7 at Kt Dy Ri Ha ⊢;generalize w6.heap.size=nb at Ha hpn WE ⊢;have n0:w7.cell? ⟨nb,0,none⟩=some (I (m:Int)):=cell_of_row w7 nb 0 _ _ _ Ha.out;have p0:w7.cell? ⟨pb,0,none⟩=some (.pointer (some ⟨wr.heap.size+1,0,none⟩)):=cell_of_row w7 pb 0 _ _ _ Ri.out;rcases Nat.eq_zero_or_pos m with hm0|hm0
    ·have c1:w7.cell? ⟨w.heap.size+1,0,none⟩=some (.pointer none):=cell_of_row w7 _ 0 _ _ _ Dy.out.r1;have c2:w7.cell? ⟨w.heap.size+1+1,0,none⟩=some (.bool false):=cell_of_row w7 (w.heap.size+2) 0 _ _ _ Dy.out.r2;have f1:w7.frozen? ⟨w.heap.size+1,0,none⟩=false:=frozen_of_row w7 _ 0 _ _ Dy.out.r1;have f2:w7.frozen? ⟨w.heap.size+1+1,0,none⟩=false:=frozen_of_row w7 (w.heap.size+2) 0 _ _ Dy.out.r2;have q1:¬pb=w.heap.size+1:=by omega
     have q2:¬pb=w.heap.size+1+1:=by omega
     go_wp2_with fail;refine EF (v:= .tuple #[pt (wr.heap.size+1), .bool true]) rfl (jJ rfl _ _ ⟨w.heap.size+1,0,none⟩ ⟨w.heap.size+1+1,0,none⟩ (pt (wr.heap.size+1)) (.bool true) rfl (kM _ _ _ ?_) rfl (iU _ _ _ ?_)) ⟨⟨_,rfl⟩,?_⟩
     ·go_simp
     ·go_simp
     ·exact (Dy.out.up.setCell (p:=⟨w.heap.size+1,0,none⟩) (Nat.le_succ _) _).setCell (p:=⟨w.heap.size+1+1,0,none⟩) (by show w.heap.size≤w.heap.size+1+1;omega) _
    ·have k6:w7.cell? ⟨w.heap.size,6,none⟩=some (I ho):=Dy.out.row.2 6;have Y5:=ae (IQ (wr.heap.size+1) ho);go_wp2_with fail;refine (Y5.out _).mono ?_;rintro e w8 ⟨rfl,rfl⟩;clear Y5 n0 p0 k6;obtain ⟨w8,hw8⟩:∃W,(w7.alloc (.cells #[.pointer (some ⟨wr.heap.size+1,0,none⟩)] 145)).alloc (.cells #[I ho] 3)=W:=⟨_,rfl⟩;have hb8:Below w7.heap.size w7 w8:=by rw [←hw8];exact ah (ag w7 _) (ag _ _)
     have hcb:w8.heap[w7.heap.size]? =some (.cells #[.pointer (some ⟨wr.heap.size+1,0,none⟩)] 145 (0,0)):=by rw [←hw8];exact heap_alloc2_old w7 _ _
     have htb:w8.heap[w7.heap.size+1]? =some (.cells #[I ho] 3 (0,0)):=by rw [←hw8];exact heap_alloc2_new w7 _ _
     have hs8:w8.heap.size=w7.heap.size+2:=by rw [←hw8];simp
     have hs7:nb<w7.heap.size:=(bT.1 Ha.out).1;rw [hw8];clear hw8;have FD:=ae (Kt.out.grow hb8);have vk:=ae (Dy.out.below hb8);have HP8:=ae ((hb8.block _ (bT.1 Ri.out).1).trans Ri.out);have Zh:=ae ((hb8.block _ (bT.1 Ha.out).1).trans Ha.out);obtain ⟨b,off,V8,hcl⟩:=HAT.out w8 vk.out.up hm0;have hCB:b<w.heap.size:=by
      rcases Zy.out with h0|⟨b',off',e,hb,_⟩
      ·rw [dD (s:=2) Tr.cells _ fun _ _=>rfl] at h0;have:=kH.out;omega
      ·rw [e] at V8;injection V8 with e1;injection e1 with e2;omega
     have HFS:=ae (FD.out.frs (B:=w8.heap.size) (m:=m) (trs:=tr) (C:=C) rfl (.inr ⟨b,off,V8,by omega,hcl⟩) hcb htb);have gu:=ae hcl;clear Kt Dy Ri Ha hb8 hcb htb;generalize w7.heap.size=cb at HFS hs7 hs8 ⊢;go_wp2_with fail;refine (wpIn_wide (n:=3)).1 ?_;have HSQ:=EK 2 w8.heap.size (wr.heap.size+1) cb (cb+1) n2 m 2 n1 0 a r c0 d0 c2 A0 R0 A2 C D0 ep lp st ho _ _ tr w8 HFS.out (Nat.le_refl _) FD.out.len kH.out (fun x hx=>(UT.out.tr x hx).2.2) (Fj _ UT.out).1 (xN _ UT.out.cal) (qo _ UT.out.cal).2 hho.1 hho.2 (by have:=(Fj _ UT.out).2;have h2:=FD.out.len;omega) (by omega) (by omega);obtain ⟨tl,htl⟩:∃t,iT tr (m - 1)=t:=⟨_,rfl⟩;have wP:=ae htl;have htlb:=(NI.out (m - 1) (by omega)).2;rw [htl] at htlb;have hel:=(gu.out (m - 1) (by omega)).1;rw [htl] at hel;have HEL:=ae hel;clear htl hel;have hb7:w.heap.size+2<w8.heap.size:=by omega
     have EO:w.heap.size+2<cb+1:=by omega
     have QU:Hid (∀X,w8.grownBy X (some (cb+1))→∀k,k<w8.heap.size→k≠cb+1→X.heap[k]? =w8.heap[k]?):=ae (fun X hg k hk hn=>hg.block k hk (fun e=>hn (by injection e)));have NT:Hid (∀X,w8.grownBy X (some (cb+1))→Below w.heap.size w X):=ae (fun X hg=>vk.out.up.grown hg vk.out.up.size (fun k e=>by injection e with e;omega));refine OM (P:=fun a0=>Code.wpIn _ _ _ _ _ a0 _) (fun a0 ha0=>?_);have uC:=ae ha0;refine nG rfl (by omega) (gf:=110) (lb:= #[.pointer (some ⟨cb,0,none⟩), .pointer (some ⟨cb+1,0,none⟩)]) (by rw [ha0];rfl) trivial (enters_of Tryz.func110 (by kernel_rfl) rfl)
      HSQ (by omega) (Nat.le_refl _) (Below.refl _ _) (fun _=>rfl)
      (fun pre X=>pre= []∧w8.grownBy X (some (cb+1)))
      (fun c pre X=>YT w (wr.heap.size+1) tl c pre X)
      Oa (fun c=>Og hb7 EO c) ⟨rfl,World.grownBy.refl _ _⟩ (fun pre X h=>h.1)
      (fun x a' X=>∃q,w8.heap.size≤q∧X.heap[q]? =some (.cells #[I x.1.at_,I x.1.off] 127 (0,0))∧a'=({tmps:=(a0.tmps.setIfInBounds 159 (.agg #[I x.1.at_,I x.1.off])).setIfInBounds 11 (.pointer (some ⟨q,0,none⟩)),defers:= []}:Act))
      (fun x a' _ X Y row hs hg hr=>by obtain ⟨q,h1,h2,h3⟩:=hs;exact ⟨q,h1,Ai q _ _ () X Y row h2 hg hr,h3⟩)
      ?assign ?body ?done ?stop
     case assign=>
      rintro l pre ⟨⟨xa,xo⟩,hx⟩ X K ⟨hpre,hgr⟩ hK;have HG2:=ae hgr;have hszX:=hgr.size;clear hgr;rw [ha0] at hK ⊢;simp only [List.zip_toArray,List.zip_cons_cons,List.zip_nil_right,List.foldl_toArray,List.foldl_cons,List.foldl_nil,List.setIfInBounds_toArray,List.set_cons_succ,List.set_cons_zero] at hK ⊢
      gi_wp2_with (first|((with_reducible refine BP 127 ?_);refine nO rfl _ rfl #[I 0,I 0] (by kernel_rfl) ?_)|((with_reducible refine tY 127 ?_);go_must (refine iH rfl _ _ _ rfl #[I xa,I xo] rfl rfl 127 #[I 0,I 0] rfl (by kernel_rfl) rfl (by kernel_rfl) ?_);intro W5 hb5 hs5 hh5 uH hk5;have pO:=ae hb5;have Y7:=ae hh5;have xP:=ae hk5;clear hb5 hs5 hh5 uH hk5))
      exact hK _ _ (xP.out.from _) (pO.out.mono (by omega)) ⟨hpre,HG2.out.andThen (vU pO.out) (fun j e=>nomatch e)⟩ ⟨X.heap.size,by omega,Y7.out,rfl⟩
     case body=>
      rintro l pre ⟨⟨xa,xo⟩,hx⟩ a' X hl _ ⟨rfl,hgr⟩ ⟨q,hq,hblk,rfl⟩;have HG2:=ae hgr;have Ho:=ae hblk;clear hgr hblk;rw [ha0];simp only [List.setIfInBounds_toArray,List.set_cons_succ,List.set_cons_zero] at Ho ⊢
      gi_wp2_with fail
      obtain ⟨hx1,hx2⟩:=hx;simp only at hx1 hx2;obtain ⟨mj,hmj⟩:∃j:Nat,(m:Int) - 1=(j:Nat):=⟨m - 1,by omega⟩;have hmjn:m - 1=mj:=by omega
      have mj0:(0:Int)≤(mj:Int):=by omega
      have mj1:(mj:Int)<(m:Int):=by omega
      have wm:IntKind.i64.wrap (mj:Int)=(mj:Int):=by rw [IntKind.wrap_i64];omega
      have wx:IntKind.i64.wrap (xa - tl)=xa - tl:=by rw [IntKind.wrap_i64];omega
      have hbb:=QU.out X HG2.out;have hS0:(fun Y:World=>Y.cell? ⟨pb,0,none⟩=some (.pointer (some ⟨wr.heap.size+1,0,none⟩))∧Y.cell? ⟨q,0,none⟩=some (I xa)∧Y.cell? ⟨w.heap.size,5,none⟩=some (.slice (some ⟨b,off,none⟩) m c0)∧Y.cell? ⟨nb,0,none⟩=some (I (m:Int))∧Y.cell? ⟨b,off+mj*2,none⟩=some (I tl)) X.drew:=
       ⟨(lF (hbb pb (by omega) (by omega))).trans (cell_of_row w8 pb 0 _ _ _ HP8.out),cell_of_row X q 0 _ _ _ Ho.out,(lF (hbb w.heap.size (by omega) (by omega))).trans ((vk.out.row.2 5).trans (by rw [←V8];rfl)),(lF (hbb nb (by omega) (by omega))).trans (cell_of_row w8 nb 0 _ _ _ Zh.out),(lF (hbb b (by omega) (by omega))).trans (by rw [←hmjn];exact HEL.out)⟩
      have hr1:X.heap[w.heap.size+1]? =some (.cells #[.pointer none] 145 (0,0)):=(hbb _ (by omega) (by omega)).trans vk.out.r1;have hr2:X.heap[w.heap.size+2]? =some (.cells #[.bool false] 4 (0,0)):=(hbb _ (by omega) (by omega)).trans vk.out.r2;have HR1:=ae hr1;have HR2:=ae hr2;have HUX:=ae (NT.out X HG2.out);have hqx:q<X.heap.size:=(bT.1 Ho.out).1;clear hbb hr1 hr2;refine lN (S:=fun Y:World=>Y.cell? ⟨pb,0,none⟩=some (.pointer (some ⟨wr.heap.size+1,0,none⟩))∧Y.cell? ⟨q,0,none⟩=some (I xa)∧Y.cell? ⟨w.heap.size,5,none⟩=some (.slice (some ⟨b,off,none⟩) m c0)∧Y.cell? ⟨nb,0,none⟩=some (I (m:Int))∧Y.cell? ⟨b,off+mj*2,none⟩=some (I tl)) (I4 (by kernel_rfl)) (by kernel_rfl) (by rintro ⟨a,w,h⟩;exact h) ?_;refine aJ 0 (.pointer (some ⟨wr.heap.size+1,0,none⟩)) 160 hS0 (fun w' hSw=>?_) ?_
      ·obtain ⟨s0,s1,s2,s3,s4⟩:=hSw
       first|(go_simp;done)|(go_simp;with_reducible rfl)
      refine ax ?_;refine aJ 1 (.pointer (some ⟨q,0,none⟩)) 161 hS0 (fun w' hSw=>?_) ?_
      ·clear hSw
       first|(go_simp;done)|(go_simp;with_reducible rfl)
      refine ax ?_;refine aJ 2 (I xa) 162 hS0 (fun w' hSw=>?_) ?_
      ·obtain ⟨s0,s1,s2,s3,s4⟩:=hSw
       first|(go_simp;done)|(go_simp;with_reducible rfl)
      refine ax ?_;refine aJ 3 (.pointer (some ⟨w.heap.size,5,none⟩)) 163 hS0 (fun w' hSw=>?_) ?_
      ·clear hSw
       first|(go_simp;done)|(go_simp;with_reducible rfl)
      refine ax ?_;refine aJ 4 (.slice (some ⟨b,off,none⟩) m c0) 164 hS0 (fun w' hSw=>?_) ?_
      ·obtain ⟨s0,s1,s2,s3,s4⟩:=hSw
       first|(go_simp;done)|(go_simp;with_reducible rfl)
      refine ax ?_;refine aJ 5 (I (m:Int)) 165 hS0 (fun w' hSw=>?_) ?_
      ·obtain ⟨s0,s1,s2,s3,s4⟩:=hSw
       first|(go_simp;done)|(go_simp;with_reducible rfl)
      refine ax ?_;refine aJ 6 (I (mj:Int)) 166 hS0 (fun w' hSw=>?_) ?_
      ·clear hSw
       first|(go_simp;done)|(go_simp;with_reducible rfl)
      refine ax ?_;refine aJ 7 (.pointer (some ⟨b,off+mj*2,none⟩)) 167 hS0 (fun w' hSw=>?_) ?_
      ·clear hSw
       first|(go_simp;done)|(go_simp;with_reducible rfl)
      refine ax ?_;refine aJ 8 (.pointer (some ⟨b,off+mj*2,none⟩)) 168 hS0 (fun w' hSw=>?_) ?_
      ·clear hSw
       first|(go_simp;done)|(go_simp;with_reducible rfl)
      refine ax ?_;refine aJ 9 (I tl) 169 hS0 (fun w' hSw=>?_) ?_
      ·obtain ⟨s0,s1,s2,s3,s4⟩:=hSw
       first|(go_simp;done)|(go_simp;with_reducible rfl)
      refine ax ?_;refine aJ 10 (I (xa - tl)) 170 hS0 (fun w' hSw=>?_) ?_
      ·clear hSw
       first|(go_simp;done)|(go_simp;with_reducible rfl)
      refine ax ?_;refine aJ 11 (.bool (decide (2160≤xa - tl))) 171 hS0 (fun w' hSw=>?_) ?_
      ·clear hSw
       first|(go_simp;done)|(go_simp;with_reducible rfl)
      refine ax ?_;refine aW 12 (fun K hK=>?_);have c1:X.drew.cell? ⟨w.heap.size+1,0,none⟩=some (.pointer none):=cell_of_row X _ 0 _ _ _ HR1.out;have f1:X.drew.frozen? ⟨w.heap.size+1,0,none⟩=false:=frozen_of_row X _ 0 _ _ HR1.out;go_simp;obtain ⟨s0,s1,s2,s3,s4⟩:=hS0;have hS1:(fun Y:World=>Y.cell? ⟨pb,0,none⟩=some (.pointer (some ⟨wr.heap.size+1,0,none⟩))∧Y.cell? ⟨q,0,none⟩=some (I xa)∧Y.cell? ⟨w.heap.size,5,none⟩=some (.slice (some ⟨b,off,none⟩) m c0)∧Y.cell? ⟨nb,0,none⟩=some (I (m:Int))∧Y.cell? ⟨b,off+mj*2,none⟩=some (I tl)) (X.drew.setCell ⟨w.heap.size+1,0,none⟩ (.pointer (some ⟨wr.heap.size+1,0,none⟩))):=
       ⟨(cell_far (by omega)).trans s0,(cell_far (by omega)).trans s1,(cell_far (by omega)).trans s2,(cell_far (by omega)).trans s3,(cell_far (by omega)).trans s4⟩
      refine hK.out _ _ hS1 (fun _=>?_);clear hK K;try simp only [Act.put]
      refine aW 13 (fun K hK=>?_);obtain ⟨s0,s1,s2,s3,s4⟩:=hS1;have hr3:(X.drew.setCell ⟨w.heap.size+1,0,none⟩ (.pointer (some ⟨wr.heap.size+1,0,none⟩))).heap[w.heap.size+2]? =some (.cells #[.bool false] 4 (0,0)):=(heap_setCell_other X.drew ⟨w.heap.size+1,0,none⟩ _ _ (by show w.heap.size+2≠w.heap.size+1;omega)).trans HR2.out;have c2:(X.drew.setCell ⟨w.heap.size+1,0,none⟩ (.pointer (some ⟨wr.heap.size+1,0,none⟩))).cell? ⟨w.heap.size+1+1,0,none⟩=some (.bool false):=cell_of_row _ (w.heap.size+2) 0 _ _ _ hr3;have f2:(X.drew.setCell ⟨w.heap.size+1,0,none⟩ (.pointer (some ⟨wr.heap.size+1,0,none⟩))).frozen? ⟨w.heap.size+1+1,0,none⟩=false:=frozen_of_row _ (w.heap.size+2) 0 _ _ hr3;have hr4:(X.setCell ⟨w.heap.size+1,0,none⟩ (.pointer (some ⟨wr.heap.size+1,0,none⟩))).heap[w.heap.size+2]? =some (.cells #[.bool false] 4 (0,0)):=hr3;have c3:(X.setCell ⟨w.heap.size+1,0,none⟩ (.pointer (some ⟨wr.heap.size+1,0,none⟩))).cell? ⟨w.heap.size+1+1,0,none⟩=some (.bool false):=cell_of_row _ (w.heap.size+2) 0 _ _ _ hr4;have f3:(X.setCell ⟨w.heap.size+1,0,none⟩ (.pointer (some ⟨wr.heap.size+1,0,none⟩))).frozen? ⟨w.heap.size+1+1,0,none⟩=false:=frozen_of_row _ (w.heap.size+2) 0 _ _ hr4;clear hr4;have Y6:=ae (Ak (kb:=wr.heap.size+1) (v:=decide (2160≤xa - tl)) (X:=X.drew) HR1.out HR2.out HUX.out.drew);clear hr3;go_simp;have hS2:(fun Y:World=>Y.cell? ⟨pb,0,none⟩=some (.pointer (some ⟨wr.heap.size+1,0,none⟩))∧Y.cell? ⟨q,0,none⟩=some (I xa)∧Y.cell? ⟨w.heap.size,5,none⟩=some (.slice (some ⟨b,off,none⟩) m c0)∧Y.cell? ⟨nb,0,none⟩=some (I (m:Int))∧Y.cell? ⟨b,off+mj*2,none⟩=some (I tl)) ((X.drew.setCell ⟨w.heap.size+1,0,none⟩ (.pointer (some ⟨wr.heap.size+1,0,none⟩))).setCell ⟨w.heap.size+1+1,0,none⟩ (.bool (decide (2160≤xa - tl)))):=
       ⟨(cell_far (by omega)).trans s0,(cell_far (by omega)).trans s1,(cell_far (by omega)).trans s2,(cell_far (by omega)).trans s3,(cell_far (by omega)).trans s4⟩
      refine hK.out _ _ hS2 (fun _=>?_);clear hK K;refine wpAnyH_done (by kernel_rfl) ?_ _
      gi_wp2
      exact ⟨(((show KeepsOthers X X.drew from ⟨Nat.le_refl _,fun _ _ h _=>h⟩).trans (KeepsOthers.setCell _ _ _)).trans (KeepsOthers.setCell _ _ _)).from _,_,rfl,rfl,Y6.out⟩
     case done=>
      rintro D xs Y hD ⟨rfl,hn0⟩ ⟨_,hgr⟩ V9;have hbb:=QU.out Y hgr;have HUY:=ae (NT.out Y hgr);have hr1:Y.heap[w.heap.size+1]? =some (.cells #[.pointer none] 145 (0,0)):=(hbb _ (by omega) (by omega)).trans vk.out.r1;have hr2:Y.heap[w.heap.size+2]? =some (.cells #[.bool false] 4 (0,0)):=(hbb _ (by omega) (by omega)).trans vk.out.r2;have p0:Y.cell? ⟨pb,0,none⟩=some (.pointer (some ⟨wr.heap.size+1,0,none⟩)):=(lF (hbb pb (by omega) (by omega))).trans (cell_of_row w8 pb 0 _ _ _ HP8.out);have c1:Y.cell? ⟨w.heap.size+1,0,none⟩=some (.pointer none):=cell_of_row Y _ 0 _ _ _ hr1;have c2:Y.cell? ⟨w.heap.size+1+1,0,none⟩=some (.bool false):=cell_of_row Y (w.heap.size+2) 0 _ _ _ hr2;have f1:Y.frozen? ⟨w.heap.size+1,0,none⟩=false:=frozen_of_row Y _ 0 _ _ hr1;have f2:Y.frozen? ⟨w.heap.size+1+1,0,none⟩=false:=frozen_of_row Y (w.heap.size+2) 0 _ _ hr2;have Y6:=ae (Ak (kb:=wr.heap.size+1) (v:=true) (X:=Y) hr1 hr2 HUY.out);have HDK:=ae V9;clear hbb hr1 hr2 hgr V9 hn0;rw [ha0];go_wp2_with fail;obtain ⟨g1,g2,g3⟩:=Y6.out;have hd1:D≠w.heap.size+1:=by omega
      have hd2:D≠w.heap.size+1+1:=by omega
      have hDY:((Y.setCell ⟨w.heap.size+1,0,none⟩ (pt (wr.heap.size+1))).setCell ⟨w.heap.size+1+1,0,none⟩ (.bool true)).heap[D]? =some (.deferred (some [])):=(heap_setCell_other _ ⟨w.heap.size+1+1,0,none⟩ _ _ hd2).trans ((heap_setCell_other Y ⟨w.heap.size+1,0,none⟩ _ _ hd1).trans HDK.out);refine pV (v:= .tuple #[pt (wr.heap.size+1), .bool true]) rfl hDY (jJ rfl _ _ ⟨w.heap.size+1,0,none⟩ ⟨w.heap.size+1+1,0,none⟩ (pt (wr.heap.size+1)) (.bool true) rfl (kM _ _ _ ?_) rfl (iU _ _ _ ?_)) ⟨⟨_,rfl⟩,?_⟩
      ·exact cell_of_row _ _ 0 _ _ _ ((World.putObj_heap_other (by omega)).trans g1)
      ·exact cell_of_row _ (w.heap.size+2) 0 _ _ _ ((World.putObj_heap_other (by omega)).trans g2)
      ·exact g3.grown (grownBy_putObj' _ D _) g3.size (fun k e=>by injection e with e;omega)
     case stop=>
      rintro D c pre Y hD ⟨hn0,hpre⟩ ⟨x,rfl,rfl,g1,g2,g3⟩ V9;have hx1:=hpre;simp only [List.map_cons,List.map_nil,List.cons.injEq,and_true] at hx1;have hlt:=Oo Vp.out (by rw [FD.out.len];exact hn0) (by rw [kH.out];exact hm0);rw [kH.out,wP.out] at hlt;have hge:decide (2160≤x.1.at_ - tl)=true:=decide_eq_true (by rw [hx1];exact hlt);rw [hge] at g2;rw [ha0];refine (wpIn_wide (n:=3)).2 ?_;go_wp2_with fail;refine pV (v:= .tuple #[pt (wr.heap.size+1), .bool true]) rfl V9 (jJ rfl _ _ ⟨w.heap.size+1,0,none⟩ ⟨w.heap.size+1+1,0,none⟩ (pt (wr.heap.size+1)) (.bool true) rfl (kM _ _ _ ?_) rfl (iU _ _ _ ?_)) ⟨⟨_,rfl⟩,?_⟩
      ·exact cell_of_row _ _ 0 _ _ _ ((World.putObj_heap_other (by omega)).trans g1)
      ·exact cell_of_row _ (w.heap.size+2) 0 _ _ _ ((World.putObj_heap_other (by omega)).trans g2)
      ·exact g3.grown (grownBy_putObj' _ D _) g3.size (fun k e=>by injection e with e;omega)
   ·have hn2:ny=2:=by rw [←Yd.out,BU];rfl
    have hys:=HYS.out;rw [BU] at hys;obtain ⟨yb,yo,hD,hyb,D5⟩:=hys.there (by simp [Yr.cells]);have Yk:Hid (∀W,Below w.heap.size w W→YC W yb yo r0 r1):=ae fun W hb=>⟨aQ (aA.elem (s:=5) (f:=Yr.cells) (xs:= [r0,r1]) (fun _ _=>rfl) D5 0 r0 rfl) hb hyb,aQ (aA.elem (s:=5) (f:=Yr.cells) (xs:= [r0,r1]) (fun _ _=>rfl) D5 1 r1 rfl) hb hyb⟩;have JW:=ae BU;clear D5 hys BU;subst hn2 hD;have k7:wr.cell? ⟨w.heap.size,7,none⟩=some (.slice (some ⟨yb,yo,none⟩) 2 d0):=HZ.out.row.2 7;go_wp2_with fail;refine wp_loop_rounds 3 ?_;rw [rounds_succ];clear k7;have dC:=ae (Yk.out wr HZ.out.up);have y0:wr.cell? ⟨yb,yo,none⟩=some (I r0.month):=dC.out.a 0 _ rfl;have y1:wr.cell? ⟨yb,yo+1,none⟩=some (I r0.df):=dC.out.a 1 _ rfl;have y2:wr.cell? ⟨yb,yo+2,none⟩=some (I r0.dh):=dC.out.a 2 _ rfl;have y3:wr.cell? ⟨yb,yo+3,none⟩=some (I r0.minute):=dC.out.a 3 _ rfl;have y4:wr.cell? ⟨yb,yo+4,none⟩=some (I r0.off):=dC.out.a 4 _ rfl;have k7:wr.cell? ⟨w.heap.size,7,none⟩=some (.slice (some ⟨yb,yo,none⟩) 2 d0):=HZ.out.row.2 7;go_upto_region 14 with (first
     |((with_reducible refine bC 129 ?_);refine aH rfl 129 rfl #[I 0,I 0,I 0,I 0,I 0] (by kernel_rfl) ?_)
     |((with_reducible refine cZ 129 ?_);go_must (refine wpList_store_row rfl _ _ _ rfl wr.heap.size #[I r0.month,I r0.df,I r0.dh,I r0.minute,I r0.off] rfl rfl 129 #[I 0,I 0,I 0,I 0,I 0] (heap_alloc_last wr _) (by kernel_rfl) rfl (by simp [Value.oneCell']) ?_)))
    clear dC y0 y1 y2 y3 y4 k7;have hb2:Below wr.heap.size wr ((wr.alloc (.cells #[I 0,I 0,I 0,I 0,I 0] 129)).setRow wr.heap.size #[I r0.month,I r0.df,I r0.dh,I r0.minute,I r0.off]):=aB (ag wr _) (Nat.le_refl _) _;have Ib:=ae (AV.oZ (AV.new wr #[I 0,I 0,I 0,I 0,I 0] 129) #[I r0.month,I r0.df,I r0.dh,I r0.minute,I r0.off]);have Pv:=ae (HZ.out.below hb2);clear hb2 HZ;generalize (wr.alloc (.cells #[I 0,I 0,I 0,I 0,I 0] 129)).setRow wr.heap.size #[I r0.month,I r0.df,I r0.dh,I r0.minute,I r0.off]=X0 at Pv Ib ⊢;generalize wr.heap.size=rb0 at Ib ⊢;try simp only [Act.put]
    have u0:X0.cell? ⟨rb0,0,none⟩=some (I r0.month):=Ib.out.cell 0;have u1:X0.cell? ⟨rb0,1,none⟩=some (I r0.df):=Ib.out.cell 1;have u2:X0.cell? ⟨rb0,2,none⟩=some (I r0.dh):=Ib.out.cell 2;have u3:X0.cell? ⟨rb0,3,none⟩=some (I r0.minute):=Ib.out.cell 3;have u4:X0.cell? ⟨rb0,4,none⟩=some (I r0.off):=Ib.out.cell 4;have k1:X0.cell? ⟨w.heap.size,1,none⟩=some (.slice A0 2 a):=Pv.out.row.2 1;have m1:¬r0.month<1:=by have:=hr0.mo;omega
    have m2:¬(2:Int)<r0.month:=by have:=hr0.mo;omega
    have m3:¬r0.df<1:=by have:=hr0.wk;omega
    have m4:¬(5:Int)<r0.df:=by have:=hr0.wk;omega
    have m5:¬r0.dh<0:=by have:=hr0.wd;omega
    have m6:¬(6:Int)<r0.dh:=by have:=hr0.wd;omega
    have m7:¬r0.minute<0:=by have:=hr0.mi;omega
    have m8:¬(1440:Int)≤r0.minute:=by have:=hr0.mi;omega
    have HWY:=ae (fun W=>jM r0.off 1080 W (by omega) (by have:=hr0.of;omega) (by have:=hr0.of;omega));go_wp2_with fail;refine (HWY.out _).mono ?_;rintro e Hf ⟨rfl,rfl⟩;go_wp2_with fail;clear u0 u1 u2 u3 u4 k1 m1 m2 m3 m4 m5 m6 m7 m8 HWY Ib;rw [rounds_succ];have dC:=ae (Yk.out Hf Pv.out.up);have y0:Hf.cell? ⟨yb,yo+5,none⟩=some (I r1.month):=dC.out.b 0 _ rfl;have y1:Hf.cell? ⟨yb,yo+6,none⟩=some (I r1.df):=dC.out.b 1 _ rfl;have y2:Hf.cell? ⟨yb,yo+7,none⟩=some (I r1.dh):=dC.out.b 2 _ rfl;have y3:Hf.cell? ⟨yb,yo+8,none⟩=some (I r1.minute):=dC.out.b 3 _ rfl;have y4:Hf.cell? ⟨yb,yo+9,none⟩=some (I r1.off):=dC.out.b 4 _ rfl;have k7:Hf.cell? ⟨w.heap.size,7,none⟩=some (.slice (some ⟨yb,yo,none⟩) 2 d0):=Pv.out.row.2 7;go_upto_region 14 with (first
     |((with_reducible refine bC 129 ?_);refine aH rfl 129 rfl #[I 0,I 0,I 0,I 0,I 0] (by kernel_rfl) ?_)
     |((with_reducible refine cZ 129 ?_);go_must (refine wpList_store_row rfl _ _ _ rfl Hf.heap.size #[I r1.month,I r1.df,I r1.dh,I r1.minute,I r1.off] rfl rfl 129 #[I 0,I 0,I 0,I 0,I 0] (heap_alloc_last Hf _) (by kernel_rfl) rfl (by simp [Value.oneCell']) ?_)))
    clear dC y0 y1 y2 y3 y4 k7;have hb2:Below Hf.heap.size Hf ((Hf.alloc (.cells #[I 0,I 0,I 0,I 0,I 0] 129)).setRow Hf.heap.size #[I r1.month,I r1.df,I r1.dh,I r1.minute,I r1.off]):=aB (ag Hf _) (Nat.le_refl _) _;have Ic:=ae (AV.oZ (AV.new Hf #[I 0,I 0,I 0,I 0,I 0] 129) #[I r1.month,I r1.df,I r1.dh,I r1.minute,I r1.off]);have Ie:=ae (Pv.out.below hb2);clear hb2 Pv;generalize (Hf.alloc (.cells #[I 0,I 0,I 0,I 0,I 0] 129)).setRow Hf.heap.size #[I r1.month,I r1.df,I r1.dh,I r1.minute,I r1.off]=X1 at Ie Ic ⊢;generalize Hf.heap.size=rb1 at Ic ⊢;try simp only [Act.put]
    have u0:X1.cell? ⟨rb1,0,none⟩=some (I r1.month):=Ic.out.cell 0;have u1:X1.cell? ⟨rb1,1,none⟩=some (I r1.df):=Ic.out.cell 1;have u2:X1.cell? ⟨rb1,2,none⟩=some (I r1.dh):=Ic.out.cell 2;have u3:X1.cell? ⟨rb1,3,none⟩=some (I r1.minute):=Ic.out.cell 3;have u4:X1.cell? ⟨rb1,4,none⟩=some (I r1.off):=Ic.out.cell 4;have k1:X1.cell? ⟨w.heap.size,1,none⟩=some (.slice A0 2 a):=Ie.out.row.2 1;have m1:¬r1.month<1:=by have:=hr1.mo;omega
    have m2:¬(2:Int)<r1.month:=by have:=hr1.mo;omega
    have m3:¬r1.df<1:=by have:=hr1.wk;omega
    have m4:¬(5:Int)<r1.df:=by have:=hr1.wk;omega
    have m5:¬r1.dh<0:=by have:=hr1.wd;omega
    have m6:¬(6:Int)<r1.dh:=by have:=hr1.wd;omega
    have m7:¬r1.minute<0:=by have:=hr1.mi;omega
    have m8:¬(1440:Int)≤r1.minute:=by have:=hr1.mi;omega
    have HWY:=ae (fun W=>jM r1.off 1080 W (by omega) (by have:=hr1.of;omega) (by have:=hr1.of;omega));go_wp2_with fail;refine (HWY.out _).mono ?_;rintro e uy ⟨rfl,rfl⟩;go_wp2_with fail;clear u0 u1 u2 u3 u4 k1 m1 m2 m3 m4 m5 m6 m7 m8 HWY Ic;rw [rounds_succ];go_upto_region 17 with fail;go_wp2_with ((with_reducible refine dN 67 ?_);go_must (refine aT rfl _ _ rfl w.heap.size rfl #[I ep, .slice A0 2 a,I lp, .slice R0 n1 r,I st, .slice C m c0,I ho, .slice (some ⟨yb,yo,none⟩) 2 d0] ⟨Ie.out.row.1,Ie.out.row.2⟩ _ Tryz.underlying67 rfl (by kernel_rfl) ?_));refine (HK.out uy Ie.out.up).mono ?_;rintro e w5 ⟨rfl,A2,n2,c2,htk⟩;have hsz0:w.heap.size+2<uy.heap.size:=(bT.1 Ie.out.r2).1;have hsz5:=htk.k.lt;have Zx:=ae (htk.grow (ag w5 (.cells #[.pointer (some ⟨uy.heap.size+1,0,none⟩)] 145)));have Rw:=ae ((Ie.out.below htk.lo).below (ag w5 (.cells #[.pointer (some ⟨uy.heap.size+1,0,none⟩)] 145)));have Hu:=ae (heap_alloc_last w5 (.cells #[.pointer (some ⟨uy.heap.size+1,0,none⟩)] 145));clear htk Ie;go_upto_region 20 with fail;generalize w5.alloc (.cells #[.pointer (some ⟨uy.heap.size+1,0,none⟩)] 145)=w6 at Zx Rw Hu ⊢;generalize w5.heap.size=pb at Hu hsz5 ⊢;have k5:w6.cell? ⟨w.heap.size,5,none⟩=some (.slice C m c0):=Rw.out.row.2 5;have Kt:=ae (Zx.out.grow (ag w6 (.cells #[I (m:Int)] 3)));have Dy:=ae (Rw.out.below (ag w6 (.cells #[I (m:Int)] 3)));have Ri:=ae ((Below.heap_alloc w6 (.cells #[I (m:Int)] 3) pb (bT.1 Hu.out).1).trans Hu.out);have Ha:=ae (heap_alloc_last w6 (.cells #[I (m:Int)] 3));have hpn:pb≠w6.heap.size:=by have:=(bT.1 Hu.out).1;omega
    have WE:pb<w6.heap.size:=(bT.1 Hu.out).1;go_upto_region 21 with fail;clear k5 Zx Rw Hu;generalize w6.alloc (.cells #[I (m:Int)] 3)=w7 at Kt Dy Ri Ha ⊢;generalize w6.heap.size=nb at Ha hpn WE ⊢;have n0:w7.cell? ⟨nb,0,none⟩=some (I (m:Int)):=cell_of_row w7 nb 0 _ _ _ Ha.out;have p0:w7.cell? ⟨pb,0,none⟩=some (.pointer (some ⟨uy.heap.size+1,0,none⟩)):=cell_of_row w7 pb 0 _ _ _ Ri.out;rcases Nat.eq_zero_or_pos m with hm0|hm0
    ·have c1:w7.cell? ⟨w.heap.size+1,0,none⟩=some (.pointer none):=cell_of_row w7 _ 0 _ _ _ Dy.out.r1;have c2:w7.cell? ⟨w.heap.size+1+1,0,none⟩=some (.bool false):=cell_of_row w7 (w.heap.size+2) 0 _ _ _ Dy.out.r2;have f1:w7.frozen? ⟨w.heap.size+1,0,none⟩=false:=frozen_of_row w7 _ 0 _ _ Dy.out.r1;have f2:w7.frozen? ⟨w.heap.size+1+1,0,none⟩=false:=frozen_of_row w7 (w.heap.size+2) 0 _ _ Dy.out.r2;have q1:¬pb=w.heap.size+1:=by omega
     have q2:¬pb=w.heap.size+1+1:=by omega
     go_wp2_with fail;refine EF (v:= .tuple #[pt (uy.heap.size+1), .bool true]) rfl (jJ rfl _ _ ⟨w.heap.size+1,0,none⟩ ⟨w.heap.size+1+1,0,none⟩ (pt (uy.heap.size+1)) (.bool true) rfl (kM _ _ _ ?_) rfl (iU _ _ _ ?_)) ⟨⟨_,rfl⟩,?_⟩
     ·go_simp
     ·go_simp
     ·exact (Dy.out.up.setCell (p:=⟨w.heap.size+1,0,none⟩) (Nat.le_succ _) _).setCell (p:=⟨w.heap.size+1+1,0,none⟩) (by show w.heap.size≤w.heap.size+1+1;omega) _
    ·have k6:w7.cell? ⟨w.heap.size,6,none⟩=some (I ho):=Dy.out.row.2 6;have Y5:=ae (IQ (uy.heap.size+1) ho);go_wp2_with fail;refine (Y5.out _).mono ?_;rintro e w8 ⟨rfl,rfl⟩;clear Y5 n0 p0 k6;obtain ⟨w8,hw8⟩:∃W,(w7.alloc (.cells #[.pointer (some ⟨uy.heap.size+1,0,none⟩)] 145)).alloc (.cells #[I ho] 3)=W:=⟨_,rfl⟩;have hb8:Below w7.heap.size w7 w8:=by rw [←hw8];exact ah (ag w7 _) (ag _ _)
     have hcb:w8.heap[w7.heap.size]? =some (.cells #[.pointer (some ⟨uy.heap.size+1,0,none⟩)] 145 (0,0)):=by rw [←hw8];exact heap_alloc2_old w7 _ _
     have htb:w8.heap[w7.heap.size+1]? =some (.cells #[I ho] 3 (0,0)):=by rw [←hw8];exact heap_alloc2_new w7 _ _
     have hs8:w8.heap.size=w7.heap.size+2:=by rw [←hw8];simp
     have hs7:nb<w7.heap.size:=(bT.1 Ha.out).1;rw [hw8];clear hw8;have FD:=ae (Kt.out.grow hb8);have vk:=ae (Dy.out.below hb8);have HP8:=ae ((hb8.block _ (bT.1 Ri.out).1).trans Ri.out);have Zh:=ae ((hb8.block _ (bT.1 Ha.out).1).trans Ha.out);obtain ⟨b,off,V8,hcl⟩:=HAT.out w8 vk.out.up hm0;have hCB:b<w.heap.size:=by
      rcases Zy.out with h0|⟨b',off',e,hb,_⟩
      ·rw [dD (s:=2) Tr.cells _ fun _ _=>rfl] at h0;have:=kH.out;omega
      ·rw [e] at V8;injection V8 with e1;injection e1 with e2;omega
     have HFS:=ae (FD.out.frs (B:=w8.heap.size) (m:=m) (trs:=tr) (C:=C) rfl (.inr ⟨b,off,V8,by omega,hcl⟩) hcb htb);have gu:=ae hcl;clear Kt Dy Ri Ha hb8 hcb htb;generalize w7.heap.size=cb at HFS hs7 hs8 ⊢;go_wp2_with fail;refine (wpIn_wide (n:=3)).1 ?_;have HSQ:=EK 2 w8.heap.size (uy.heap.size+1) cb (cb+1) n2 m 2 n1 2 a r c0 d0 c2 A0 R0 A2 C (some ⟨yb,yo,none⟩) ep lp st ho _ _ tr w8 HFS.out (Nat.le_refl _) FD.out.len kH.out (fun x hx=>(UT.out.tr x hx).2.2) (Fj _ UT.out).1 (xN _ UT.out.cal) (qo _ UT.out.cal).2 hho.1 hho.2 (by have:=(Fj _ UT.out).2;have h2:=FD.out.len;omega) (by omega) (by omega);obtain ⟨tl,htl⟩:∃t,iT tr (m - 1)=t:=⟨_,rfl⟩;have wP:=ae htl;have htlb:=(NI.out (m - 1) (by omega)).2;rw [htl] at htlb;have hel:=(gu.out (m - 1) (by omega)).1;rw [htl] at hel;have HEL:=ae hel;clear htl hel;have hb7:w.heap.size+2<w8.heap.size:=by omega
     have EO:w.heap.size+2<cb+1:=by omega
     have QU:Hid (∀X,w8.grownBy X (some (cb+1))→∀k,k<w8.heap.size→k≠cb+1→X.heap[k]? =w8.heap[k]?):=ae (fun X hg k hk hn=>hg.block k hk (fun e=>hn (by injection e)));have NT:Hid (∀X,w8.grownBy X (some (cb+1))→Below w.heap.size w X):=ae (fun X hg=>vk.out.up.grown hg vk.out.up.size (fun k e=>by injection e with e;omega));refine OM (P:=fun a0=>Code.wpIn _ _ _ _ _ a0 _) (fun a0 ha0=>?_);have uC:=ae ha0;refine nG rfl (by omega) (gf:=110) (lb:= #[.pointer (some ⟨cb,0,none⟩), .pointer (some ⟨cb+1,0,none⟩)]) (by rw [ha0];rfl) trivial (enters_of Tryz.func110 (by kernel_rfl) rfl)
      HSQ (by omega) (Nat.le_refl _) (Below.refl _ _) (fun _=>rfl)
      (fun pre X=>pre= []∧w8.grownBy X (some (cb+1)))
      (fun c pre X=>YT w (uy.heap.size+1) tl c pre X)
      Oa (fun c=>Og hb7 EO c) ⟨rfl,World.grownBy.refl _ _⟩ (fun pre X h=>h.1)
      (fun x a' X=>∃q,w8.heap.size≤q∧X.heap[q]? =some (.cells #[I x.1.at_,I x.1.off] 127 (0,0))∧a'=({tmps:=(a0.tmps.setIfInBounds 159 (.agg #[I x.1.at_,I x.1.off])).setIfInBounds 11 (.pointer (some ⟨q,0,none⟩)),defers:= []}:Act))
      (fun x a' _ X Y row hs hg hr=>by obtain ⟨q,h1,h2,h3⟩:=hs;exact ⟨q,h1,Ai q _ _ () X Y row h2 hg hr,h3⟩)
      ?assign ?body ?done ?stop
     case assign=>
      rintro l pre ⟨⟨xa,xo⟩,hx⟩ X K ⟨hpre,hgr⟩ hK;have HG2:=ae hgr;have hszX:=hgr.size;clear hgr;rw [ha0] at hK ⊢;simp only [List.zip_toArray,List.zip_cons_cons,List.zip_nil_right,List.foldl_toArray,List.foldl_cons,List.foldl_nil,List.setIfInBounds_toArray,List.set_cons_succ,List.set_cons_zero] at hK ⊢
      gi_wp2_with (first|((with_reducible refine BP 127 ?_);refine nO rfl _ rfl #[I 0,I 0] (by kernel_rfl) ?_)|((with_reducible refine tY 127 ?_);go_must (refine iH rfl _ _ _ rfl #[I xa,I xo] rfl rfl 127 #[I 0,I 0] rfl (by kernel_rfl) rfl (by kernel_rfl) ?_);intro W5 hb5 hs5 hh5 uH hk5;have pO:=ae hb5;have Y7:=ae hh5;have xP:=ae hk5;clear hb5 hs5 hh5 uH hk5))
      exact hK _ _ (xP.out.from _) (pO.out.mono (by omega)) ⟨hpre,HG2.out.andThen (vU pO.out) (fun j e=>nomatch e)⟩ ⟨X.heap.size,by omega,Y7.out,rfl⟩
     case body=>
      rintro l pre ⟨⟨xa,xo⟩,hx⟩ a' X hl _ ⟨rfl,hgr⟩ ⟨q,hq,hblk,rfl⟩;have HG2:=ae hgr;have Ho:=ae hblk;clear hgr hblk;rw [ha0];simp only [List.setIfInBounds_toArray,List.set_cons_succ,List.set_cons_zero] at Ho ⊢
      gi_wp2_with fail
      obtain ⟨hx1,hx2⟩:=hx;simp only at hx1 hx2;obtain ⟨mj,hmj⟩:∃j:Nat,(m:Int) - 1=(j:Nat):=⟨m - 1,by omega⟩;have hmjn:m - 1=mj:=by omega
      have mj0:(0:Int)≤(mj:Int):=by omega
      have mj1:(mj:Int)<(m:Int):=by omega
      have wm:IntKind.i64.wrap (mj:Int)=(mj:Int):=by rw [IntKind.wrap_i64];omega
      have wx:IntKind.i64.wrap (xa - tl)=xa - tl:=by rw [IntKind.wrap_i64];omega
      have hbb:=QU.out X HG2.out;have hS0:(fun Y:World=>Y.cell? ⟨pb,0,none⟩=some (.pointer (some ⟨uy.heap.size+1,0,none⟩))∧Y.cell? ⟨q,0,none⟩=some (I xa)∧Y.cell? ⟨w.heap.size,5,none⟩=some (.slice (some ⟨b,off,none⟩) m c0)∧Y.cell? ⟨nb,0,none⟩=some (I (m:Int))∧Y.cell? ⟨b,off+mj*2,none⟩=some (I tl)) X.drew:=
       ⟨(lF (hbb pb (by omega) (by omega))).trans (cell_of_row w8 pb 0 _ _ _ HP8.out),cell_of_row X q 0 _ _ _ Ho.out,(lF (hbb w.heap.size (by omega) (by omega))).trans ((vk.out.row.2 5).trans (by rw [←V8];rfl)),(lF (hbb nb (by omega) (by omega))).trans (cell_of_row w8 nb 0 _ _ _ Zh.out),(lF (hbb b (by omega) (by omega))).trans (by rw [←hmjn];exact HEL.out)⟩
      have hr1:X.heap[w.heap.size+1]? =some (.cells #[.pointer none] 145 (0,0)):=(hbb _ (by omega) (by omega)).trans vk.out.r1;have hr2:X.heap[w.heap.size+2]? =some (.cells #[.bool false] 4 (0,0)):=(hbb _ (by omega) (by omega)).trans vk.out.r2;have HR1:=ae hr1;have HR2:=ae hr2;have HUX:=ae (NT.out X HG2.out);have hqx:q<X.heap.size:=(bT.1 Ho.out).1;clear hbb hr1 hr2;refine lN (S:=fun Y:World=>Y.cell? ⟨pb,0,none⟩=some (.pointer (some ⟨uy.heap.size+1,0,none⟩))∧Y.cell? ⟨q,0,none⟩=some (I xa)∧Y.cell? ⟨w.heap.size,5,none⟩=some (.slice (some ⟨b,off,none⟩) m c0)∧Y.cell? ⟨nb,0,none⟩=some (I (m:Int))∧Y.cell? ⟨b,off+mj*2,none⟩=some (I tl)) (I4 (by kernel_rfl)) (by kernel_rfl) (by rintro ⟨a,w,h⟩;exact h) ?_;refine aJ 0 (.pointer (some ⟨uy.heap.size+1,0,none⟩)) 160 hS0 (fun w' hSw=>?_) ?_
      ·obtain ⟨s0,s1,s2,s3,s4⟩:=hSw
       first|(go_simp;done)|(go_simp;with_reducible rfl)
      refine ax ?_;refine aJ 1 (.pointer (some ⟨q,0,none⟩)) 161 hS0 (fun w' hSw=>?_) ?_
      ·clear hSw
       first|(go_simp;done)|(go_simp;with_reducible rfl)
      refine ax ?_;refine aJ 2 (I xa) 162 hS0 (fun w' hSw=>?_) ?_
      ·obtain ⟨s0,s1,s2,s3,s4⟩:=hSw
       first|(go_simp;done)|(go_simp;with_reducible rfl)
      refine ax ?_;refine aJ 3 (.pointer (some ⟨w.heap.size,5,none⟩)) 163 hS0 (fun w' hSw=>?_) ?_
      ·clear hSw
       first|(go_simp;done)|(go_simp;with_reducible rfl)
      refine ax ?_;refine aJ 4 (.slice (some ⟨b,off,none⟩) m c0) 164 hS0 (fun w' hSw=>?_) ?_
      ·obtain ⟨s0,s1,s2,s3,s4⟩:=hSw
       first|(go_simp;done)|(go_simp;with_reducible rfl)
      refine ax ?_;refine aJ 5 (I (m:Int)) 165 hS0 (fun w' hSw=>?_) ?_
      ·obtain ⟨s0,s1,s2,s3,s4⟩:=hSw
       first|(go_simp;done)|(go_simp;with_reducible rfl)
      refine ax ?_;refine aJ 6 (I (mj:Int)) 166 hS0 (fun w' hSw=>?_) ?_
      ·clear hSw
       first|(go_simp;done)|(go_simp;with_reducible rfl)
      refine ax ?_;refine aJ 7 (.pointer (some ⟨b,off+mj*2,none⟩)) 167 hS0 (fun w' hSw=>?_) ?_
      ·clear hSw
       first|(go_simp;done)|(go_simp;with_reducible rfl)
      refine ax ?_;refine aJ 8 (.pointer (some ⟨b,off+mj*2,none⟩)) 168 hS0 (fun w' hSw=>?_) ?_
      ·clear hSw
       first|(go_simp;done)|(go_simp;with_reducible rfl)
      refine ax ?_;refine aJ 9 (I tl) 169 hS0 (fun w' hSw=>?_) ?_
      ·obtain ⟨s0,s1,s2,s3,s4⟩:=hSw
       first|(go_simp;done)|(go_simp;with_reducible rfl)
      refine ax ?_;refine aJ 10 (I (xa - tl)) 170 hS0 (fun w' hSw=>?_) ?_
      ·clear hSw
       first|(go_simp;done)|(go_simp;with_reducible rfl)
      refine ax ?_;refine aJ 11 (.bool (decide (2160≤xa - tl))) 171 hS0 (fun w' hSw=>?_) ?_
      ·clear hSw
       first|(go_simp;done)|(go_simp;with_reducible rfl)
      refine ax ?_;refine aW 12 (fun K hK=>?_);have c1:X.drew.cell? ⟨w.heap.size+1,0,none⟩=some (.pointer none):=cell_of_row X _ 0 _ _ _ HR1.out;have f1:X.drew.frozen? ⟨w.heap.size+1,0,none⟩=false:=frozen_of_row X _ 0 _ _ HR1.out;go_simp;obtain ⟨s0,s1,s2,s3,s4⟩:=hS0;have hS1:(fun Y:World=>Y.cell? ⟨pb,0,none⟩=some (.pointer (some ⟨uy.heap.size+1,0,none⟩))∧Y.cell? ⟨q,0,none⟩=some (I xa)∧Y.cell? ⟨w.heap.size,5,none⟩=some (.slice (some ⟨b,off,none⟩) m c0)∧Y.cell? ⟨nb,0,none⟩=some (I (m:Int))∧Y.cell? ⟨b,off+mj*2,none⟩=some (I tl)) (X.drew.setCell ⟨w.heap.size+1,0,none⟩ (.pointer (some ⟨uy.heap.size+1,0,none⟩))):=
       ⟨(cell_far (by omega)).trans s0,(cell_far (by omega)).trans s1,(cell_far (by omega)).trans s2,(cell_far (by omega)).trans s3,(cell_far (by omega)).trans s4⟩
      refine hK.out _ _ hS1 (fun _=>?_);clear hK K;try simp only [Act.put]
      refine aW 13 (fun K hK=>?_);obtain ⟨s0,s1,s2,s3,s4⟩:=hS1;have hr3:(X.drew.setCell ⟨w.heap.size+1,0,none⟩ (.pointer (some ⟨uy.heap.size+1,0,none⟩))).heap[w.heap.size+2]? =some (.cells #[.bool false] 4 (0,0)):=(heap_setCell_other X.drew ⟨w.heap.size+1,0,none⟩ _ _ (by show w.heap.size+2≠w.heap.size+1;omega)).trans HR2.out;have c2:(X.drew.setCell ⟨w.heap.size+1,0,none⟩ (.pointer (some ⟨uy.heap.size+1,0,none⟩))).cell? ⟨w.heap.size+1+1,0,none⟩=some (.bool false):=cell_of_row _ (w.heap.size+2) 0 _ _ _ hr3;have f2:(X.drew.setCell ⟨w.heap.size+1,0,none⟩ (.pointer (some ⟨uy.heap.size+1,0,none⟩))).frozen? ⟨w.heap.size+1+1,0,none⟩=false:=frozen_of_row _ (w.heap.size+2) 0 _ _ hr3;have hr4:(X.setCell ⟨w.heap.size+1,0,none⟩ (.pointer (some ⟨uy.heap.size+1,0,none⟩))).heap[w.heap.size+2]? =some (.cells #[.bool false] 4 (0,0)):=hr3;have c3:(X.setCell ⟨w.heap.size+1,0,none⟩ (.pointer (some ⟨uy.heap.size+1,0,none⟩))).cell? ⟨w.heap.size+1+1,0,none⟩=some (.bool false):=cell_of_row _ (w.heap.size+2) 0 _ _ _ hr4;have f3:(X.setCell ⟨w.heap.size+1,0,none⟩ (.pointer (some ⟨uy.heap.size+1,0,none⟩))).frozen? ⟨w.heap.size+1+1,0,none⟩=false:=frozen_of_row _ (w.heap.size+2) 0 _ _ hr4;clear hr4;have Y6:=ae (Ak (kb:=uy.heap.size+1) (v:=decide (2160≤xa - tl)) (X:=X.drew) HR1.out HR2.out HUX.out.drew);clear hr3;go_simp;have hS2:(fun Y:World=>Y.cell? ⟨pb,0,none⟩=some (.pointer (some ⟨uy.heap.size+1,0,none⟩))∧Y.cell? ⟨q,0,none⟩=some (I xa)∧Y.cell? ⟨w.heap.size,5,none⟩=some (.slice (some ⟨b,off,none⟩) m c0)∧Y.cell? ⟨nb,0,none⟩=some (I (m:Int))∧Y.cell? ⟨b,off+mj*2,none⟩=some (I tl)) ((X.drew.setCell ⟨w.heap.size+1,0,none⟩ (.pointer (some ⟨uy.heap.size+1,0,none⟩))).setCell ⟨w.heap.size+1+1,0,none⟩ (.bool (decide (2160≤xa - tl)))):=
       ⟨(cell_far (by omega)).trans s0,(cell_far (by omega)).trans s1,(cell_far (by omega)).trans s2,(cell_far (by omega)).trans s3,(cell_far (by omega)).trans s4⟩
      refine hK.out _ _ hS2 (fun _=>?_);clear hK K;refine wpAnyH_done (by kernel_rfl) ?_ _
      gi_wp2
      exact ⟨(((show KeepsOthers X X.drew from ⟨Nat.le_refl _,fun _ _ h _=>h⟩).trans (KeepsOthers.setCell _ _ _)).trans (KeepsOthers.setCell _ _ _)).from _,_,rfl,rfl,Y6.out⟩
     case done=>
      rintro D xs Y hD ⟨rfl,hn0⟩ ⟨_,hgr⟩ V9;have hbb:=QU.out Y hgr;have HUY:=ae (NT.out Y hgr);have hr1:Y.heap[w.heap.size+1]? =some (.cells #[.pointer none] 145 (0,0)):=(hbb _ (by omega) (by omega)).trans vk.out.r1;have hr2:Y.heap[w.heap.size+2]? =some (.cells #[.bool false] 4 (0,0)):=(hbb _ (by omega) (by omega)).trans vk.out.r2;have p0:Y.cell? ⟨pb,0,none⟩=some (.pointer (some ⟨uy.heap.size+1,0,none⟩)):=(lF (hbb pb (by omega) (by omega))).trans (cell_of_row w8 pb 0 _ _ _ HP8.out);have c1:Y.cell? ⟨w.heap.size+1,0,none⟩=some (.pointer none):=cell_of_row Y _ 0 _ _ _ hr1;have c2:Y.cell? ⟨w.heap.size+1+1,0,none⟩=some (.bool false):=cell_of_row Y (w.heap.size+2) 0 _ _ _ hr2;have f1:Y.frozen? ⟨w.heap.size+1,0,none⟩=false:=frozen_of_row Y _ 0 _ _ hr1;have f2:Y.frozen? ⟨w.heap.size+1+1,0,none⟩=false:=frozen_of_row Y (w.heap.size+2) 0 _ _ hr2;have Y6:=ae (Ak (kb:=uy.heap.size+1) (v:=true) (X:=Y) hr1 hr2 HUY.out);have HDK:=ae V9;clear hbb hr1 hr2 hgr V9 hn0;rw [ha0];go_wp2_with fail;obtain ⟨g1,g2,g3⟩:=Y6.out;have hd1:D≠w.heap.size+1:=by omega
      have hd2:D≠w.heap.size+1+1:=by omega
      have hDY:((Y.setCell ⟨w.heap.size+1,0,none⟩ (pt (uy.heap.size+1))).setCell ⟨w.heap.size+1+1,0,none⟩ (.bool true)).heap[D]? =some (.deferred (some [])):=(heap_setCell_other _ ⟨w.heap.size+1+1,0,none⟩ _ _ hd2).trans ((heap_setCell_other Y ⟨w.heap.size+1,0,none⟩ _ _ hd1).trans HDK.out);refine pV (v:= .tuple #[pt (uy.heap.size+1), .bool true]) rfl hDY (jJ rfl _ _ ⟨w.heap.size+1,0,none⟩ ⟨w.heap.size+1+1,0,none⟩ (pt (uy.heap.size+1)) (.bool true) rfl (kM _ _ _ ?_) rfl (iU _ _ _ ?_)) ⟨⟨_,rfl⟩,?_⟩
      ·exact cell_of_row _ _ 0 _ _ _ ((World.putObj_heap_other (by omega)).trans g1)
      ·exact cell_of_row _ (w.heap.size+2) 0 _ _ _ ((World.putObj_heap_other (by omega)).trans g2)
      ·exact g3.grown (grownBy_putObj' _ D _) g3.size (fun k e=>by injection e with e;omega)
     case stop=>
      rintro D c pre Y hD ⟨hn0,hpre⟩ ⟨x,rfl,rfl,g1,g2,g3⟩ V9;have hx1:=hpre;simp only [List.map_cons,List.map_nil,List.cons.injEq,and_true] at hx1;have hlt:=Oo Vp.out (by rw [FD.out.len];exact hn0) (by rw [kH.out];exact hm0);rw [kH.out,wP.out] at hlt;have hge:decide (2160≤x.1.at_ - tl)=true:=decide_eq_true (by rw [hx1];exact hlt);rw [hge] at g2;rw [ha0];refine (wpIn_wide (n:=3)).2 ?_;go_wp2_with fail;refine pV (v:= .tuple #[pt (uy.heap.size+1), .bool true]) rfl V9 (jJ rfl _ _ ⟨w.heap.size+1,0,none⟩ ⟨w.heap.size+1+1,0,none⟩ (pt (uy.heap.size+1)) (.bool true) rfl (kM _ _ _ ?_) rfl (iU _ _ _ ?_)) ⟨⟨_,rfl⟩,?_⟩
      ·exact cell_of_row _ _ 0 _ _ _ ((World.putObj_heap_other (by omega)).trans g1)
      ·exact cell_of_row _ (w.heap.size+2) 0 _ _ _ ((World.putObj_heap_other (by omega)).trans g2)
      ·exact g3.grown (grownBy_putObj' _ D _) g3.size (fun k e=>by injection e with e;omega)
end Go.Proofs.YtdibbemgpikgjaaGreatDoor
