/- The texts Nl, in this order. -/
import Derived.Test.YtdibbemgpikgjaaGreatZ00
import Derived.Test.YtdibbemgpikgjaaGreatZ03
import Derived.Test.YtdibbemgpikgjaaGreatZ17
import Derived.Test.YtdibbemgpikgjaaGreatZ25
set_option maxRecDepth 10000
set_option maxHeartbeats 8000000
namespace Go.Proofs.YtdibbemgpikgjaaGreat
open Go Go.RowKit
theorem uC (n l:Int) (w:World) (hl:0≤l∧l≤4503599627370496) (h1: -l≤n) (h2:n≤l) (k:Nat):Calls Tryz.prog 31 #[I n,I l] (w.drewN k) fun e w'=>e= .returned (.bool true)∧∃m,w'=w.drewN m:=
 (jk n l (w.drewN k) hl h1 h2).mono fun _ _ ⟨h3,h4⟩=>⟨h3,k,h4⟩
theorem rP {P:Program} {f:FuncId} {fn:Func} {c:Code} {args:Array Value} {w:World} {R:Ending→World→Prop} (hf:P.funcs[f]? =some fn) (hb:fn.body=some c)
  (h:c.wp P (bodyPostM Fence.wide 3 P fn R) {tmps:=args++Array.replicate (fn.ntmps - args.size) undef,defers:= []} w):Calls P f args w R:=
 callsIn_wide.1 (callsIn_of_wp_marks (F:=Fence.wide) (n:=3) hf hb trivial (wpIn_wide.2 h) rfl)
theorem DI {P:Program} {fn:Func} {R:Ending→World→Prop} {a:Act} {w:World} {v:Value} (hd:a.defers= []) (h:(results fn a.tmps).run P w= .ok v w) (hR:R (.returned v) w):bodyPostM Fence.wide 3 P fn R .ret a w:=by
 show LeavesInM Fence.wide 3 P fn a.tmps R a.defers .returning w;rw [hd];exact ⟨v,h,hR⟩
theorem jI {P:Program} {fn:Func} {R:Ending→World→Prop} {a:Act} {w:World} {v:Value} {D:Nat} {xs:Array Value} (hd:a.defers= [{target:= .collected D,args:=xs}]) (hD:w.heap[D]? =some (.deferred (some [])))
  (h:(results fn a.tmps).run P (w.putObj D (.deferred none))= .ok v (w.putObj D (.deferred none))) (hR:R (.returned v) (w.putObj D (.deferred none))):bodyPostM Fence.wide 3 P fn R .ret a w:=by
 show LeavesInM Fence.wide 3 P fn a.tmps R a.defers .returning w;rw [hd];exact ⟨by simp, .inl ⟨_,_,rfl,run_takeDeferred hD,⟨v,h,hR⟩⟩⟩
theorem oP.frs {w W:World} {zc:List Value} {cy ho:Int} {A C:Option Addr} {n c m cb tb B:Nat} {ts trs:List Tr} (h:oP w zc cy A n c ts W) (hB:B=W.heap.size)
  (hC:m=0∨∃b off,C=Option.some ⟨b,off,none⟩∧b<B∧∀k,k<m→W.cell? ⟨b,off+k*2,none⟩=Option.some (I (df trs k))∧W.cell? ⟨b,off+k*2+1,none⟩=Option.some (I (fD trs k)))
  (hc:W.heap[cb]? =some (.cells #[.pointer (Option.some ⟨w.heap.size+1,0,none⟩)] 85 (0,0))) (ht:W.heap[tb]? =some (.cells #[I ho] 3 (0,0))):
  Xt B (w.heap.size+1) cb tb (zc++ [Value.slice A n c,I cy]) A n ts C m trs ho W:=by
 subst hB;refine ⟨h.k,?_,hC,hc,ht,h.k.lt,(aZ.1 hc).1,(aZ.1 ht).1⟩;rcases h.own.2 with ⟨_,h0⟩|⟨g,cap,cur,hv,hg,hh,_⟩
 ·exact .inl h0
 ·injection hv with h1 h2 h3;have ho:=h.own;rw [h1] at ho;exact .inr ⟨g,h1,(aZ.1 hh).1,fun k hk=>⟨pR ho h.len k hk,qL ho h.len k hk⟩⟩
theorem EE {W:World} {tb:Nat} {f:List Yt→Prop}:ig W.heap.size tb (fun (pre:List Yt) X=>f pre∧W.grownBy X (some tb)):=fun _ _ _ _ hs hg hr=>
 ⟨hs.1,hs.2.andThen hg (fun j e=>by
  rcases hr j e with h|h
  ·exact .inl h
  ·exact .inr (by rw [h]))⟩
def Xr (w w8:World) (tb kb:Nat) (tl:Int) (c:Code) (pre:List Yt) (X:World):Prop:=
 ∃x:Yt,pre= [x]∧c= .ret∧X.heap[w.heap.size+1]? =some (.cells #[pt kb] 85 (0,0))∧X.heap[w.heap.size+2]? =some (.cells #[.bool (decide (2160≤x.1.at_ - tl))] 4 (0,0))∧Below w.heap.size w X∧
  ∀k,k<w8.heap.size→k≠tb→k≠w.heap.size+1→k≠w.heap.size+2→X.heap[k]? =w8.heap[k]?
theorem LP {w w8:World} {B tb kb:Nat} {tl:Int} (h8:w8.heap.size≤B) (hB:w.heap.size+2<B) (htb:w.heap.size+2<tb) (c:Code):ig B tb (Xr w w8 tb kb tl c):=by
 rintro s X Y row ⟨x,h1,h2,h3,h4,h5,h6⟩ hg hr;have key:∀k,k≤w.heap.size+2→k<X.heap.size→Y.heap[k]? =X.heap[k]? :=fun k hk hl=>hg.block k hl (fun e=>by rcases hr k e.symm with h|h<;>omega);exact ⟨x,h1,h2,(key _ (by omega) (aZ.1 h3).1).trans h3,(key _ (by omega) (aZ.1 h4).1).trans h4,h5.grown hg h5.size (fun k e=>by rcases hr k e with h|h<;>omega),fun k hk hn q1 q2=>
  (hg.block k (aZ.1 ((h6 k hk hn q1 q2).trans (Array.getElem?_eq_getElem hk))).1 (fun e=>by rcases hr k e.symm with h|h<;>omega)).trans (h6 k hk hn q1 q2)⟩
theorem fZ {X Y:World} {k o:Nat} (h:X.heap[k]? =Y.heap[k]?):X.cell? ⟨k,o,none⟩=Y.cell? ⟨k,o,none⟩:=by simp only [World.cell?,h]
structure zQ (lo hi B kb:Nat) (kc:List Value) (A:Option Addr) (n:Nat) (ts:List Tr) (C:Option Addr) (m:Nat) (trs:List Tr) (W:World):Prop where
 k:AV kb 92 kc.toArray W
 ys:n=0∨∃g,A=Option.some ⟨g,0,none⟩∧(g<B∧hi<g)∧∀k,k<n→W.cell? ⟨g,k*2,none⟩=Option.some (I (df ts k))∧W.cell? ⟨g,k*2+1,none⟩=Option.some (I (fD ts k))
 tr:m=0∨∃b off,C=Option.some ⟨b,off,none⟩∧(b<B∧b<lo)∧∀k,k<m→W.cell? ⟨b,off+k*2,none⟩=Option.some (I (df trs k))∧W.cell? ⟨b,off+k*2+1,none⟩=Option.some (I (fD trs k))
 lt:kb<B∧hi<kb
theorem zQ.far {lo hi B kb n m:Nat} {kc:List Value} {A C:Option Addr} {ts trs:List Tr} {W W':World} (h:zQ lo hi B kb kc A n ts C m trs W) (hh:∀k,k<B→(k<lo∨hi<k)→W'.heap[k]? =W.heap[k]?) {B':Nat} (hB:B≤B'):zQ lo hi B' kb kc A n ts C m trs W':=by
 refine ⟨⟨(hh kb h.lt.1 (.inr h.lt.2)).trans h.k.var⟩,?_,?_,dR h.lt.1 hB,h.lt.2⟩
 ·rcases h.ys with h0|⟨g,e,hg,hc⟩
  ·exact .inl h0
  ·exact .inr ⟨g,e,⟨dR hg.1 hB,hg.2⟩,fun k hk=>⟨(fZ (hh g hg.1 (.inr hg.2))).trans (hc k hk).1,(fZ (hh g hg.1 (.inr hg.2))).trans (hc k hk).2⟩⟩
 ·rcases h.tr with h0|⟨b,off,e,hg,hc⟩
  ·exact .inl h0
  ·exact .inr ⟨b,off,e,⟨dR hg.1 hB,hg.2⟩,fun k hk=>⟨(fZ (hh b hg.1 (.inl hg.2))).trans (hc k hk).1,(fZ (hh b hg.1 (.inl hg.2))).trans (hc k hk).2⟩⟩
theorem oP.clk {w W:World} {zc:List Value} {cy:Int} {A C:Option Addr} {n c m lo hi:Nat} {ts trs:List Tr} (h:oP w zc cy A n c ts W)
  (hC:m=0∨∃b off,C=Option.some ⟨b,off,none⟩∧(b<W.heap.size∧b<lo)∧∀k,k<m→W.cell? ⟨b,off+k*2,none⟩=Option.some (I (df trs k))∧W.cell? ⟨b,off+k*2+1,none⟩=Option.some (I (fD trs k)))
  (hhi:hi<w.heap.size):zQ lo hi W.heap.size (w.heap.size+1) (zc++ [Value.slice A n c,I cy]) A n ts C m trs W:=by
 refine ⟨h.k,?_,hC,h.k.lt,by omega⟩;rcases h.own.2 with ⟨_,h0⟩|⟨g,cap,cur,hv,hg,hh,_⟩
 ·exact .inl h0
 ·injection hv with h1 h2 h3;have ho:=h.own;rw [h1] at ho;exact .inr ⟨g,h1,⟨(aZ.1 hh).1,by omega⟩,fun k hk=>⟨pR ho h.len k hk,qL ho h.len k hk⟩⟩
def lK (z:Zn) (kb:Nat) (W:World):Prop:=∃(n0 n1 n3 a r c0 d0 c lo hi:Nat) (A0 R0 A C D0:Option Addr),
 zQ lo hi W.heap.size kb [I z.cal.aN, .slice A0 n0 a,I z.cal.bu, .slice R0 n1 r,I z.start, .slice C z.trans.length c0,I z.hor, .slice D0 n3 d0, .slice A (dP z).length c,I (dL z)] A (dP z).length (dP z) C z.trans.length z.trans W
theorem lK.of {z:Zn} {kb n0 n1 n3 a r c0 d0 c lo hi n m:Nat} {A0 R0 A C D0:Option Addr} {W:World}
  (h:zQ lo hi W.heap.size kb [I z.cal.aN, .slice A0 n0 a,I z.cal.bu, .slice R0 n1 r,I z.start, .slice C m c0,I z.hor, .slice D0 n3 d0, .slice A n c,I (dL z)] A n (dP z) C m z.trans W) (hn:(dP z).length=n) (hm:z.trans.length=m):lK z kb W:=by
 subst hn hm;exact ⟨n0,n1,n3,a,r,c0,d0,c,lo,hi,A0,R0,A,C,D0,h⟩
theorem lK.keep {z:Zn} {kb:Nat} {W W':World} (h:lK z kb W) (hb:Below W.heap.size W W'):lK z kb W':=by
 obtain ⟨n0,n1,n3,a,r,c0,d0,c,lo,hi,A0,R0,A,C,D0,h⟩:=h;exact ⟨n0,n1,n3,a,r,c0,d0,c,lo,hi,A0,R0,A,C,D0,h.far (fun k hk _=>hb.block k hk) hb.size⟩
theorem tV (X:World) (p q:Addr) (u v:Value):X.heap.size≤((X.setCell p u).setCell q v).heap.size:=
 (((Below.refl 0 X).setCell (p:=p) (Nat.zero_le _) u).setCell (p:=q) (Nat.zero_le _) v).size
theorem mQ {X:World} {b k:Nat} {u v:Value} (h:k<b+1∨b+2<k):((X.setCell ⟨b+1,0,none⟩ u).setCell ⟨b+1+1,0,none⟩ v).heap[k]? =X.heap[k]? :=
 (heap_setCell_other _ ⟨b+1+1,0,none⟩ k _ (by show k≠b+1+1;omega)).trans (heap_setCell_other X ⟨b+1,0,none⟩ k _ (by show k≠b+1;omega))
theorem cell_far {X:World} {g k o:Nat} {v:Value} (hn:k≠g):(X.setCell ⟨g,0,none⟩ v).cell? ⟨k,o,none⟩=X.cell? ⟨k,o,none⟩:=fZ (heap_setCell_other X ⟨g,0,none⟩ k v hn)
theorem Js {ts:List Tr} {size t:Int} (h:ts.length≠0):(dU ts size t).2=true:=by
 unfold dU;rw [if_neg h];split<;>rfl
theorem L9 {z:Zn} (h:oU z=false) (hy:(dP z).length≠0) (ht:0<z.trans.length):2160≤(dU (dP z) (dL z*1440) z.hor).1.at_ - df z.trans (z.trans.length - 1):=by
 unfold oU at h;simp only [Js hy,ht,decide_true,Bool.true_and,decide_eq_false_iff_not] at h;omega
theorem zI {w X:World} {kb:Nat} {v:Bool} (h1:X.heap[w.heap.size+1]? =some (.cells #[.pointer none] 85 (0,0))) (h2:X.heap[w.heap.size+2]? =some (.cells #[.bool false] 4 (0,0))) (hb:Below w.heap.size w X):
  ((X.setCell ⟨w.heap.size+1,0,none⟩ (pt kb)).setCell ⟨w.heap.size+1+1,0,none⟩ (.bool v)).heap[w.heap.size+1]? =some (.cells #[pt kb] 85 (0,0))∧
  ((X.setCell ⟨w.heap.size+1,0,none⟩ (pt kb)).setCell ⟨w.heap.size+1+1,0,none⟩ (.bool v)).heap[w.heap.size+2]? =some (.cells #[.bool v] 4 (0,0))∧
  Below w.heap.size w ((X.setCell ⟨w.heap.size+1,0,none⟩ (pt kb)).setCell ⟨w.heap.size+1+1,0,none⟩ (.bool v)):=by
 refine ⟨?_,?_,(hb.setCell (p:=⟨w.heap.size+1,0,none⟩) (by show w.heap.size≤w.heap.size+1;omega) _).setCell (p:=⟨w.heap.size+1+1,0,none⟩) (by show w.heap.size≤w.heap.size+1+1;omega) _⟩
 ·rw [heap_setCell_other _ ⟨w.heap.size+1+1,0,none⟩ _ _ (by show w.heap.size+1≠w.heap.size+1+1;omega),heap_setCell_same X _ 0 _ _ _ h1];rfl
 ·have h3:(X.setCell ⟨w.heap.size+1,0,none⟩ (pt kb)).heap[w.heap.size+2]? =some (.cells #[.bool false] 4 (0,0)):=(heap_setCell_other X ⟨w.heap.size+1,0,none⟩ _ _ (by show w.heap.size+2≠w.heap.size+1;omega)).trans h2;show ((X.setCell ⟨w.heap.size+1,0,none⟩ (pt kb)).setCell ⟨w.heap.size+2,0,none⟩ (.bool v)).heap[w.heap.size+2]? =_;rw [heap_setCell_same _ _ 0 _ _ _ h3];rfl
theorem wP {P:Act→Prop} {a:Act} (h:∀a0,a0=a→P a0):P a:=h a rfl
theorem ZO.drewN {w W:World} {cs:Array Value} (h:ZO w cs W) (k:Nat):ZO w cs (W.drewN k):=h.below (below_drewN' _ _)
theorem tZ (z:Zn) (s:Zs) (w:World) (hm:nO z) (h:gW w w.heap.size s z) (hv:vJ z=0):Calls Tryz.prog 30 #[.agg (aj z s)] w fun e w'=>(∃b:Nat,e= .returned (.tuple #[pt b, .bool true])∧lK z b w')∧Below w.heap.size w w':=by
 have hgl:iE (dP z) (dL z*1440)=true∧oU z=false:=by
  unfold vJ at hv;split at hv
  ·omega
  ·rename_i h1;split at hv
   ·omega
   ·rename_i h2;exact ⟨by simpa using h1,by simpa using h2⟩
 have HK:=ae (fun (W:World) (hb:Below w.heap.size w W)=>RI z s W hm (h.grow hb) hgl.1);have HV:=ae (fun (W:World) (hb:Below w.heap.size w W)=>nP z.cal s.A s.B s.a s.b W hm.cal ⟨h.au.grow hb,h.rules.grow hb⟩);have TQ:=ae hgl.2;have SQ:=ae hm;have HAT:=ae (fun (W:World) (hb:Below w.heap.size w W) (h0:0<z.trans.length)=>ou h.trans hb h0);have HYS:=ae h.ay;have XX:=ae (h.trans);have Y5:=hm.gap;have ZT:=ae (fun k hk=>hm.Am k hk);have Ci:=ae hm.yr;have hst:=hm.start;have hho:=hm.hor;have JH:=hm.MV;have hcf:=hm.cal.form;clear hgl hv h hm;obtain ⟨cal,st,tr,ho,yr⟩:=z;obtain ⟨A0,a,R0,r,C,c0,D0,d0⟩:=s;simp only at HK HV TQ HAT HYS XX Y5 ZT Ci hst hho JH hcf ⊢;obtain ⟨ep,m0,m1,lp,rs,rfl,_⟩:=hcf;have HGAP:=ae Y5;obtain ⟨n1,hn1⟩:∃n,rs.length=n:=⟨_,rfl⟩;obtain ⟨m,hmm⟩:∃n,tr.length=n:=⟨_,rfl⟩;obtain ⟨ny,hny⟩:∃n,yr.length=n:=⟨_,rfl⟩;rw [hmm] at HAT ZT HGAP JH;have kD:=ae hmm;have e0:aj ⟨⟨ep,[m0,m1],lp,rs⟩,st,tr,ho,yr⟩ ⟨A0,a,R0,r,C,c0,D0,d0⟩= #[I ep, .slice A0 2 a,I lp, .slice R0 n1 r,I st, .slice C m c0,I ho, .slice D0 ny d0]:=by rw [←hn1,←hmm,←hny];rfl
 have e1:aF ⟨ep,[m0,m1],lp,rs⟩ A0 a R0 r= #[I ep, .slice A0 2 a,I lp, .slice R0 n1 r]:=by rw [←hn1];rfl
 rw [e0] at HK ⊢;rw [e1] at HV;have HW1:=ae (fun W=>jk st 1080 W (by omega) (by omega) (by omega));have HW2:=ae (fun W=>jk ho 2251799813685248 W (by omega) (by omega) (by omega));have HZ0:=ae (IQ w #[I ep, .slice A0 2 a,I lp, .slice R0 n1 r,I st, .slice C m c0,I ho, .slice D0 ny d0]);have Wl:=ae hny;have hm512:¬(512:Int)<(m:Int):=by omega
 clear e0 e1 hn1 Y5 hny;refine rP Tryz.func30 rfl ?_;simp only [Tryz.ntmps30,List.size_toArray,List.length_cons,List.length_nil,Nat.reduceAdd,Nat.reduceSub,Array.replicate_succ,Array.replicate_zero,List.push_toArray,List.append_toArray,List.nil_append,List.cons_append];go_wp2_with fail;refine (HV.out _ HZ0.out.up).mono ?_;rintro e w1 ⟨rfl,hb1⟩;have HZ1:=ae (HZ0.out.below hb1);have k1:=HZ1.out.row.2;clear hb1 HZ0 HV;go_wp2_with fail;refine (HW1.out _).mono ?_;rintro e w2 ⟨rfl,rfl⟩;go_wp2_with fail;refine (HW2.out _).mono ?_;rintro e w3 ⟨rfl,rfl⟩;go_wp2_with fail;clear k1 HW1 HW2
 go_loopw [37] (fun i wr=>∃k:Nat,k≤m∧i=I (k:Nat)∧ZO w #[I ep, .slice A0 2 a,I lp, .slice R0 n1 r,I st, .slice C m c0,I ho, .slice D0 ny d0] wr) (fun i _=>m - (intOf i).toNat)
 case atStart=>exact ⟨0,Nat.zero_le _,rfl,HZ1.out⟩
 case round=>
  clear HZ1;obtain ⟨k,WY,rfl,hzo⟩:=hrel;have HZ:=ae hzo;clear hzo;by_cases hk:k<m
  ·have i1:(k:Int)<(m:Int):=by omega
   have i0:(0:Int)≤(k:Int):=by omega
   obtain ⟨b,off,hC,hcl⟩:=HAT.out wr HZ.out.up (by omega);have hbd:=ZT.out k hk;subst hC;have fU:=ae (fun (W:World) (hb:Below w.heap.size w W)=>HAT.out W hb (by omega));obtain ⟨e0,e1⟩:=hcl k hk;clear hcl;obtain ⟨xa,hxa⟩:∃x,df tr k=x:=⟨_,rfl⟩;obtain ⟨xo,hxo⟩:∃x,fD tr k=x:=⟨_,rfl⟩;have jg:=ae hxa;rw [hxa] at e0 hbd;rw [hxo] at e1 hbd;clear hxa hxo;go_upto_region 6 with (first
 |((with_reducible refine bn 100 ?_);refine aG rfl 100 rfl #[I 0,I 0] (by kernel_rfl) ?_)
 |((with_reducible refine bT 100 ?_);go_must (refine wpList_store_row rfl _ _ _ rfl wr.heap.size #[I xa,I xo] rfl rfl 100 #[I 0,I 0] (heap_alloc_last wr _) (by kernel_rfl) rfl (by simp [Value.oneCell']) ?_)))
   clear e0 e1;have hb2:Below wr.heap.size wr ((wr.alloc (.cells #[I 0,I 0] 100)).setRow wr.heap.size #[I xa,I xo]):=aC (ag wr _) (Nat.le_refl _) _;have HX:=ae (AV.lq (AV.new wr #[I 0,I 0] 100) #[I xa,I xo]);have HZ2:=ae (HZ.out.below hb2);clear hb2 HZ;generalize (wr.alloc (.cells #[I 0,I 0] 100)).setRow wr.heap.size #[I xa,I xo]=W2 at HZ2 HX ⊢;generalize wr.heap.size=xb at HX ⊢;try simp only [Act.put]
   have x0:W2.cell? ⟨xb,0,none⟩=some (I xa):=HX.out.cell 0;have x1:W2.cell? ⟨xb,1,none⟩=some (I xo):=HX.out.cell 1;have k5:W2.cell? ⟨w.heap.size,5,none⟩=some (.slice (some ⟨b,off,none⟩) m c0):=HZ2.out.row.2 5;have k6:W2.cell? ⟨w.heap.size,6,none⟩=some (I ho):=HZ2.out.row.2 6;have hnl:¬ho≤xa:=by omega
   rcases Nat.eq_zero_or_pos k with hk0|hk0
   ·subst hk0;clear i0;go_quiet ((go_at_call 31;exact uC _ _ W2 (by omega) (by omega) (by omega) _));obtain ⟨W3,hW3⟩:∃W,W2.drewN nq=W:=⟨_,rfl⟩;rw [hW3];have HZ3:Hid (ZO w #[I ep, .slice A0 2 a,I lp, .slice R0 n1 r,I st, .slice (some ⟨b,off,none⟩) m c0,I ho, .slice D0 ny d0] W3):=ae (by rw [←hW3];exact HZ2.out.drewN nq);clear hW3 x0 x1 k5 k6 HZ2 HX hnl;go_wp2_with fail;go_roundw
    case rel=>exact ⟨1,by omega,by go_num,HZ3.out⟩
    case measure=>simp [intOf];omega
   ·obtain ⟨j,rfl⟩:∃j,k=j+1:=⟨k - 1,by omega⟩;have iz:(0:Int)<(j:Int)+1:=by omega
    have hg:=HGAP.out j (by omega);obtain ⟨b2,zf,e2,hcl⟩:=fU.out W2 HZ2.out.up;injection e2 with e2;injection e2 with e2 e3;subst e2 e3;have ej:=(hcl j (by omega)).1;obtain ⟨xj,hxj⟩:∃x,df tr j=x:=⟨_,rfl⟩;have hbj:=(ZT.out j (by omega)).2;rw [jg.out] at hg;rw [hxj] at ej hg hbj;have hnl2:¬xa - xj<2160:=by omega
    have ij:(j:Int)<(m:Int):=by omega
    have ij0:(0:Int)≤(j:Int):=by omega
    clear hcl hxj hg;go_quiet ((go_at_call 31;exact uC _ _ W2 (by omega) (by omega) (by omega) _));obtain ⟨W3,hW3⟩:∃W,W2.drewN nq=W:=⟨_,rfl⟩;rw [hW3];have HZ3:Hid (ZO w #[I ep, .slice A0 2 a,I lp, .slice R0 n1 r,I st, .slice (some ⟨b,off,none⟩) m c0,I ho, .slice D0 ny d0] W3):=ae (by rw [←hW3];exact HZ2.out.drewN nq);clear hW3 x0 x1 k5 k6 HZ2 HX hnl ej hnl2;go_wp2_with fail;go_roundw
    case rel=>exact ⟨j+1+1,by omega,by go_num,HZ3.out⟩
    case measure=>simp [intOf];omega
  ·have i1:¬(k:Int)<(m:Int):=by omega
   rcases Ci.out with AQ|⟨r0,r1,AQ,hr0,hr1⟩
   ·have hn0:ny=0:=by rw [←Wl.out,AQ];rfl
    have BU:=ae AQ;subst hn0;clear AQ;have k7:wr.cell? ⟨w.heap.size,7,none⟩=some (.slice D0 0 d0):=HZ.out.row.2 7;go_wp2_with fail;refine wp_loop_rounds 1 ?_;rw [rounds_succ];go_upto_region 17 with fail;clear k7;go_wp2_with ((with_reducible refine dI 51 ?_);go_must (refine aW rfl _ _ rfl w.heap.size rfl #[I ep, .slice A0 2 a,I lp, .slice R0 n1 r,I st, .slice C m c0,I ho, .slice D0 0 d0] ⟨HZ.out.row.1,HZ.out.row.2⟩ _ Tryz.underlying51 rfl (by kernel_rfl) ?_));refine (HK.out wr HZ.out.up).mono ?_;rintro e w5 ⟨rfl,A2,n2,c2,htk⟩;have hsz0:w.heap.size+2<wr.heap.size:=(aZ.1 HZ.out.r2).1;have hsz5:=htk.k.lt;have XW:=ae (htk.grow (ag w5 (.cells #[.pointer (some ⟨wr.heap.size+1,0,none⟩)] 85)));have Ls:=ae ((HZ.out.below htk.lo).below (ag w5 (.cells #[.pointer (some ⟨wr.heap.size+1,0,none⟩)] 85)));have Ep:=ae (heap_alloc_last w5 (.cells #[.pointer (some ⟨wr.heap.size+1,0,none⟩)] 85));clear htk HZ;go_upto_region 20 with fail;generalize w5.alloc (.cells #[.pointer (some ⟨wr.heap.size+1,0,none⟩)] 85)=w6 at XW Ls Ep ⊢;generalize w5.heap.size=pb at Ep hsz5 ⊢;have k5:w6.cell? ⟨w.heap.size,5,none⟩=some (.slice C m c0):=Ls.out.row.2 5;have xm:=ae (XW.out.grow (ag w6 (.cells #[I (m:Int)] 3)));have BV:=ae (Ls.out.below (ag w6 (.cells #[I (m:Int)] 3)));have PK:=ae ((Below.heap_alloc w6 (.cells #[I (m:Int)] 3) pb (aZ.1 Ep.out).1).trans Ep.out);have Ja:=ae (heap_alloc_last w6 (.cells #[I (m:Int)] 3));have hpn:pb≠w6.heap.size:=by have:=(aZ.1 Ep.out).1;omega
    have UU:pb<w6.heap.size:=(aZ.1 Ep.out).1;go_upto_region 21 with fail;clear k5 XW Ls Ep;generalize w6.alloc (.cells #[I (m:Int)] 3)=w7 at xm BV PK Ja ⊢;generalize w6.heap.size=nb at Ja hpn UU ⊢;have n0:w7.cell? ⟨nb,0,none⟩=some (I (m:Int)):=cell_of_row w7 nb 0 _ _ _ Ja.out;have p0:w7.cell? ⟨pb,0,none⟩=some (.pointer (some ⟨wr.heap.size+1,0,none⟩)):=cell_of_row w7 pb 0 _ _ _ PK.out;rcases Nat.eq_zero_or_pos m with hm0|hm0
    ·have c1:w7.cell? ⟨w.heap.size+1,0,none⟩=some (.pointer none):=cell_of_row w7 _ 0 _ _ _ BV.out.r1;have c2:w7.cell? ⟨w.heap.size+1+1,0,none⟩=some (.bool false):=cell_of_row w7 (w.heap.size+2) 0 _ _ _ BV.out.r2;have f1:w7.frozen? ⟨w.heap.size+1,0,none⟩=false:=frozen_of_row w7 _ 0 _ _ BV.out.r1;have f2:w7.frozen? ⟨w.heap.size+1+1,0,none⟩=false:=frozen_of_row w7 (w.heap.size+2) 0 _ _ BV.out.r2;have q1:¬pb=w.heap.size+1:=by omega
     have q2:¬pb=w.heap.size+1+1:=by omega
     go_wp2_with fail;refine DI (v:= .tuple #[pt (wr.heap.size+1), .bool true]) rfl (ji rfl _ _ ⟨w.heap.size+1,0,none⟩ ⟨w.heap.size+1+1,0,none⟩ (pt (wr.heap.size+1)) (.bool true) rfl (kH _ _ _ ?_) rfl (gQ _ _ _ ?_)) ⟨⟨_,rfl,?_⟩,?_⟩
     ·go_simp
     ·go_simp
     ·exact lK.of (z:=⟨⟨ep,[m0,m1],lp,rs⟩,st,tr,ho,yr⟩) ((xm.out.clk (lo:=w.heap.size+1) (hi:=w.heap.size+2) (C:=C) (trs:=tr) (.inl hm0) (by omega)).far (fun k hk hn=>mQ hn) (tV _ _ _ _ _)) xm.out.len kD.out
     ·exact (BV.out.up.setCell (p:=⟨w.heap.size+1,0,none⟩) (Nat.le_succ _) _).setCell (p:=⟨w.heap.size+1+1,0,none⟩) (by show w.heap.size≤w.heap.size+1+1;omega) _
    ·have k6:w7.cell? ⟨w.heap.size,6,none⟩=some (I ho):=BV.out.row.2 6;have Lh:=ae (rW (wr.heap.size+1) ho);go_wp2_with fail;refine (Lh.out _).mono ?_;rintro e w8 ⟨rfl,rfl⟩;clear Lh n0 p0 k6;obtain ⟨w8,hw8⟩:∃W,(w7.alloc (.cells #[.pointer (some ⟨wr.heap.size+1,0,none⟩)] 85)).alloc (.cells #[I ho] 3)=W:=⟨_,rfl⟩;have hb8:Below w7.heap.size w7 w8:=by rw [←hw8];exact ah (ag w7 _) (ag _ _)
     have hcb:w8.heap[w7.heap.size]? =some (.cells #[.pointer (some ⟨wr.heap.size+1,0,none⟩)] 85 (0,0)):=by rw [←hw8];exact heap_alloc2_old w7 _ _
     have htb:w8.heap[w7.heap.size+1]? =some (.cells #[I ho] 3 (0,0)):=by rw [←hw8];exact heap_alloc2_new w7 _ _
     have hs8:w8.heap.size=w7.heap.size+2:=by rw [←hw8];simp
     have hs7:nb<w7.heap.size:=(aZ.1 Ja.out).1;rw [hw8];clear hw8;have xn:=ae (xm.out.grow hb8);have zG:=ae (BV.out.below hb8);have HP8:=ae ((hb8.block _ (aZ.1 PK.out).1).trans PK.out);have HN8:=ae ((hb8.block _ (aZ.1 Ja.out).1).trans Ja.out);obtain ⟨b,off,QD,hcl⟩:=HAT.out w8 zG.out.up hm0;have hCB:b<w.heap.size:=by
      rcases XX.out with h0|⟨b',off',e,hb,_⟩
      ·rw [dJ (s:=2) Tr.cells _ fun _ _=>rfl] at h0;have:=kD.out;omega
      ·rw [e] at QD;injection QD with e1;injection e1 with e2;omega
     have V9:=ae (xn.out.frs (B:=w8.heap.size) (m:=m) (trs:=tr) (C:=C) rfl (.inr ⟨b,off,QD,by omega,hcl⟩) hcb htb);have fU:=ae hcl;have SN:=ae ((xm.out.clk (lo:=w.heap.size+1) (hi:=w.heap.size+2) (C:=C) (m:=m) (trs:=tr) (.inr ⟨b,off,QD,⟨by omega,by omega⟩,fun k hk=>⟨(hb8.cell (p:=⟨b,off+k*2,none⟩) (by show b<_;omega)).symm.trans (hcl k hk).1,(hb8.cell (p:=⟨b,off+k*2+1,none⟩) (by show b<_;omega)).symm.trans (hcl k hk).2⟩⟩) (by omega)).far (fun k hk _=>hb8.block k hk) (Nat.le_refl _));clear xm BV PK Ja hb8 hcb htb;generalize w7.heap.size=cb at V9 SN hs7 hs8 ⊢;go_wp2_with fail;refine (wpIn_wide (n:=3)).1 ?_;have PQ:=xC 2 w8.heap.size (wr.heap.size+1) cb (cb+1) n2 m 2 n1 0 a r c0 d0 c2 A0 R0 A2 C D0 ep lp st ho _ _ tr w8 V9.out (Nat.le_refl _) xn.out.len kD.out (fun x hx=>(SQ.out.tr x hx).2.2) (sU _ SQ.out).1 (lD _ SQ.out.cal) (jP _ SQ.out.cal).2 hho.1 hho.2 (by have:=(sU _ SQ.out).2;have h2:=xn.out.len;omega) (by omega) (by omega);obtain ⟨tl,htl⟩:∃t,df tr (m - 1)=t:=⟨_,rfl⟩;have Ae:=ae htl;have Zg:=(ZT.out (m - 1) (by omega)).2;rw [htl] at Zg;have hel:=(fU.out (m - 1) (by omega)).1;rw [htl] at hel;have HEL:=ae hel;clear htl hel;have hb7:w.heap.size+2<w8.heap.size:=by omega
     have xE:w.heap.size+2<cb+1:=by omega
     have qZ:Hid (∀X,w8.grownBy X (some (cb+1))→∀k,k<w8.heap.size→k≠cb+1→X.heap[k]? =w8.heap[k]?):=ae (fun X hg k hk hn=>hg.block k hk (fun e=>hn (by injection e)));have um:Hid (∀X,w8.grownBy X (some (cb+1))→Below w.heap.size w X):=ae (fun X hg=>zG.out.up.grown hg zG.out.up.size (fun k e=>by injection e with e;omega));refine wP (P:=fun a0=>Code.wpIn _ _ _ _ _ a0 _) (fun a0 ha0=>?_);have uf:=ae ha0;refine iJ rfl (by omega) (gf:=57) (lb:= #[.pointer (some ⟨cb,0,none⟩), .pointer (some ⟨cb+1,0,none⟩)]) (by rw [ha0];rfl) trivial (enters_of Tryz.func57 (by kernel_rfl) rfl)
      PQ (by omega) (Nat.le_refl _) (Below.refl _ _) (fun _=>rfl)
      (fun pre X=>pre= []∧w8.grownBy X (some (cb+1)))
      (fun c pre X=>Xr w w8 (cb+1) (wr.heap.size+1) tl c pre X)
      EE (fun c=>LP (Nat.le_refl _) hb7 xE c) ⟨rfl,World.grownBy.refl _ _⟩ (fun pre X h=>h.1)
      (fun x a' X=>∃q,w8.heap.size≤q∧X.heap[q]? =some (.cells #[I x.1.at_,I x.1.off] 100 (0,0))∧a'=({tmps:=(a0.tmps.setIfInBounds 159 (.agg #[I x.1.at_,I x.1.off])).setIfInBounds 11 (.pointer (some ⟨q,0,none⟩)),defers:= []}:Act))
      (fun x a' _ X Y row hs hg hr=>by obtain ⟨q,h1,h2,h3⟩:=hs;exact ⟨q,h1,qy q _ _ () X Y row h2 hg hr,h3⟩)
      ?assign ?body ?done ?stop
     case assign=>
      rintro l pre ⟨⟨xa,xo⟩,hx⟩ X K ⟨hpre,hgr⟩ hK;have HG2:=ae hgr;have UW:=hgr.size;clear hgr;rw [ha0] at hK ⊢;simp only [List.zip_toArray,List.zip_cons_cons,List.zip_nil_right,List.foldl_toArray,List.foldl_cons,List.foldl_nil,List.setIfInBounds_toArray,List.set_cons_succ,List.set_cons_zero] at hK ⊢
      gi_wp2_with (first|((with_reducible refine pX 100 ?_);refine ik rfl _ rfl #[I 0,I 0] (by kernel_rfl) ?_)|((with_reducible refine mM 100 ?_);go_must (refine dW rfl _ _ _ rfl #[I xa,I xo] rfl rfl 100 #[I 0,I 0] rfl (by kernel_rfl) rfl (by kernel_rfl) ?_);intro W5 hb5 hs5 hh5 oL hk5;have kT:=ae hb5;have Np:=ae hh5;have tu:=ae hk5;clear hb5 hs5 hh5 oL hk5))
      exact hK _ _ (tu.out.from _) (kT.out.mono (by omega)) ⟨hpre,HG2.out.andThen (jm kT.out) (fun j e=>nomatch e)⟩ ⟨X.heap.size,by omega,Np.out,rfl⟩
     case body=>
      rintro l pre ⟨⟨xa,xo⟩,hx⟩ a' X hl _ ⟨rfl,hgr⟩ ⟨q,hq,hblk,rfl⟩;have HG2:=ae hgr;have I9:=ae hblk;clear hgr hblk;rw [ha0];simp only [List.setIfInBounds_toArray,List.set_cons_succ,List.set_cons_zero] at I9 ⊢
      gi_wp2_with fail
      obtain ⟨hx1,hx2⟩:=hx;simp only at hx1 hx2;obtain ⟨mj,hmj⟩:∃j:Nat,(m:Int) - 1=(j:Nat):=⟨m - 1,by omega⟩;have Y9:m - 1=mj:=by omega
      have mj0:(0:Int)≤(mj:Int):=by omega
      have mj1:(mj:Int)<(m:Int):=by omega
      have wm:IntKind.i64.wrap (mj:Int)=(mj:Int):=by rw [IntKind.wrap_i64];omega
      have wx:IntKind.i64.wrap (xa - tl)=xa - tl:=by rw [IntKind.wrap_i64];omega
      have hbb:=qZ.out X HG2.out;have hS0:(fun Y:World=>Y.cell? ⟨pb,0,none⟩=some (.pointer (some ⟨wr.heap.size+1,0,none⟩))∧Y.cell? ⟨q,0,none⟩=some (I xa)∧Y.cell? ⟨w.heap.size,5,none⟩=some (.slice (some ⟨b,off,none⟩) m c0)∧Y.cell? ⟨nb,0,none⟩=some (I (m:Int))∧Y.cell? ⟨b,off+mj*2,none⟩=some (I tl)) X.drew:=
       ⟨(fZ (hbb pb (by omega) (by omega))).trans (cell_of_row w8 pb 0 _ _ _ HP8.out),cell_of_row X q 0 _ _ _ I9.out,(fZ (hbb w.heap.size (by omega) (by omega))).trans ((zG.out.row.2 5).trans (by rw [←QD];rfl)),(fZ (hbb nb (by omega) (by omega))).trans (cell_of_row w8 nb 0 _ _ _ HN8.out),(fZ (hbb b (by omega) (by omega))).trans (by rw [←Y9];exact HEL.out)⟩
      have hr1:X.heap[w.heap.size+1]? =some (.cells #[.pointer none] 85 (0,0)):=(hbb _ (by omega) (by omega)).trans zG.out.r1;have hr2:X.heap[w.heap.size+2]? =some (.cells #[.bool false] 4 (0,0)):=(hbb _ (by omega) (by omega)).trans zG.out.r2;have HR1:=ae hr1;have HR2:=ae hr2;have HUX:=ae (um.out X HG2.out);have hqx:q<X.heap.size:=(aZ.1 I9.out).1;clear hbb hr1 hr2;refine gy (S:=fun Y:World=>Y.cell? ⟨pb,0,none⟩=some (.pointer (some ⟨wr.heap.size+1,0,none⟩))∧Y.cell? ⟨q,0,none⟩=some (I xa)∧Y.cell? ⟨w.heap.size,5,none⟩=some (.slice (some ⟨b,off,none⟩) m c0)∧Y.cell? ⟨nb,0,none⟩=some (I (m:Int))∧Y.cell? ⟨b,off+mj*2,none⟩=some (I tl)) (wB (by kernel_rfl)) (by kernel_rfl) (by rintro ⟨a,w,h⟩;exact h) ?_;refine aK 0 (.pointer (some ⟨wr.heap.size+1,0,none⟩)) 160 hS0 (fun w' hSw=>?_) ?_
      ·obtain ⟨s0,s1,s2,s3,s4⟩:=hSw
       first|(go_simp;done)|(go_simp;with_reducible rfl)
      refine ax ?_;refine aK 1 (.pointer (some ⟨q,0,none⟩)) 161 hS0 (fun w' hSw=>?_) ?_
      ·clear hSw
       first|(go_simp;done)|(go_simp;with_reducible rfl)
      refine ax ?_;refine aK 2 (I xa) 162 hS0 (fun w' hSw=>?_) ?_
      ·obtain ⟨s0,s1,s2,s3,s4⟩:=hSw
       first|(go_simp;done)|(go_simp;with_reducible rfl)
      refine ax ?_;refine aK 3 (.pointer (some ⟨w.heap.size,5,none⟩)) 163 hS0 (fun w' hSw=>?_) ?_
      ·clear hSw
       first|(go_simp;done)|(go_simp;with_reducible rfl)
      refine ax ?_;refine aK 4 (.slice (some ⟨b,off,none⟩) m c0) 164 hS0 (fun w' hSw=>?_) ?_
      ·obtain ⟨s0,s1,s2,s3,s4⟩:=hSw
       first|(go_simp;done)|(go_simp;with_reducible rfl)
      refine ax ?_;refine aK 5 (I (m:Int)) 165 hS0 (fun w' hSw=>?_) ?_
      ·obtain ⟨s0,s1,s2,s3,s4⟩:=hSw
       first|(go_simp;done)|(go_simp;with_reducible rfl)
      refine ax ?_;refine aK 6 (I (mj:Int)) 166 hS0 (fun w' hSw=>?_) ?_
      ·clear hSw
       first|(go_simp;done)|(go_simp;with_reducible rfl)
      refine ax ?_;refine aK 7 (.pointer (some ⟨b,off+mj*2,none⟩)) 167 hS0 (fun w' hSw=>?_) ?_
      ·clear hSw
       first|(go_simp;done)|(go_simp;with_reducible rfl)
      refine ax ?_;refine aK 8 (.pointer (some ⟨b,off+mj*2,none⟩)) 168 hS0 (fun w' hSw=>?_) ?_
      ·clear hSw
       first|(go_simp;done)|(go_simp;with_reducible rfl)
      refine ax ?_;refine aK 9 (I tl) 169 hS0 (fun w' hSw=>?_) ?_
      ·obtain ⟨s0,s1,s2,s3,s4⟩:=hSw
       first|(go_simp;done)|(go_simp;with_reducible rfl)
      refine ax ?_;refine aK 10 (I (xa - tl)) 170 hS0 (fun w' hSw=>?_) ?_
      ·clear hSw
       first|(go_simp;done)|(go_simp;with_reducible rfl)
      refine ax ?_;refine aK 11 (.bool (decide (2160≤xa - tl))) 171 hS0 (fun w' hSw=>?_) ?_
      ·clear hSw
       first|(go_simp;done)|(go_simp;with_reducible rfl)
      refine ax ?_;refine bI 12 (fun K hK=>?_);have c1:X.drew.cell? ⟨w.heap.size+1,0,none⟩=some (.pointer none):=cell_of_row X _ 0 _ _ _ HR1.out;have f1:X.drew.frozen? ⟨w.heap.size+1,0,none⟩=false:=frozen_of_row X _ 0 _ _ HR1.out;go_simp;obtain ⟨s0,s1,s2,s3,s4⟩:=hS0;have hS1:(fun Y:World=>Y.cell? ⟨pb,0,none⟩=some (.pointer (some ⟨wr.heap.size+1,0,none⟩))∧Y.cell? ⟨q,0,none⟩=some (I xa)∧Y.cell? ⟨w.heap.size,5,none⟩=some (.slice (some ⟨b,off,none⟩) m c0)∧Y.cell? ⟨nb,0,none⟩=some (I (m:Int))∧Y.cell? ⟨b,off+mj*2,none⟩=some (I tl)) (X.drew.setCell ⟨w.heap.size+1,0,none⟩ (.pointer (some ⟨wr.heap.size+1,0,none⟩))):=
       ⟨(cell_far (by omega)).trans s0,(cell_far (by omega)).trans s1,(cell_far (by omega)).trans s2,(cell_far (by omega)).trans s3,(cell_far (by omega)).trans s4⟩
      refine hK.out _ _ hS1 (fun _=>?_);clear hK K;try simp only [Act.put]
      refine bI 13 (fun K hK=>?_);obtain ⟨s0,s1,s2,s3,s4⟩:=hS1;have hr3:(X.drew.setCell ⟨w.heap.size+1,0,none⟩ (.pointer (some ⟨wr.heap.size+1,0,none⟩))).heap[w.heap.size+2]? =some (.cells #[.bool false] 4 (0,0)):=(heap_setCell_other X.drew ⟨w.heap.size+1,0,none⟩ _ _ (by show w.heap.size+2≠w.heap.size+1;omega)).trans HR2.out;have c2:(X.drew.setCell ⟨w.heap.size+1,0,none⟩ (.pointer (some ⟨wr.heap.size+1,0,none⟩))).cell? ⟨w.heap.size+1+1,0,none⟩=some (.bool false):=cell_of_row _ (w.heap.size+2) 0 _ _ _ hr3;have f2:(X.drew.setCell ⟨w.heap.size+1,0,none⟩ (.pointer (some ⟨wr.heap.size+1,0,none⟩))).frozen? ⟨w.heap.size+1+1,0,none⟩=false:=frozen_of_row _ (w.heap.size+2) 0 _ _ hr3;have hr4:(X.setCell ⟨w.heap.size+1,0,none⟩ (.pointer (some ⟨wr.heap.size+1,0,none⟩))).heap[w.heap.size+2]? =some (.cells #[.bool false] 4 (0,0)):=hr3;have c3:(X.setCell ⟨w.heap.size+1,0,none⟩ (.pointer (some ⟨wr.heap.size+1,0,none⟩))).cell? ⟨w.heap.size+1+1,0,none⟩=some (.bool false):=cell_of_row _ (w.heap.size+2) 0 _ _ _ hr4;have f3:(X.setCell ⟨w.heap.size+1,0,none⟩ (.pointer (some ⟨wr.heap.size+1,0,none⟩))).frozen? ⟨w.heap.size+1+1,0,none⟩=false:=frozen_of_row _ (w.heap.size+2) 0 _ _ hr4;clear hr4;have Py:=ae (zI (kb:=wr.heap.size+1) (v:=decide (2160≤xa - tl)) (X:=X.drew) HR1.out HR2.out HUX.out.drew);clear hr3;go_simp;have hS2:(fun Y:World=>Y.cell? ⟨pb,0,none⟩=some (.pointer (some ⟨wr.heap.size+1,0,none⟩))∧Y.cell? ⟨q,0,none⟩=some (I xa)∧Y.cell? ⟨w.heap.size,5,none⟩=some (.slice (some ⟨b,off,none⟩) m c0)∧Y.cell? ⟨nb,0,none⟩=some (I (m:Int))∧Y.cell? ⟨b,off+mj*2,none⟩=some (I tl)) ((X.drew.setCell ⟨w.heap.size+1,0,none⟩ (.pointer (some ⟨wr.heap.size+1,0,none⟩))).setCell ⟨w.heap.size+1+1,0,none⟩ (.bool (decide (2160≤xa - tl)))):=
       ⟨(cell_far (by omega)).trans s0,(cell_far (by omega)).trans s1,(cell_far (by omega)).trans s2,(cell_far (by omega)).trans s3,(cell_far (by omega)).trans s4⟩
      refine hK.out _ _ hS2 (fun _=>?_);clear hK K;refine wpAnyH_done (by kernel_rfl) ?_ _
      gi_wp2
      exact ⟨(((show KeepsOthers X X.drew from ⟨Nat.le_refl _,fun _ _ h _=>h⟩).trans (KeepsOthers.setCell _ _ _)).trans (KeepsOthers.setCell _ _ _)).from _,_,rfl,rfl,Py.out.1,Py.out.2.1,Py.out.2.2,fun k hk hn q1 q2=>(mQ (by omega)).trans (qZ.out X HG2.out k hk hn)⟩
     case done=>
      rintro D xs Y hD ⟨rfl,hn0⟩ ⟨_,hgr⟩ G8;have hbb:=qZ.out Y hgr;have yR:=ae hbb;have hsy:=hgr.size;have Wq:=ae (um.out Y hgr);have hr1:Y.heap[w.heap.size+1]? =some (.cells #[.pointer none] 85 (0,0)):=(hbb _ (by omega) (by omega)).trans zG.out.r1;have hr2:Y.heap[w.heap.size+2]? =some (.cells #[.bool false] 4 (0,0)):=(hbb _ (by omega) (by omega)).trans zG.out.r2;have p0:Y.cell? ⟨pb,0,none⟩=some (.pointer (some ⟨wr.heap.size+1,0,none⟩)):=(fZ (hbb pb (by omega) (by omega))).trans (cell_of_row w8 pb 0 _ _ _ HP8.out);have c1:Y.cell? ⟨w.heap.size+1,0,none⟩=some (.pointer none):=cell_of_row Y _ 0 _ _ _ hr1;have c2:Y.cell? ⟨w.heap.size+1+1,0,none⟩=some (.bool false):=cell_of_row Y (w.heap.size+2) 0 _ _ _ hr2;have f1:Y.frozen? ⟨w.heap.size+1,0,none⟩=false:=frozen_of_row Y _ 0 _ _ hr1;have f2:Y.frozen? ⟨w.heap.size+1+1,0,none⟩=false:=frozen_of_row Y (w.heap.size+2) 0 _ _ hr2;have Py:=ae (zI (kb:=wr.heap.size+1) (v:=true) (X:=Y) hr1 hr2 Wq.out);have HDK:=ae G8;clear hbb hr1 hr2 hgr G8 hn0;rw [ha0];go_wp2_with fail;obtain ⟨g1,g2,g3⟩:=Py.out;have hd1:D≠w.heap.size+1:=by omega
      have hd2:D≠w.heap.size+1+1:=by omega
      have YL:((Y.setCell ⟨w.heap.size+1,0,none⟩ (pt (wr.heap.size+1))).setCell ⟨w.heap.size+1+1,0,none⟩ (.bool true)).heap[D]? =some (.deferred (some [])):=(heap_setCell_other _ ⟨w.heap.size+1+1,0,none⟩ _ _ hd2).trans ((heap_setCell_other Y ⟨w.heap.size+1,0,none⟩ _ _ hd1).trans HDK.out);refine jI (v:= .tuple #[pt (wr.heap.size+1), .bool true]) rfl YL (ji rfl _ _ ⟨w.heap.size+1,0,none⟩ ⟨w.heap.size+1+1,0,none⟩ (pt (wr.heap.size+1)) (.bool true) rfl (kH _ _ _ ?_) rfl (gQ _ _ _ ?_)) ⟨⟨_,rfl,?_⟩,?_⟩
      ·exact cell_of_row _ _ 0 _ _ _ ((World.putObj_heap_other (by omega)).trans g1)
      ·exact cell_of_row _ (w.heap.size+2) 0 _ _ _ ((World.putObj_heap_other (by omega)).trans g2)
      ·exact lK.of (z:=⟨⟨ep,[m0,m1],lp,rs⟩,st,tr,ho,yr⟩) (SN.out.far (fun k hk hn=>(World.putObj_heap_other (by omega)).trans ((mQ hn).trans (yR.out k (by omega) (by omega)))) (Nat.le_trans (by omega) (Nat.le_trans (tV Y ⟨w.heap.size+1,0,none⟩ ⟨w.heap.size+1+1,0,none⟩ _ _) (grownBy_putObj' _ D _).size))) xn.out.len kD.out
      ·exact g3.grown (grownBy_putObj' _ D _) g3.size (fun k e=>by injection e with e;omega)
     case stop=>
      rintro D c pre Y hD ⟨hn0,hpre⟩ ⟨x,rfl,rfl,g1,g2,g3,g4⟩ G8;have hx1:=hpre;simp only [List.map_cons,List.map_nil,List.cons.injEq,and_true] at hx1;have hlt:=L9 TQ.out (by rw [xn.out.len];exact hn0) (by rw [kD.out];exact hm0);rw [kD.out,Ae.out] at hlt;have hge:decide (2160≤x.1.at_ - tl)=true:=decide_eq_true (by rw [hx1];exact hlt);rw [hge] at g2;rw [ha0];refine (wpIn_wide (n:=3)).2 ?_;go_wp2_with fail;refine jI (v:= .tuple #[pt (wr.heap.size+1), .bool true]) rfl G8 (ji rfl _ _ ⟨w.heap.size+1,0,none⟩ ⟨w.heap.size+1+1,0,none⟩ (pt (wr.heap.size+1)) (.bool true) rfl (kH _ _ _ ?_) rfl (gQ _ _ _ ?_)) ⟨⟨_,rfl,?_⟩,?_⟩
      ·exact cell_of_row _ _ 0 _ _ _ ((World.putObj_heap_other (by omega)).trans g1)
      ·exact cell_of_row _ (w.heap.size+2) 0 _ _ _ ((World.putObj_heap_other (by omega)).trans g2)
      ·exact lK.of (z:=⟨⟨ep,[m0,m1],lp,rs⟩,st,tr,ho,yr⟩) (SN.out.far (fun k hk hn=>(World.putObj_heap_other (by omega)).trans (g4 k (by omega) (by omega) (by omega) (by omega))) (Nat.le_trans (Nat.le_of_lt (aZ.1 ((g4 cb (by omega) (by omega) (by omega) (by omega)).trans (Array.getElem?_eq_getElem (by omega)))).1) (grownBy_putObj' _ D _).size)) xn.out.len kD.out
      ·exact g3.grown (grownBy_putObj' _ D _) g3.size (fun k e=>by injection e with e;omega)
   ·have hn2:ny=2:=by rw [←Wl.out,AQ];rfl
    have hys:=HYS.out;rw [AQ] at hys;obtain ⟨yb,yo,hD,hyb,FP⟩:=hys.there (by simp [Yr.cells]);have HYY:Hid (∀W,Below w.heap.size w W→YC W yb yo r0 r1):=ae fun W hb=>⟨aU (aB.elem (s:=5) (f:=Yr.cells) (xs:= [r0,r1]) (fun _ _=>rfl) FP 0 r0 rfl) hb hyb,aU (aB.elem (s:=5) (f:=Yr.cells) (xs:= [r0,r1]) (fun _ _=>rfl) FP 1 r1 rfl) hb hyb⟩;have BU:=ae AQ;clear FP hys AQ;subst hn2 hD;have k7:wr.cell? ⟨w.heap.size,7,none⟩=some (.slice (some ⟨yb,yo,none⟩) 2 d0):=HZ.out.row.2 7;go_wp2_with fail;refine wp_loop_rounds 3 ?_;rw [rounds_succ];clear k7;have dF:=ae (HYY.out wr HZ.out.up);have y0:wr.cell? ⟨yb,yo,none⟩=some (I r0.month):=dF.out.a 0 _ rfl;have y1:wr.cell? ⟨yb,yo+1,none⟩=some (I r0.bZ):=dF.out.a 1 _ rfl;have y2:wr.cell? ⟨yb,yo+2,none⟩=some (I r0.cZ):=dF.out.a 2 _ rfl;have y3:wr.cell? ⟨yb,yo+3,none⟩=some (I r0.minute):=dF.out.a 3 _ rfl;have y4:wr.cell? ⟨yb,yo+4,none⟩=some (I r0.off):=dF.out.a 4 _ rfl;have k7:wr.cell? ⟨w.heap.size,7,none⟩=some (.slice (some ⟨yb,yo,none⟩) 2 d0):=HZ.out.row.2 7;go_upto_region 14 with (first
     |((with_reducible refine bn 130 ?_);refine aG rfl 130 rfl #[I 0,I 0,I 0,I 0,I 0] (by kernel_rfl) ?_)
     |((with_reducible refine bT 130 ?_);go_must (refine wpList_store_row rfl _ _ _ rfl wr.heap.size #[I r0.month,I r0.bZ,I r0.cZ,I r0.minute,I r0.off] rfl rfl 130 #[I 0,I 0,I 0,I 0,I 0] (heap_alloc_last wr _) (by kernel_rfl) rfl (by simp [Value.oneCell']) ?_)))
    clear dF y0 y1 y2 y3 y4 k7;have hb2:Below wr.heap.size wr ((wr.alloc (.cells #[I 0,I 0,I 0,I 0,I 0] 130)).setRow wr.heap.size #[I r0.month,I r0.bZ,I r0.cZ,I r0.minute,I r0.off]):=aC (ag wr _) (Nat.le_refl _) _;have Gm:=ae (AV.lq (AV.new wr #[I 0,I 0,I 0,I 0,I 0] 130) #[I r0.month,I r0.bZ,I r0.cZ,I r0.minute,I r0.off]);have NH:=ae (HZ.out.below hb2);clear hb2 HZ;generalize (wr.alloc (.cells #[I 0,I 0,I 0,I 0,I 0] 130)).setRow wr.heap.size #[I r0.month,I r0.bZ,I r0.cZ,I r0.minute,I r0.off]=X0 at NH Gm ⊢;generalize wr.heap.size=rb0 at Gm ⊢;try simp only [Act.put]
    have u0:X0.cell? ⟨rb0,0,none⟩=some (I r0.month):=Gm.out.cell 0;have u1:X0.cell? ⟨rb0,1,none⟩=some (I r0.bZ):=Gm.out.cell 1;have u2:X0.cell? ⟨rb0,2,none⟩=some (I r0.cZ):=Gm.out.cell 2;have u3:X0.cell? ⟨rb0,3,none⟩=some (I r0.minute):=Gm.out.cell 3;have u4:X0.cell? ⟨rb0,4,none⟩=some (I r0.off):=Gm.out.cell 4;have k1:X0.cell? ⟨w.heap.size,1,none⟩=some (.slice A0 2 a):=NH.out.row.2 1;have m1:¬r0.month<1:=by have:=hr0.mo;omega
    have m2:¬(2:Int)<r0.month:=by have:=hr0.mo;omega
    have m3:¬r0.bZ<1:=by have:=hr0.wk;omega
    have m4:¬(5:Int)<r0.bZ:=by have:=hr0.wk;omega
    have m5:¬r0.cZ<0:=by have:=hr0.wd;omega
    have m6:¬(6:Int)<r0.cZ:=by have:=hr0.wd;omega
    have m7:¬r0.minute<0:=by have:=hr0.mi;omega
    have m8:¬(1440:Int)≤r0.minute:=by have:=hr0.mi;omega
    have HWY:=ae (fun W=>jk r0.off 1080 W (by omega) (by have:=hr0.of;omega) (by have:=hr0.of;omega));go_wp2_with fail;refine (HWY.out _).mono ?_;rintro e FQ ⟨rfl,rfl⟩;go_wp2_with fail;clear u0 u1 u2 u3 u4 k1 m1 m2 m3 m4 m5 m6 m7 m8 HWY Gm;rw [rounds_succ];have dF:=ae (HYY.out FQ NH.out.up);have y0:FQ.cell? ⟨yb,yo+5,none⟩=some (I r1.month):=dF.out.b 0 _ rfl;have y1:FQ.cell? ⟨yb,yo+6,none⟩=some (I r1.bZ):=dF.out.b 1 _ rfl;have y2:FQ.cell? ⟨yb,yo+7,none⟩=some (I r1.cZ):=dF.out.b 2 _ rfl;have y3:FQ.cell? ⟨yb,yo+8,none⟩=some (I r1.minute):=dF.out.b 3 _ rfl;have y4:FQ.cell? ⟨yb,yo+9,none⟩=some (I r1.off):=dF.out.b 4 _ rfl;have k7:FQ.cell? ⟨w.heap.size,7,none⟩=some (.slice (some ⟨yb,yo,none⟩) 2 d0):=NH.out.row.2 7;go_upto_region 14 with (first
     |((with_reducible refine bn 130 ?_);refine aG rfl 130 rfl #[I 0,I 0,I 0,I 0,I 0] (by kernel_rfl) ?_)
     |((with_reducible refine bT 130 ?_);go_must (refine wpList_store_row rfl _ _ _ rfl FQ.heap.size #[I r1.month,I r1.bZ,I r1.cZ,I r1.minute,I r1.off] rfl rfl 130 #[I 0,I 0,I 0,I 0,I 0] (heap_alloc_last FQ _) (by kernel_rfl) rfl (by simp [Value.oneCell']) ?_)))
    clear dF y0 y1 y2 y3 y4 k7;have hb2:Below FQ.heap.size FQ ((FQ.alloc (.cells #[I 0,I 0,I 0,I 0,I 0] 130)).setRow FQ.heap.size #[I r1.month,I r1.bZ,I r1.cZ,I r1.minute,I r1.off]):=aC (ag FQ _) (Nat.le_refl _) _;have Gn:=ae (AV.lq (AV.new FQ #[I 0,I 0,I 0,I 0,I 0] 130) #[I r1.month,I r1.bZ,I r1.cZ,I r1.minute,I r1.off]);have Gp:=ae (NH.out.below hb2);clear hb2 NH;generalize (FQ.alloc (.cells #[I 0,I 0,I 0,I 0,I 0] 130)).setRow FQ.heap.size #[I r1.month,I r1.bZ,I r1.cZ,I r1.minute,I r1.off]=X1 at Gp Gn ⊢;generalize FQ.heap.size=rb1 at Gn ⊢;try simp only [Act.put]
    have u0:X1.cell? ⟨rb1,0,none⟩=some (I r1.month):=Gn.out.cell 0;have u1:X1.cell? ⟨rb1,1,none⟩=some (I r1.bZ):=Gn.out.cell 1;have u2:X1.cell? ⟨rb1,2,none⟩=some (I r1.cZ):=Gn.out.cell 2;have u3:X1.cell? ⟨rb1,3,none⟩=some (I r1.minute):=Gn.out.cell 3;have u4:X1.cell? ⟨rb1,4,none⟩=some (I r1.off):=Gn.out.cell 4;have k1:X1.cell? ⟨w.heap.size,1,none⟩=some (.slice A0 2 a):=Gp.out.row.2 1;have m1:¬r1.month<1:=by have:=hr1.mo;omega
    have m2:¬(2:Int)<r1.month:=by have:=hr1.mo;omega
    have m3:¬r1.bZ<1:=by have:=hr1.wk;omega
    have m4:¬(5:Int)<r1.bZ:=by have:=hr1.wk;omega
    have m5:¬r1.cZ<0:=by have:=hr1.wd;omega
    have m6:¬(6:Int)<r1.cZ:=by have:=hr1.wd;omega
    have m7:¬r1.minute<0:=by have:=hr1.mi;omega
    have m8:¬(1440:Int)≤r1.minute:=by have:=hr1.mi;omega
    have HWY:=ae (fun W=>jk r1.off 1080 W (by omega) (by have:=hr1.of;omega) (by have:=hr1.of;omega));go_wp2_with fail;refine (HWY.out _).mono ?_;rintro e sS ⟨rfl,rfl⟩;go_wp2_with fail;clear u0 u1 u2 u3 u4 k1 m1 m2 m3 m4 m5 m6 m7 m8 HWY Gn;rw [rounds_succ];go_upto_region 17 with fail;go_wp2_with ((with_reducible refine dI 51 ?_);go_must (refine aW rfl _ _ rfl w.heap.size rfl #[I ep, .slice A0 2 a,I lp, .slice R0 n1 r,I st, .slice C m c0,I ho, .slice (some ⟨yb,yo,none⟩) 2 d0] ⟨Gp.out.row.1,Gp.out.row.2⟩ _ Tryz.underlying51 rfl (by kernel_rfl) ?_));refine (HK.out sS Gp.out.up).mono ?_;rintro e w5 ⟨rfl,A2,n2,c2,htk⟩;have hsz0:w.heap.size+2<sS.heap.size:=(aZ.1 Gp.out.r2).1;have hsz5:=htk.k.lt;have XW:=ae (htk.grow (ag w5 (.cells #[.pointer (some ⟨sS.heap.size+1,0,none⟩)] 85)));have Ls:=ae ((Gp.out.below htk.lo).below (ag w5 (.cells #[.pointer (some ⟨sS.heap.size+1,0,none⟩)] 85)));have Ep:=ae (heap_alloc_last w5 (.cells #[.pointer (some ⟨sS.heap.size+1,0,none⟩)] 85));clear htk Gp;go_upto_region 20 with fail;generalize w5.alloc (.cells #[.pointer (some ⟨sS.heap.size+1,0,none⟩)] 85)=w6 at XW Ls Ep ⊢;generalize w5.heap.size=pb at Ep hsz5 ⊢;have k5:w6.cell? ⟨w.heap.size,5,none⟩=some (.slice C m c0):=Ls.out.row.2 5;have xm:=ae (XW.out.grow (ag w6 (.cells #[I (m:Int)] 3)));have BV:=ae (Ls.out.below (ag w6 (.cells #[I (m:Int)] 3)));have PK:=ae ((Below.heap_alloc w6 (.cells #[I (m:Int)] 3) pb (aZ.1 Ep.out).1).trans Ep.out);have Ja:=ae (heap_alloc_last w6 (.cells #[I (m:Int)] 3));have hpn:pb≠w6.heap.size:=by have:=(aZ.1 Ep.out).1;omega
    have UU:pb<w6.heap.size:=(aZ.1 Ep.out).1;go_upto_region 21 with fail;clear k5 XW Ls Ep;generalize w6.alloc (.cells #[I (m:Int)] 3)=w7 at xm BV PK Ja ⊢;generalize w6.heap.size=nb at Ja hpn UU ⊢;have n0:w7.cell? ⟨nb,0,none⟩=some (I (m:Int)):=cell_of_row w7 nb 0 _ _ _ Ja.out;have p0:w7.cell? ⟨pb,0,none⟩=some (.pointer (some ⟨sS.heap.size+1,0,none⟩)):=cell_of_row w7 pb 0 _ _ _ PK.out;rcases Nat.eq_zero_or_pos m with hm0|hm0
    ·have c1:w7.cell? ⟨w.heap.size+1,0,none⟩=some (.pointer none):=cell_of_row w7 _ 0 _ _ _ BV.out.r1;have c2:w7.cell? ⟨w.heap.size+1+1,0,none⟩=some (.bool false):=cell_of_row w7 (w.heap.size+2) 0 _ _ _ BV.out.r2;have f1:w7.frozen? ⟨w.heap.size+1,0,none⟩=false:=frozen_of_row w7 _ 0 _ _ BV.out.r1;have f2:w7.frozen? ⟨w.heap.size+1+1,0,none⟩=false:=frozen_of_row w7 (w.heap.size+2) 0 _ _ BV.out.r2;have q1:¬pb=w.heap.size+1:=by omega
     have q2:¬pb=w.heap.size+1+1:=by omega
     go_wp2_with fail;refine DI (v:= .tuple #[pt (sS.heap.size+1), .bool true]) rfl (ji rfl _ _ ⟨w.heap.size+1,0,none⟩ ⟨w.heap.size+1+1,0,none⟩ (pt (sS.heap.size+1)) (.bool true) rfl (kH _ _ _ ?_) rfl (gQ _ _ _ ?_)) ⟨⟨_,rfl,?_⟩,?_⟩
     ·go_simp
     ·go_simp
     ·exact lK.of (z:=⟨⟨ep,[m0,m1],lp,rs⟩,st,tr,ho,yr⟩) ((xm.out.clk (lo:=w.heap.size+1) (hi:=w.heap.size+2) (C:=C) (trs:=tr) (.inl hm0) (by omega)).far (fun k hk hn=>mQ hn) (tV _ _ _ _ _)) xm.out.len kD.out
     ·exact (BV.out.up.setCell (p:=⟨w.heap.size+1,0,none⟩) (Nat.le_succ _) _).setCell (p:=⟨w.heap.size+1+1,0,none⟩) (by show w.heap.size≤w.heap.size+1+1;omega) _
    ·have k6:w7.cell? ⟨w.heap.size,6,none⟩=some (I ho):=BV.out.row.2 6;have Lh:=ae (rW (sS.heap.size+1) ho);go_wp2_with fail;refine (Lh.out _).mono ?_;rintro e w8 ⟨rfl,rfl⟩;clear Lh n0 p0 k6;obtain ⟨w8,hw8⟩:∃W,(w7.alloc (.cells #[.pointer (some ⟨sS.heap.size+1,0,none⟩)] 85)).alloc (.cells #[I ho] 3)=W:=⟨_,rfl⟩;have hb8:Below w7.heap.size w7 w8:=by rw [←hw8];exact ah (ag w7 _) (ag _ _)
     have hcb:w8.heap[w7.heap.size]? =some (.cells #[.pointer (some ⟨sS.heap.size+1,0,none⟩)] 85 (0,0)):=by rw [←hw8];exact heap_alloc2_old w7 _ _
     have htb:w8.heap[w7.heap.size+1]? =some (.cells #[I ho] 3 (0,0)):=by rw [←hw8];exact heap_alloc2_new w7 _ _
     have hs8:w8.heap.size=w7.heap.size+2:=by rw [←hw8];simp
     have hs7:nb<w7.heap.size:=(aZ.1 Ja.out).1;rw [hw8];clear hw8;have xn:=ae (xm.out.grow hb8);have zG:=ae (BV.out.below hb8);have HP8:=ae ((hb8.block _ (aZ.1 PK.out).1).trans PK.out);have HN8:=ae ((hb8.block _ (aZ.1 Ja.out).1).trans Ja.out);obtain ⟨b,off,QD,hcl⟩:=HAT.out w8 zG.out.up hm0;have hCB:b<w.heap.size:=by
      rcases XX.out with h0|⟨b',off',e,hb,_⟩
      ·rw [dJ (s:=2) Tr.cells _ fun _ _=>rfl] at h0;have:=kD.out;omega
      ·rw [e] at QD;injection QD with e1;injection e1 with e2;omega
     have V9:=ae (xn.out.frs (B:=w8.heap.size) (m:=m) (trs:=tr) (C:=C) rfl (.inr ⟨b,off,QD,by omega,hcl⟩) hcb htb);have fU:=ae hcl;have SN:=ae ((xm.out.clk (lo:=w.heap.size+1) (hi:=w.heap.size+2) (C:=C) (m:=m) (trs:=tr) (.inr ⟨b,off,QD,⟨by omega,by omega⟩,fun k hk=>⟨(hb8.cell (p:=⟨b,off+k*2,none⟩) (by show b<_;omega)).symm.trans (hcl k hk).1,(hb8.cell (p:=⟨b,off+k*2+1,none⟩) (by show b<_;omega)).symm.trans (hcl k hk).2⟩⟩) (by omega)).far (fun k hk _=>hb8.block k hk) (Nat.le_refl _));clear xm BV PK Ja hb8 hcb htb;generalize w7.heap.size=cb at V9 SN hs7 hs8 ⊢;go_wp2_with fail;refine (wpIn_wide (n:=3)).1 ?_;have PQ:=xC 2 w8.heap.size (sS.heap.size+1) cb (cb+1) n2 m 2 n1 2 a r c0 d0 c2 A0 R0 A2 C (some ⟨yb,yo,none⟩) ep lp st ho _ _ tr w8 V9.out (Nat.le_refl _) xn.out.len kD.out (fun x hx=>(SQ.out.tr x hx).2.2) (sU _ SQ.out).1 (lD _ SQ.out.cal) (jP _ SQ.out.cal).2 hho.1 hho.2 (by have:=(sU _ SQ.out).2;have h2:=xn.out.len;omega) (by omega) (by omega);obtain ⟨tl,htl⟩:∃t,df tr (m - 1)=t:=⟨_,rfl⟩;have Ae:=ae htl;have Zg:=(ZT.out (m - 1) (by omega)).2;rw [htl] at Zg;have hel:=(fU.out (m - 1) (by omega)).1;rw [htl] at hel;have HEL:=ae hel;clear htl hel;have hb7:w.heap.size+2<w8.heap.size:=by omega
     have xE:w.heap.size+2<cb+1:=by omega
     have qZ:Hid (∀X,w8.grownBy X (some (cb+1))→∀k,k<w8.heap.size→k≠cb+1→X.heap[k]? =w8.heap[k]?):=ae (fun X hg k hk hn=>hg.block k hk (fun e=>hn (by injection e)));have um:Hid (∀X,w8.grownBy X (some (cb+1))→Below w.heap.size w X):=ae (fun X hg=>zG.out.up.grown hg zG.out.up.size (fun k e=>by injection e with e;omega));refine wP (P:=fun a0=>Code.wpIn _ _ _ _ _ a0 _) (fun a0 ha0=>?_);have uf:=ae ha0;refine iJ rfl (by omega) (gf:=57) (lb:= #[.pointer (some ⟨cb,0,none⟩), .pointer (some ⟨cb+1,0,none⟩)]) (by rw [ha0];rfl) trivial (enters_of Tryz.func57 (by kernel_rfl) rfl)
      PQ (by omega) (Nat.le_refl _) (Below.refl _ _) (fun _=>rfl)
      (fun pre X=>pre= []∧w8.grownBy X (some (cb+1)))
      (fun c pre X=>Xr w w8 (cb+1) (sS.heap.size+1) tl c pre X)
      EE (fun c=>LP (Nat.le_refl _) hb7 xE c) ⟨rfl,World.grownBy.refl _ _⟩ (fun pre X h=>h.1)
      (fun x a' X=>∃q,w8.heap.size≤q∧X.heap[q]? =some (.cells #[I x.1.at_,I x.1.off] 100 (0,0))∧a'=({tmps:=(a0.tmps.setIfInBounds 159 (.agg #[I x.1.at_,I x.1.off])).setIfInBounds 11 (.pointer (some ⟨q,0,none⟩)),defers:= []}:Act))
      (fun x a' _ X Y row hs hg hr=>by obtain ⟨q,h1,h2,h3⟩:=hs;exact ⟨q,h1,qy q _ _ () X Y row h2 hg hr,h3⟩)
      ?assign ?body ?done ?stop
     case assign=>
      rintro l pre ⟨⟨xa,xo⟩,hx⟩ X K ⟨hpre,hgr⟩ hK;have HG2:=ae hgr;have UW:=hgr.size;clear hgr;rw [ha0] at hK ⊢;simp only [List.zip_toArray,List.zip_cons_cons,List.zip_nil_right,List.foldl_toArray,List.foldl_cons,List.foldl_nil,List.setIfInBounds_toArray,List.set_cons_succ,List.set_cons_zero] at hK ⊢
      gi_wp2_with (first|((with_reducible refine pX 100 ?_);refine ik rfl _ rfl #[I 0,I 0] (by kernel_rfl) ?_)|((with_reducible refine mM 100 ?_);go_must (refine dW rfl _ _ _ rfl #[I xa,I xo] rfl rfl 100 #[I 0,I 0] rfl (by kernel_rfl) rfl (by kernel_rfl) ?_);intro W5 hb5 hs5 hh5 oL hk5;have kT:=ae hb5;have Np:=ae hh5;have tu:=ae hk5;clear hb5 hs5 hh5 oL hk5))
      exact hK _ _ (tu.out.from _) (kT.out.mono (by omega)) ⟨hpre,HG2.out.andThen (jm kT.out) (fun j e=>nomatch e)⟩ ⟨X.heap.size,by omega,Np.out,rfl⟩
     case body=>
      rintro l pre ⟨⟨xa,xo⟩,hx⟩ a' X hl _ ⟨rfl,hgr⟩ ⟨q,hq,hblk,rfl⟩;have HG2:=ae hgr;have I9:=ae hblk;clear hgr hblk;rw [ha0];simp only [List.setIfInBounds_toArray,List.set_cons_succ,List.set_cons_zero] at I9 ⊢
      gi_wp2_with fail
      obtain ⟨hx1,hx2⟩:=hx;simp only at hx1 hx2;obtain ⟨mj,hmj⟩:∃j:Nat,(m:Int) - 1=(j:Nat):=⟨m - 1,by omega⟩;have Y9:m - 1=mj:=by omega
      have mj0:(0:Int)≤(mj:Int):=by omega
      have mj1:(mj:Int)<(m:Int):=by omega
      have wm:IntKind.i64.wrap (mj:Int)=(mj:Int):=by rw [IntKind.wrap_i64];omega
      have wx:IntKind.i64.wrap (xa - tl)=xa - tl:=by rw [IntKind.wrap_i64];omega
      have hbb:=qZ.out X HG2.out;have hS0:(fun Y:World=>Y.cell? ⟨pb,0,none⟩=some (.pointer (some ⟨sS.heap.size+1,0,none⟩))∧Y.cell? ⟨q,0,none⟩=some (I xa)∧Y.cell? ⟨w.heap.size,5,none⟩=some (.slice (some ⟨b,off,none⟩) m c0)∧Y.cell? ⟨nb,0,none⟩=some (I (m:Int))∧Y.cell? ⟨b,off+mj*2,none⟩=some (I tl)) X.drew:=
       ⟨(fZ (hbb pb (by omega) (by omega))).trans (cell_of_row w8 pb 0 _ _ _ HP8.out),cell_of_row X q 0 _ _ _ I9.out,(fZ (hbb w.heap.size (by omega) (by omega))).trans ((zG.out.row.2 5).trans (by rw [←QD];rfl)),(fZ (hbb nb (by omega) (by omega))).trans (cell_of_row w8 nb 0 _ _ _ HN8.out),(fZ (hbb b (by omega) (by omega))).trans (by rw [←Y9];exact HEL.out)⟩
      have hr1:X.heap[w.heap.size+1]? =some (.cells #[.pointer none] 85 (0,0)):=(hbb _ (by omega) (by omega)).trans zG.out.r1;have hr2:X.heap[w.heap.size+2]? =some (.cells #[.bool false] 4 (0,0)):=(hbb _ (by omega) (by omega)).trans zG.out.r2;have HR1:=ae hr1;have HR2:=ae hr2;have HUX:=ae (um.out X HG2.out);have hqx:q<X.heap.size:=(aZ.1 I9.out).1;clear hbb hr1 hr2;refine gy (S:=fun Y:World=>Y.cell? ⟨pb,0,none⟩=some (.pointer (some ⟨sS.heap.size+1,0,none⟩))∧Y.cell? ⟨q,0,none⟩=some (I xa)∧Y.cell? ⟨w.heap.size,5,none⟩=some (.slice (some ⟨b,off,none⟩) m c0)∧Y.cell? ⟨nb,0,none⟩=some (I (m:Int))∧Y.cell? ⟨b,off+mj*2,none⟩=some (I tl)) (wB (by kernel_rfl)) (by kernel_rfl) (by rintro ⟨a,w,h⟩;exact h) ?_;refine aK 0 (.pointer (some ⟨sS.heap.size+1,0,none⟩)) 160 hS0 (fun w' hSw=>?_) ?_
      ·obtain ⟨s0,s1,s2,s3,s4⟩:=hSw
       first|(go_simp;done)|(go_simp;with_reducible rfl)
      refine ax ?_;refine aK 1 (.pointer (some ⟨q,0,none⟩)) 161 hS0 (fun w' hSw=>?_) ?_
      ·clear hSw
       first|(go_simp;done)|(go_simp;with_reducible rfl)
      refine ax ?_;refine aK 2 (I xa) 162 hS0 (fun w' hSw=>?_) ?_
      ·obtain ⟨s0,s1,s2,s3,s4⟩:=hSw
       first|(go_simp;done)|(go_simp;with_reducible rfl)
      refine ax ?_;refine aK 3 (.pointer (some ⟨w.heap.size,5,none⟩)) 163 hS0 (fun w' hSw=>?_) ?_
      ·clear hSw
       first|(go_simp;done)|(go_simp;with_reducible rfl)
      refine ax ?_;refine aK 4 (.slice (some ⟨b,off,none⟩) m c0) 164 hS0 (fun w' hSw=>?_) ?_
      ·obtain ⟨s0,s1,s2,s3,s4⟩:=hSw
       first|(go_simp;done)|(go_simp;with_reducible rfl)
      refine ax ?_;refine aK 5 (I (m:Int)) 165 hS0 (fun w' hSw=>?_) ?_
      ·obtain ⟨s0,s1,s2,s3,s4⟩:=hSw
       first|(go_simp;done)|(go_simp;with_reducible rfl)
      refine ax ?_;refine aK 6 (I (mj:Int)) 166 hS0 (fun w' hSw=>?_) ?_
      ·clear hSw
       first|(go_simp;done)|(go_simp;with_reducible rfl)
      refine ax ?_;refine aK 7 (.pointer (some ⟨b,off+mj*2,none⟩)) 167 hS0 (fun w' hSw=>?_) ?_
      ·clear hSw
       first|(go_simp;done)|(go_simp;with_reducible rfl)
      refine ax ?_;refine aK 8 (.pointer (some ⟨b,off+mj*2,none⟩)) 168 hS0 (fun w' hSw=>?_) ?_
      ·clear hSw
       first|(go_simp;done)|(go_simp;with_reducible rfl)
      refine ax ?_;refine aK 9 (I tl) 169 hS0 (fun w' hSw=>?_) ?_
      ·obtain ⟨s0,s1,s2,s3,s4⟩:=hSw
       first|(go_simp;done)|(go_simp;with_reducible rfl)
      refine ax ?_;refine aK 10 (I (xa - tl)) 170 hS0 (fun w' hSw=>?_) ?_
      ·clear hSw
       first|(go_simp;done)|(go_simp;with_reducible rfl)
      refine ax ?_;refine aK 11 (.bool (decide (2160≤xa - tl))) 171 hS0 (fun w' hSw=>?_) ?_
      ·clear hSw
       first|(go_simp;done)|(go_simp;with_reducible rfl)
      refine ax ?_;refine bI 12 (fun K hK=>?_);have c1:X.drew.cell? ⟨w.heap.size+1,0,none⟩=some (.pointer none):=cell_of_row X _ 0 _ _ _ HR1.out;have f1:X.drew.frozen? ⟨w.heap.size+1,0,none⟩=false:=frozen_of_row X _ 0 _ _ HR1.out;go_simp;obtain ⟨s0,s1,s2,s3,s4⟩:=hS0;have hS1:(fun Y:World=>Y.cell? ⟨pb,0,none⟩=some (.pointer (some ⟨sS.heap.size+1,0,none⟩))∧Y.cell? ⟨q,0,none⟩=some (I xa)∧Y.cell? ⟨w.heap.size,5,none⟩=some (.slice (some ⟨b,off,none⟩) m c0)∧Y.cell? ⟨nb,0,none⟩=some (I (m:Int))∧Y.cell? ⟨b,off+mj*2,none⟩=some (I tl)) (X.drew.setCell ⟨w.heap.size+1,0,none⟩ (.pointer (some ⟨sS.heap.size+1,0,none⟩))):=
       ⟨(cell_far (by omega)).trans s0,(cell_far (by omega)).trans s1,(cell_far (by omega)).trans s2,(cell_far (by omega)).trans s3,(cell_far (by omega)).trans s4⟩
      refine hK.out _ _ hS1 (fun _=>?_);clear hK K;try simp only [Act.put]
      refine bI 13 (fun K hK=>?_);obtain ⟨s0,s1,s2,s3,s4⟩:=hS1;have hr3:(X.drew.setCell ⟨w.heap.size+1,0,none⟩ (.pointer (some ⟨sS.heap.size+1,0,none⟩))).heap[w.heap.size+2]? =some (.cells #[.bool false] 4 (0,0)):=(heap_setCell_other X.drew ⟨w.heap.size+1,0,none⟩ _ _ (by show w.heap.size+2≠w.heap.size+1;omega)).trans HR2.out;have c2:(X.drew.setCell ⟨w.heap.size+1,0,none⟩ (.pointer (some ⟨sS.heap.size+1,0,none⟩))).cell? ⟨w.heap.size+1+1,0,none⟩=some (.bool false):=cell_of_row _ (w.heap.size+2) 0 _ _ _ hr3;have f2:(X.drew.setCell ⟨w.heap.size+1,0,none⟩ (.pointer (some ⟨sS.heap.size+1,0,none⟩))).frozen? ⟨w.heap.size+1+1,0,none⟩=false:=frozen_of_row _ (w.heap.size+2) 0 _ _ hr3;have hr4:(X.setCell ⟨w.heap.size+1,0,none⟩ (.pointer (some ⟨sS.heap.size+1,0,none⟩))).heap[w.heap.size+2]? =some (.cells #[.bool false] 4 (0,0)):=hr3;have c3:(X.setCell ⟨w.heap.size+1,0,none⟩ (.pointer (some ⟨sS.heap.size+1,0,none⟩))).cell? ⟨w.heap.size+1+1,0,none⟩=some (.bool false):=cell_of_row _ (w.heap.size+2) 0 _ _ _ hr4;have f3:(X.setCell ⟨w.heap.size+1,0,none⟩ (.pointer (some ⟨sS.heap.size+1,0,none⟩))).frozen? ⟨w.heap.size+1+1,0,none⟩=false:=frozen_of_row _ (w.heap.size+2) 0 _ _ hr4;clear hr4;have Py:=ae (zI (kb:=sS.heap.size+1) (v:=decide (2160≤xa - tl)) (X:=X.drew) HR1.out HR2.out HUX.out.drew);clear hr3;go_simp;have hS2:(fun Y:World=>Y.cell? ⟨pb,0,none⟩=some (.pointer (some ⟨sS.heap.size+1,0,none⟩))∧Y.cell? ⟨q,0,none⟩=some (I xa)∧Y.cell? ⟨w.heap.size,5,none⟩=some (.slice (some ⟨b,off,none⟩) m c0)∧Y.cell? ⟨nb,0,none⟩=some (I (m:Int))∧Y.cell? ⟨b,off+mj*2,none⟩=some (I tl)) ((X.drew.setCell ⟨w.heap.size+1,0,none⟩ (.pointer (some ⟨sS.heap.size+1,0,none⟩))).setCell ⟨w.heap.size+1+1,0,none⟩ (.bool (decide (2160≤xa - tl)))):=
       ⟨(cell_far (by omega)).trans s0,(cell_far (by omega)).trans s1,(cell_far (by omega)).trans s2,(cell_far (by omega)).trans s3,(cell_far (by omega)).trans s4⟩
      refine hK.out _ _ hS2 (fun _=>?_);clear hK K;refine wpAnyH_done (by kernel_rfl) ?_ _
      gi_wp2
      exact ⟨(((show KeepsOthers X X.drew from ⟨Nat.le_refl _,fun _ _ h _=>h⟩).trans (KeepsOthers.setCell _ _ _)).trans (KeepsOthers.setCell _ _ _)).from _,_,rfl,rfl,Py.out.1,Py.out.2.1,Py.out.2.2,fun k hk hn q1 q2=>(mQ (by omega)).trans (qZ.out X HG2.out k hk hn)⟩
     case done=>
      rintro D xs Y hD ⟨rfl,hn0⟩ ⟨_,hgr⟩ G8;have hbb:=qZ.out Y hgr;have yR:=ae hbb;have hsy:=hgr.size;have Wq:=ae (um.out Y hgr);have hr1:Y.heap[w.heap.size+1]? =some (.cells #[.pointer none] 85 (0,0)):=(hbb _ (by omega) (by omega)).trans zG.out.r1;have hr2:Y.heap[w.heap.size+2]? =some (.cells #[.bool false] 4 (0,0)):=(hbb _ (by omega) (by omega)).trans zG.out.r2;have p0:Y.cell? ⟨pb,0,none⟩=some (.pointer (some ⟨sS.heap.size+1,0,none⟩)):=(fZ (hbb pb (by omega) (by omega))).trans (cell_of_row w8 pb 0 _ _ _ HP8.out);have c1:Y.cell? ⟨w.heap.size+1,0,none⟩=some (.pointer none):=cell_of_row Y _ 0 _ _ _ hr1;have c2:Y.cell? ⟨w.heap.size+1+1,0,none⟩=some (.bool false):=cell_of_row Y (w.heap.size+2) 0 _ _ _ hr2;have f1:Y.frozen? ⟨w.heap.size+1,0,none⟩=false:=frozen_of_row Y _ 0 _ _ hr1;have f2:Y.frozen? ⟨w.heap.size+1+1,0,none⟩=false:=frozen_of_row Y (w.heap.size+2) 0 _ _ hr2;have Py:=ae (zI (kb:=sS.heap.size+1) (v:=true) (X:=Y) hr1 hr2 Wq.out);have HDK:=ae G8;clear hbb hr1 hr2 hgr G8 hn0;rw [ha0];go_wp2_with fail;obtain ⟨g1,g2,g3⟩:=Py.out;have hd1:D≠w.heap.size+1:=by omega
      have hd2:D≠w.heap.size+1+1:=by omega
      have YL:((Y.setCell ⟨w.heap.size+1,0,none⟩ (pt (sS.heap.size+1))).setCell ⟨w.heap.size+1+1,0,none⟩ (.bool true)).heap[D]? =some (.deferred (some [])):=(heap_setCell_other _ ⟨w.heap.size+1+1,0,none⟩ _ _ hd2).trans ((heap_setCell_other Y ⟨w.heap.size+1,0,none⟩ _ _ hd1).trans HDK.out);refine jI (v:= .tuple #[pt (sS.heap.size+1), .bool true]) rfl YL (ji rfl _ _ ⟨w.heap.size+1,0,none⟩ ⟨w.heap.size+1+1,0,none⟩ (pt (sS.heap.size+1)) (.bool true) rfl (kH _ _ _ ?_) rfl (gQ _ _ _ ?_)) ⟨⟨_,rfl,?_⟩,?_⟩
      ·exact cell_of_row _ _ 0 _ _ _ ((World.putObj_heap_other (by omega)).trans g1)
      ·exact cell_of_row _ (w.heap.size+2) 0 _ _ _ ((World.putObj_heap_other (by omega)).trans g2)
      ·exact lK.of (z:=⟨⟨ep,[m0,m1],lp,rs⟩,st,tr,ho,yr⟩) (SN.out.far (fun k hk hn=>(World.putObj_heap_other (by omega)).trans ((mQ hn).trans (yR.out k (by omega) (by omega)))) (Nat.le_trans (by omega) (Nat.le_trans (tV Y ⟨w.heap.size+1,0,none⟩ ⟨w.heap.size+1+1,0,none⟩ _ _) (grownBy_putObj' _ D _).size))) xn.out.len kD.out
      ·exact g3.grown (grownBy_putObj' _ D _) g3.size (fun k e=>by injection e with e;omega)
     case stop=>
      rintro D c pre Y hD ⟨hn0,hpre⟩ ⟨x,rfl,rfl,g1,g2,g3,g4⟩ G8;have hx1:=hpre;simp only [List.map_cons,List.map_nil,List.cons.injEq,and_true] at hx1;have hlt:=L9 TQ.out (by rw [xn.out.len];exact hn0) (by rw [kD.out];exact hm0);rw [kD.out,Ae.out] at hlt;have hge:decide (2160≤x.1.at_ - tl)=true:=decide_eq_true (by rw [hx1];exact hlt);rw [hge] at g2;rw [ha0];refine (wpIn_wide (n:=3)).2 ?_;go_wp2_with fail;refine jI (v:= .tuple #[pt (sS.heap.size+1), .bool true]) rfl G8 (ji rfl _ _ ⟨w.heap.size+1,0,none⟩ ⟨w.heap.size+1+1,0,none⟩ (pt (sS.heap.size+1)) (.bool true) rfl (kH _ _ _ ?_) rfl (gQ _ _ _ ?_)) ⟨⟨_,rfl,?_⟩,?_⟩
      ·exact cell_of_row _ _ 0 _ _ _ ((World.putObj_heap_other (by omega)).trans g1)
      ·exact cell_of_row _ (w.heap.size+2) 0 _ _ _ ((World.putObj_heap_other (by omega)).trans g2)
      ·exact lK.of (z:=⟨⟨ep,[m0,m1],lp,rs⟩,st,tr,ho,yr⟩) (SN.out.far (fun k hk hn=>(World.putObj_heap_other (by omega)).trans (g4 k (by omega) (by omega) (by omega) (by omega))) (Nat.le_trans (Nat.le_of_lt (aZ.1 ((g4 cb (by omega) (by omega) (by omega) (by omega)).trans (Array.getElem?_eq_getElem (by omega)))).1) (grownBy_putObj' _ D _).size)) xn.out.len kD.out
      ·exact g3.grown (grownBy_putObj' _ D _) g3.size (fun k e=>by injection e with e;omega)
theorem Lc (z:Zn) (s:Zs) (w:World) (hm:nO z) (h:gW w w.heap.size s z) (hv:vJ z=0):Calls Tryz.prog 30 #[.agg (aj z s)] w fun e w'=>(∃b:Nat,e= .returned (.tuple #[pt b, .bool true]))∧Below w.heap.size w w':=
 (tZ z s w hm h hv).mono fun _ _ ⟨⟨b,h1,_⟩,h2⟩=>⟨⟨b,h1⟩,h2⟩
end Go.Proofs.YtdibbemgpikgjaaGreat
