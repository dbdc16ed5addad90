/- The texts Nb, Ne, Nh, Nj, Ng0, Nk, Nl0, Nl, Oa, Od, in this order. -/
import Derived.Test.YtdibbemgpikgjaaGreatW00
import Derived.Sort.QuietTacIn
import Derived.Shelf.SlSortCmp.NoneTotal
import Derived.Test.YtdibbemgpikgjaaGreatW03
import Derived.Test.YtdibbemgpikgjaaGreatW05
import Derived.Test.YtdibbemgpikgjaaGreatW07
import Derived.Test.YtdibbemgpikgjaaGreatW08
import Derived.Test.YtdibbemgpikgjaaGreatW09
import Derived.Test.YtdibbemgpikgjaaGreatW11
import Derived.Test.YtdibbemgpikgjaaGreatW19
import Derived.Test.YtdibbemgpikgjaaGreatW30
set_option maxRecDepth 10000
set_option maxHeartbeats 8000000
namespace Go.Proofs.YtdibbemgpikgjaaGreat
open Go Go.RowKit
section
variable {F:Fence} {n:Nat} {P:Program} {ops:Array Oper} {Q:Exit→Act→World→Prop} {md:Region.Mode}
theorem vS (l0:Nat) (hd:∀(i:Nat) (o:Oper),ops[i]? =some o→∀c,o.op≠ .defer c):∀(fuel:Nat) (listed:Array Bool) (a:Act) (w:World),wpAnyIn F n P md ops Q fuel listed a w→wpAnyIn (F.inRound l0) n P md ops Q fuel listed a w:=by
 intro fuel
 induction fuel with
 |zero=>intro listed a w h;exact h
 |succ fuel ih=>
  intro listed a w h;refine ⟨h.1,fun i hi=>?_⟩;have h2:=wpOpIn_mono (fun a w=>ih _ a w) (h.2 i hi);unfold wpOpIn at h2 ⊢;cases ho:ops[i]? with
  |none=>rw [ho] at h2;exact h2
  |some o=>
   rw [ho] at h2;simp only at h2 ⊢;split
   ·rename_i hw;rw [if_pos hw] at h2;unfold Oper.wpIn at h2 ⊢;rw [Oper.semAt_eq _ _ _ (hd i o ho)] at h2 ⊢;exact h2
   ·rename_i hw;rw [if_neg hw] at h2;exact h2
theorem qY {l0 id:Nat} {a:Act} {w:World} {l:List Oper} (hd:(l.all fun o=>match o.op with| .defer _=>false|_=>true)=true) (hm:P.follows .mixedOrders=true) (hB:Region.lexB .any l.toArray=true)
  (h:wpQuietIn Fence.wide n P l.toArray (fun w'=>∃n,w'=w.drewN n) (fun a'=>∀w',(∃n,w'=w.drewN n)→Q .normal a' w') l a):(Code.region id l.toArray true).wpIn (Fence.wide.inRound l0) n P Q a w:=by
 simp only [Region.lexB,Bool.and_eq_true] at hB;refine wpIn_region_any hm (vS l0 (fun i o ho c hc=>?_) _ _ _ _ (wpAnyIn_of_quiet (C:=fun w'=>∃n,w'=w.drewN n) (Q:=fun a'=>∀w',(∃n,w'=w.drewN n)→Q .normal a' w') rfl (fun _ w' hw' h=>h w' hw') _ _ _ _ ⟨1,rfl⟩ ?_))
 ·have hm2:o∈l:=by
   rw [List.getElem?_toArray] at ho;exact gz ho
  have h3:=List.all_eq_true.1 hd o hm2;rw [hc] at h3;cases h3
 ·have:=wpAnyQIn_lex (F:=Fence.wide) (n:=n) (C:=fun w'=>∃n,w'=w.drewN n) (md:= .any) hB.1 l.toArray.toList 0 (Array.replicate l.toArray.size false) a (by simp) (by simpa using hB.2) (by simpa using h);simpa using this
end
theorem vP {P:Program} {fn:Func} {p:Tmp} {ty:TypeId} (h:fn.results= #[.cell p ty]) (tmps:Array Value) (w:World) (g:Nat) (t:TypeId) (v:Value) (hp:tmps.getD p undef= .pointer (some ⟨g,0,none⟩)) (hg:w.heap[g]? =some (.cells #[v] t (0,0))) (hu:P.underlying ty=some .bool):(results fn tmps).run P w= .ok v w:=by
 have hp':tmps[p]?.getD undef= .pointer (some ⟨g,0,none⟩):=by simpa using hp
 have hc:w.cell? ⟨g,0,none⟩=some v:=cell_of_row w g 0 _ _ _ hg;have ha:(isAgg ty).run P w= .ok false w:=by simp [isAgg,underlying,go_sem,hu]
 simp [results,h,hp',asAddr,loadVar,go_sem,ha,hc]
theorem foldl2 (t:Array Value) (p q:Tmp) (u v:Value):(#[p,q].zip #[u,v]).foldl (fun t (x:Tmp×Value)=>t.setIfInBounds x.1 x.2) t=(t.setIfInBounds p u).setIfInBounds q v:=by simp
def kJ (c:Cal) (A:Option Addr) (a:Nat) (R:Option Addr) (r:Nat) (S:Value):Array Value:= #[I c.aI, .slice A c.aj.length a,I c.aY, .slice R c.rules.length r,S]
structure I4 (w:World) (y:Int) (b:Bool) (W:World):Prop where
 yr:W.heap[w.heap.size+1]? =some (.cells #[I y] 3 (0,0))
 res:W.heap[w.heap.size+2]? =some (.cells #[.bool b] 4 (0,0))
 up:Below w.heap.size w W
theorem I4.grow {w W W':World} {y:Int} {b:Bool} (h:I4 w y b W) (hb:Below W.heap.size W W'):I4 w y b W':=
 ⟨(hb.block _ (bY.1 h.yr).1).trans h.yr,(hb.block _ (bY.1 h.res).1).trans h.res,ah h.up hb⟩
theorem I4.start (w:World) (y:Int) (cs:Array Value) (t:TypeId):I4 w y false (((w.alloc (.cells cs t)).alloc (.cells #[I y] 3)).alloc (.cells #[.bool false] 4)):=by
 have h1:=heap_alloc_last (w.alloc (.cells cs t)) (.cells #[I y] 3);have h2:=heap_alloc_last ((w.alloc (.cells cs t)).alloc (.cells #[I y] 3)) (.cells #[.bool false] 4);rw [World.size_alloc] at h1;rw [World.size_alloc,World.size_alloc] at h2;exact ⟨(Below.heap_alloc _ _ _ (by simp)).trans h1,h2,(((Below.refl _ w).alloc (Nat.le_refl _) _).alloc (by simp) _).alloc (by simp;omega) _⟩
theorem I4.set {w W:World} {y:Int} {b:Bool} (h:I4 w y b W) (v:Bool):I4 w y v (W.setCell ⟨w.heap.size+2,0,none⟩ (.bool v)):=by
 refine ⟨(heap_setCell_other W _ _ _ (by show w.heap.size+1≠w.heap.size+2;omega)).trans h.yr,?_,h.up.setCell (p:=⟨w.heap.size+2,0,none⟩) (by show w.heap.size≤w.heap.size+2;omega) _⟩;rw [heap_setCell_same W _ 0 _ _ _ h.res];rfl
theorem OL {w X Y:World} {y:Int} {b:Bool} {B:Nat} {row:Option Nat} (hB:w.heap.size≤B) (hs:I4 w y b X) (hg:X.grownBy Y row) (hr:∀r,row=some r→B≤r∧∃o:Obj,X.heap[r]? =some o∧o.isCells=false):I4 w y b Y:=by
 have key:∀k cs t,X.heap[k]? =some (Obj.cells cs t (0,0))→Y.heap[k]? =X.heap[k]? :=fun k cs t hk=>
  hg.block k (bY.1 hk).1 fun e=>by
   obtain ⟨_,o,ho,hc⟩:=hr k e.symm;rw [hk] at ho;cases ho;cases hc
 exact ⟨(key _ _ _ hs.yr).trans hs.yr,(key _ _ _ hs.res).trans hs.res,hs.up.grown hg hs.up.size (fun k e=>Nat.le_trans hB (hr k e).1)⟩
theorem lp_own {w:World} {y:Int} {B:Nat} (hB:w.heap.size≤B) {β:Type} (f:β→Prop):OwnFrom B (fun s W=>I4 w y false W∧w.heap.size+3<W.heap.size∧f s):=fun _ _ _ _ hs hg hr=>⟨OL hB hs.1 hg hr,dS hs.2.1 hg.size,hs.2.2⟩
structure sS (w:World) (cc:List Value) (vb k c:Nat) (A:Option Addr) (ss:List Int) (W:World):Prop where
 lo:Below w.heap.size w W
 it:AV w.heap.size 47 cc.toArray W
 r:AV (w.heap.size+1) 198 #[I 0, .slice none 0 0,I 0, .slice none 0 0, .slice none 0 0] W
 ge:w.heap.size+2≤vb
 var:AV vb 198 (cc++ [Value.slice A k c]).toArray W
 own:W.ownsRow (w.heap.size+2) 3 1 (.slice A k c) k (ss.map I)
 ne:some vb≠(Value.slice A k c).ownBlock
section
variable {w W W':World} {cc:List Value} {vb k c:Nat} {A:Option Addr} {ss:List Int}
theorem sS.grow (h:sS w cc vb k c A ss W) (hb:Below W.heap.size W W'):sS w cc vb k c A ss W':=⟨ah h.lo hb,h.it.below hb,h.r.below hb,h.ge,h.var.below hb,own_below h.own hb,h.ne⟩
theorem sS.drew (h:sS w cc vb k c A ss W):sS w cc vb k c A ss W.drew:=h.grow ((Below.refl _ W).drew)
theorem sS.there (h:sS w cc vb (k+1) c A ss W):∃g,A=some ⟨g,0,none⟩∧w.heap.size+2≤g∧g<W.heap.size∧k+1≤c∧∀(j:Nat) (s:Int),ss[j]? =some s→W.cell? ⟨g,j,none⟩=some (I s):=by
 rcases h.own.2 with ⟨_,hn⟩|⟨g,cap,cur,hv,hg,hh,hc,_,_,ht⟩
 ·omega
 ·injection hv with h1 h2 h3;refine ⟨g,h1,hg,(bY.1 hh).1,by omega,fun j s hs=>?_⟩;rw [cell_of_row W g j _ _ _ hh,←Array.getElem?_toList];have h4:(ss.map I)[j]? =some (I s):=by rw [List.getElem?_map,hs];rfl
  rw [←ht] at h4;rw [List.getElem?_take] at h4;split at h4
  ·exact h4
  ·cases h4
theorem sS.add {Wb w6:World} {gg cap:Nat} {s:Int} (h:sS w cc vb k c A ss W) (h4:cc.length=4) (GM:Wb=W.alloc (.cells #[I s] 3))
  (hown:w6.ownsRow (w.heap.size+2) 3 1 (.slice (Option.some ⟨gg,0,none⟩) (k+1) cap) (k+1) (ss.map I++ [I s])) (hg:Wb.grownBy w6 (Value.slice A k c).ownBlock) (hat:(Value.slice A k c).ownBlock=Option.some gg∨gg=Wb.heap.size):
  sS w cc vb (k+1) cap (Option.some ⟨gg,0,none⟩) (ss++ [s]) (w6.setCell ⟨vb,4,none⟩ (.slice (Option.some ⟨gg,0,none⟩) (k+1) cap)):=by
 have hsb:Wb.heap.size=W.heap.size+1:=by rw [GM];simp
 have hlt:=h.var.lt;have hle:=h.lo.size;have hrl:=h.r.lt;have hbl:∀b,b<W.heap.size→Option.some b≠(Value.slice A k c).ownBlock→w6.heap[b]? =W.heap[b]? :=fun b hb hn=>
  (hg.block b (by omega) hn).trans (by rw [GM];exact Below.heap_alloc W _ b hb)
 have hlow:∀b,b<w.heap.size+2→Option.some b≠(Value.slice A k c).ownBlock:=eG h.own;have hset:∀b,b≠vb→(w6.setCell ⟨vb,4,none⟩ (.slice (Option.some ⟨gg,0,none⟩) (k+1) cap)).heap[b]? =w6.heap[b]? :=fun b hb=>heap_setCell_other w6 ⟨vb,4,none⟩ b _ hb;have hge:=h.ge;have hne:vb≠gg:=fun e=>by
  rcases hat with e3|e3
  ·exact h.ne (by rw [e];exact e3.symm)
  ·omega
 have h1:Below w.heap.size w Wb:=by rw [GM];exact ah h.lo (ag W _)
 have hob:Wb.ownsRow (w.heap.size+2) 3 1 (.slice A k c) k (ss.map I):=by rw [GM];exact own_below h.own (ag W _)
 have hv6:AV vb (198) (cc++ [Value.slice A k c]).toArray w6:=⟨(hbl _ hlt h.ne).trans h.var.var⟩;have hup:Below w.heap.size w w6:=bZ h1 (aX hob (by omega)) h1.size hg;refine ⟨hup.setCell (p:=⟨vb,4,none⟩) (by show w.heap.size≤vb;omega) _,⟨(hset _ (by omega)).trans ((hbl _ (by omega) (hlow _ (by omega))).trans h.it.var)⟩,⟨(hset _ (by omega)).trans ((hbl _ (by omega) (hlow _ (by omega))).trans h.r.var)⟩,hge,?_,?_,fun e=>?_⟩
 ·have h2:=hv6.put 4 (.slice (Option.some ⟨gg,0,none⟩) (k+1) cap);have e:(cc++ [Value.slice A k c]).toArray.setIfInBounds 4 (.slice (Option.some ⟨gg,0,none⟩) (k+1) cap)=(cc++ [Value.slice (Option.some ⟨gg,0,none⟩) (k+1) cap]).toArray:=by
   match cc,h4 with
   | [a,b,c,d],_=>rfl
  rw [e] at h2;exact h2
 ·rw [List.map_append];exact dn (p:=⟨vb,4,none⟩) hown (fun e=>hne (by simpa [Value.ownBlock] using e))
 ·have:vb=gg:=by simpa [Value.ownBlock] using e
  exact hne this
end
section
variable {P:Program} {ops:Array Oper} {o:Oper} {a:Act} {w:World} {K:Act→World→Prop} {Q:Exit→Act→World→Prop} {E:Prop}
theorem iq (hgd:o.guard=none) (ty:TypeId) (x:Operand) (ho:o.op= .load ty x) (b off:Nat) (hx:a.eval x= .pointer (some ⟨b,off,none⟩)) (cs:List Value) (d:TypeDesc) (hr:w.rangeAt b off cs)
  (hu:P.underlying ty=some d) (hd:d.isRow=true) (hi:(P.info? ty).map (·.size)=some cs.length) (h:K (a.put o.dst (.agg cs.toArray)) w):if Region.wanted o (yielded ops a.tmps)=true then Oper.wp P o a w K Q else E:=by
 have hw:Region.wanted o (yielded ops a.tmps)=true:=by simp [Region.wanted,hgd]
 rw [if_pos hw];exact wp_load_mid ty x ho b off hx cs d hr hu hd hi h
end
theorem memo {G:Prop} {T:World→Prop} {C:World→Prop} (f:(∀W,C W→T W)→G) (h:∀W,C W→T W):G:=f h
theorem Qn (n:Nat) (hn:n≤1000) (W:World):(Instr.makeSlice 44 (.int .i64 1) (.int .i64 ((n:Int)+1))).run Tryz.prog W= .ok (.slice (some ⟨W.heap.size,0,none⟩) 1 (n+1)) (W.alloc (.cells (Array.replicate (n+1) (I 0)) 3)):=by
 obtain ⟨i0,hi,hz0,hz1,hz2⟩:=info_parts qN;have h:=run_makeSlice (P:=Tryz.prog) (w:=W) 44 3 i0 (.int .i64 0) Tryz.underlying44 hi hz0 .i64 .i64 1 ((n:Int)+1) (by omega) (by omega) (by rw [hz1];omega) (by rw [hz2];omega) (by omega);rw [hz1] at h;have e:madeCells (Value.int .i64 0).cells ((((n:Int)+1).toNat)*1)=Array.replicate (n+1) (I 0):=by
  apply Array.ext';simp [madeCells,Value.cells,Nat.mod_one];apply List.ext_getElem
  ·simp
  ·intro j h1 h2;simp
 rw [e] at h;rw [h];congr 2
structure qI (w:World) (zc:List Value) (cy:Int) (A:Option Addr) (n c:Nat) (ts:List Tr) (W:World):Prop where
 lo:Below w.heap.size w W
 z:AV w.heap.size 51 zc.toArray W
 k:AV (w.heap.size+1) 92 (zc++ [Value.slice A n c,I cy]).toArray W
 own:iO (w.heap.size+2) W A n c ts
 len:ts.length=n
section
variable {w W W':World} {zc:List Value} {cy:Int} {A:Option Addr} {n c:Nat} {ts:List Tr}
theorem qI.grow (h:qI w zc cy A n c ts W) (hb:Below W.heap.size W W'):qI w zc cy A n c ts W':=⟨ah h.lo hb,h.z.below hb,h.k.below hb,h.own.below hb,h.len⟩
theorem qI.drew (h:qI w zc cy A n c ts W):qI w zc cy A n c ts W.drew:=h.grow ((Below.refl _ W).drew)
theorem qI.drewN (h:qI w zc cy A n c ts W) (q:Nat):qI w zc cy A n c ts (W.drewN q):=h.grow (below_drewN' _ _)
theorem qI.Zt (h:qI w zc cy A n c ts W) (h8:zc.length=8) (v:Int):qI w zc v A n c ts (W.setCell ⟨w.heap.size+1,9,none⟩ (I v)):=by
 refine ⟨h.lo.setCell (p:=⟨w.heap.size+1,9,none⟩) (by show w.heap.size≤w.heap.size+1;omega) _,h.z.far (by omega) 9 _,?_,dn (p:=⟨w.heap.size+1,9,none⟩) h.own (eG h.own _ (by show w.heap.size+1<_;omega)),h.len⟩;have h2:=h.k.put 9 (I v);have e:(zc++ [Value.slice A n c,I cy]).toArray.setIfInBounds 9 (I v)=(zc++ [Value.slice A n c,I v]).toArray:=by
  match zc,h8 with
  | [_,_,_,_,_,_,_,_],_=>rfl
 rw [e] at h2;exact h2
theorem qI.add {Wb w6:World} {gg cap:Nat} {x:Tr} (h:qI w zc cy A n c ts W) (h8:zc.length=8) (GM:Wb=W.alloc (.cells #[I x.at_,I x.off] 100))
  (hown:w6.ownsRow (w.heap.size+2) 100 2 (.slice (Option.some ⟨gg,0,none⟩) (n+1) cap) (n+1) (ts.flatMap Tr.cells++ [I x.at_,I x.off])) (hg:Wb.grownBy w6 (Value.slice A n c).ownBlock):
  qI w zc cy (Option.some ⟨gg,0,none⟩) (n+1) cap (ts++ [x]) (w6.setCell ⟨w.heap.size+1,8,none⟩ (.slice (Option.some ⟨gg,0,none⟩) (n+1) cap)):=by
 have hsb:Wb.heap.size=W.heap.size+1:=by rw [GM];simp
 have hlt:=h.k.lt;have hbl:∀b,b<W.heap.size→Option.some b≠(Value.slice A n c).ownBlock→w6.heap[b]? =W.heap[b]? :=fun b hb hn=>
  (hg.block b (by omega) hn).trans (by rw [GM];exact Below.heap_alloc W _ b hb)
 have hlow:=eG h.own;have hset:∀b,b≠w.heap.size+1→(w6.setCell ⟨w.heap.size+1,8,none⟩ (.slice (Option.some ⟨gg,0,none⟩) (n+1) cap)).heap[b]? =w6.heap[b]? :=fun b hb=>heap_setCell_other w6 ⟨w.heap.size+1,8,none⟩ b _ hb;have h1:Below w.heap.size w Wb:=by rw [GM];exact ah h.lo (ag W _)
 have hob:Wb.ownsRow (w.heap.size+2) 100 2 (.slice A n c) n (ts.flatMap Tr.cells):=by rw [GM];exact own_below h.own (ag W _)
 have hk6:AV (w.heap.size+1) 92 (zc++ [Value.slice A n c,I cy]).toArray w6:=⟨(hbl _ hlt (hlow _ (by omega))).trans h.k.var⟩;have hup:Below w.heap.size w w6:=bZ h1 (aX hob (by omega)) h1.size hg;have hgl:=fM hown;refine ⟨hup.setCell (p:=⟨w.heap.size+1,8,none⟩) (by show w.heap.size≤w.heap.size+1;omega) _,⟨(hset _ (by omega)).trans ((hbl _ (by omega) (hlow _ (by omega))).trans h.z.var)⟩,?_,?_,by rw [bF,h.len];rfl⟩
 ·have h2:=hk6.put 8 (.slice (Option.some ⟨gg,0,none⟩) (n+1) cap);have e:(zc++ [Value.slice A n c,I cy]).toArray.setIfInBounds 8 (.slice (Option.some ⟨gg,0,none⟩) (n+1) cap)=(zc++ [Value.slice (Option.some ⟨gg,0,none⟩) (n+1) cap,I cy]).toArray:=by
   match zc,h8 with
   | [_,_,_,_,_,_,_,_],_=>rfl
  rw [e] at h2;exact h2
 ·unfold iO;have e:(ts++ [x]).flatMap Tr.cells=ts.flatMap Tr.cells++ [I x.at_,I x.off]:=by simp [Tr.cells]
  rw [e];exact dn (p:=⟨w.heap.size+1,8,none⟩) hown (fun e=>by
   have:w.heap.size+1=gg:=by simpa [Value.ownBlock] using e
   omega)
theorem qI.sorted {us:List Tr} (h:qI w zc cy A n c ts W) (hl:us.length=n) (ho:iO (w.heap.size+2) W' A n c us) (hg:W.grownBy W' (Value.slice A n c).ownBlock):qI w zc cy A n c us W':=by
 have hlow:=eG h.own;have hlt:=h.k.lt;exact ⟨bZ h.lo (aX h.own (by omega)) h.lo.size hg,⟨(hg.block _ (by omega) (hlow _ (by omega))).trans h.z.var⟩,⟨(hg.block _ hlt (hlow _ (by omega))).trans h.k.var⟩,ho,hl⟩
end
def KP (rb zb yb yo:Nat) (mi of Xz:Int) (yv:Value) (W:World):Prop:=
 W.cell? ⟨rb,3,none⟩=some (I mi)∧W.cell? ⟨rb,4,none⟩=some (I of)∧W.cell? ⟨zb,7,none⟩=some yv∧W.cell? ⟨yb,yo,none⟩=some (I Xz)
theorem UX (z:Zn) (s:Zs) (w:World) (hy:z.az= []):
  Calls Tryz.prog 54 #[.agg (ax z s)] w fun e w'=>e= .returned (.tuple #[.pointer (some ⟨w.heap.size+1,0,none⟩), .bool true])∧∃A n c,qI w (ax z s).toList (kW z) A n c (ry z) w':=by
 have h1:kW z=1:=by unfold kW;rw [hy]
 have h2:ry z= []:=by unfold ry;rw [hy]
 rw [h1,h2];obtain ⟨cal,st,tr,ho,yr⟩:=z;obtain ⟨A0,a,R0,r,C0,c0,D0,d0⟩:=s;simp only at hy;subst hy;obtain ⟨ep,vG⟩:∃ep,cal.aI=ep:=⟨_,rfl⟩;obtain ⟨lp,xu⟩:∃lp,cal.aY=lp:=⟨_,rfl⟩;obtain ⟨n0,hn0⟩:∃n,cal.aj.length=n:=⟨_,rfl⟩;obtain ⟨n1,hn1⟩:∃n,cal.rules.length=n:=⟨_,rfl⟩;obtain ⟨n2,hn2⟩:∃n,tr.length=n:=⟨_,rfl⟩;have e0:ax ⟨cal,st,tr,ho,[]⟩ ⟨A0,a,R0,r,C0,c0,D0,d0⟩= #[I ep, .slice A0 n0 a,I lp, .slice R0 n1 r,I st, .slice C0 n2 c0,I ho, .slice D0 0 d0]:=by rw [←vG,←xu,←hn0,←hn1,←hn2];rfl
 rw [e0];clear h1 h2 e0 vG xu hn0 hn1 hn2;show Calls Tryz.prog _ _ w (fun e w'=>e= .returned (.tuple #[.pointer (some ⟨w.heap.size+1,0,none⟩), .bool true])∧∃A n c,qI w [I ep, .slice A0 n0 a,I lp, .slice R0 n1 r,I st, .slice C0 n2 c0,I ho, .slice D0 0 d0] 1 A n c [] w');have hone:(#[I ep, .slice A0 n0 a,I lp, .slice R0 n1 r,I st, .slice C0 n2 c0,I ho, .slice D0 0 d0, .slice none 0 0,I 1]:Array Value).all (·.oneCell')=true:=by simp [Value.oneCell']
 have HV:=ae (AV.new w #[I ep, .slice A0 n0 a,I lp, .slice R0 n1 r,I st, .slice C0 n2 c0,I ho, .slice D0 0 d0] 51);go_enter Tryz.func54,Tryz.ntmps54;go_wp2_with (first
  |((with_reducible refine dM 51 ?_);go_must (refine bG rfl _ _ rfl w.heap.size rfl #[I ep, .slice A0 n0 a,I lp, .slice R0 n1 r,I st, .slice C0 n2 c0,I ho, .slice D0 0 d0] HV.out.lu _ Tryz.underlying51 rfl (by kernel_rfl) ?_))
  |((with_reducible refine gu 92 ?_);refine bW rfl 92 rfl #[I ep, .slice A0 n0 a,I lp, .slice R0 n1 r,I st, .slice C0 n2 c0,I ho, .slice D0 0 d0, .slice none 0 0,I 1] (by kernel_rfl) ?_))
 have HK:Hid (qI w [I ep, .slice A0 n0 a,I lp, .slice R0 n1 r,I st, .slice C0 n2 c0,I ho, .slice D0 0 d0] 1 none 0 0 [] ((w.alloc (.cells #[I ep, .slice A0 n0 a,I lp, .slice R0 n1 r,I st, .slice C0 n2 c0,I ho, .slice D0 0 d0] 51)).alloc (.cells #[I ep, .slice A0 n0 a,I lp, .slice R0 n1 r,I st, .slice C0 n2 c0,I ho, .slice D0 0 d0, .slice none 0 0,I 1] 92))):=ae ⟨ah (ag w _) (ag _ _),HV.out.below (ag _ _),by have:=AV.new (w.alloc (.cells #[I ep, .slice A0 n0 a,I lp, .slice R0 n1 r,I st, .slice C0 n2 c0,I ho, .slice D0 0 d0] 51)) #[I ep, .slice A0 n0 a,I lp, .slice R0 n1 r,I st, .slice C0 n2 c0,I ho, .slice D0 0 d0, .slice none 0 0,I 1] 92;rw [oV] at this;exact this,World.ownsRow_nil _ _ _ _,rfl⟩;clear HV;generalize (w.alloc (.cells #[I ep, .slice A0 n0 a,I lp, .slice R0 n1 r,I st, .slice C0 n2 c0,I ho, .slice D0 0 d0] 51)).alloc (.cells #[I ep, .slice A0 n0 a,I lp, .slice R0 n1 r,I st, .slice C0 n2 c0,I ho, .slice D0 0 d0, .slice none 0 0,I 1] 92)=W0 at HK ⊢;have v7:W0.cell? ⟨w.heap.size,7,none⟩=some (.slice D0 0 d0):=HK.out.z.cell 7;go_wp2_with fail;go_ret2;exact ⟨rfl,none,0,0,HK.out⟩
theorem U5 {ts:List Tr} {size t:Int}:max (t - fU ts 0) 0 / size=pI ts size t:=by
 unfold pI;split
 ·rw [Int.max_eq_left (by omega),Int.tdiv_eq_ediv_of_nonneg (by omega)]
 ·rw [Int.max_eq_right (by omega),Int.zero_ediv]
theorem TP (kb:Nat) (t:Int) (w:World):Calls Tryz.prog 35 #[.pointer (some ⟨kb,0,none⟩),I t] w fun e w'=>e= .returned (.func (.func 57) #[] #[.pointer (some ⟨w.heap.size,0,none⟩), .pointer (some ⟨w.heap.size+1,0,none⟩)])∧w'=(w.alloc (.cells #[.pointer (some ⟨kb,0,none⟩)] 85)).alloc (.cells #[I t] 3):=by
 go_enter Tryz.func35,Tryz.ntmps35;go_wp2_with fail;go_ret;exact ⟨rfl,rfl⟩
def jF {β:Type} (B tb:Nat) (J:β→World→Prop):Prop:=
 ∀s W W' row,J s W→W.grownBy W' row→(∀r,row=some r→B≤r∨r=tb)→J s W'
theorem jF.alloc {β:Type} {B tb:Nat} {J:β→World→Prop} (h:jF B tb J) {s:β} {W:World} (o:Obj) (hs:J s W):J s (W.alloc o):=
 h s W _ none hs (World.grownBy_alloc W o none) (fun _ e=>nomatch e)
theorem jF.putObj {β:Type} {B tb:Nat} {J:β→World→Prop} (h:jF B tb J) {s:β} {W:World} {l:Nat} (o':Obj) (hs:J s W) (hB:B≤l):J s (W.putObj l o'):=
 h s W _ (some l) hs (grownBy_putObj' W l o') (fun r e=>by cases e;exact .inl hB)
def I5 {α:Type} (F:Fence) (n:Nat) (P:Program) (g:Nat) (lb:Array Value) (encs:α→Array Value) (S Sp G:List α→Prop) (B tb:Nat) (w:World):Prop:=
 ∀(l:Nat) (J Jx:List α→World→Prop) (W:World),Below w.heap.size w W→jF W.heap.size tb J→jF W.heap.size tb Jx→(∀pre W',J pre W'→G pre)→
  (∀pre x W1,J pre W1→YieldAt F (n - 1) P l (encs x) W1 fun e W'=>
   (e= .returned (.bool true)∧J (pre++ [x]) W'∧Below B W1 W')∨(e= .returned (.bool false)∧Jx (pre++ [x]) W'))→
  J [] W→
  CallsIn F n P g (#[.func (.yield l) #[] #[]]++lb) W fun e W'=>(∃v,e= .returned v)∧((∃xs,S xs∧J xs W')∨(∃pre,Sp pre∧Jx pre W'))
section
variable {α:Type} {F:Fence} {n B tb:Nat} {P:Program} {g:Operand} {ps:Array Tmp} {assign body:Code} {Q:Exit→Act→World→Prop} {a:Act} {w w0:World}
 {gf:Nat} {lb:Array Value} {encs:α→Array Value} {S Sp G:List α→Prop}
theorem uH (hro:F.round=none) (h1:1≤n) (hg:a.eval g= .func (.func gf) #[] lb) (hFg:F.fn gf) (eg:∀args w,(callFunc gf args).run P w= .ok (.enter gf args) w)
  (hseq:I5 F (n - 1) P gf lb encs S Sp G B tb w0) (htb:tb<w.heap.size) (hB:B≤w.heap.size) (hb0:Below w0.heap.size w0 w) (hps:∀x,(encs x).size=ps.size)
  (I:List α→World→Prop) (Ix:Code→List α→World→Prop) (hI:jF w.heap.size tb I) (hIx:∀c,jF w.heap.size tb (Ix c)) (h0:I [] w) (hG:∀pre W,I pre W→G pre) (Ax:α→Act→World→Prop) (hAx:∀x a',OwnFrom w.heap.size (fun (_:Unit) W=>Ax x a' W))
  (hassign:∀(l:Nat) (pre:List α) (x:α) (W:World) (K:Act→World→Prop),I pre W→(∀a' W',KeepsFrom w.heap.size W W'→Below B W W'→I pre W'→Ax x a' W'→K a' W')→
   assign.wpIn (F.inRound l) (n - 1 - 1) P (Exit.then K (fun _ _ _=>False)) {tmps:=(ps.zip (encs x)).foldl (fun t (p,v)=>t.setIfInBounds p v) a.tmps,defers:= []} W)
  (hbody:∀(l:Nat) (pre:List α) (x:α) (a':Act) (W:World),w.heap.size≤l→(∃r,W.heap[l]? =some (.loop r))→I pre W→Ax x a' W→body.wpIn (F.inRound l) (n - 1 - 1) P (ownPostG w.heap.size (Below B) I Ix (pre++ [x]) W) a' W)
  (hdone:∀(D:Nat) (xs:List α) (W:World),w.heap.size≤D→S xs→I xs W→W.heap[D]? =some (.deferred (some []))→Q .normal {a with defers:= {target:= .collected D,args:= #[]}::a.defers} W)
  (hstop:∀(D:Nat) (c:Code) (pre:List α) (W:World),w.heap.size≤D→Sp pre→Ix c pre W→W.heap[D]? =some (.deferred (some []))→c.wpIn F n P Q {a with defers:= {target:= .collected D,args:= #[]}::a.defers} W):
  (Code.rangeFunc g ps assign body).wpIn F n P Q a w:=by
 refine wpIn_rangeFunc (fun fn hfn=>?_);rw [hro]
 let yU:LoopState→Option Code→Obj:=fun st pe=> .loop {state:=st,pending:=pe,fn,tmps:=a.tmps,params:=ps,assign,body,defers:=w.heap.size}
 obtain ⟨L,hLs⟩:∃L,w.heap.size+1=L:=⟨_,rfl⟩;have hDL:w.heap.size≠L:=by omega
 have MG:w.heap.size≤L:=by omega
 obtain ⟨V,hV⟩:∃V,(w.alloc (.deferred (some []))).alloc (yU .ready none)=V:=⟨_,rfl⟩;have hVs:V.heap.size=w.heap.size+2:=by rw [←hV];simp
 have hVL:V.heap[L]? =some (yU .ready none):=by
  rw [←hV,←hLs,←World.size_alloc w (.deferred (some []))];exact World.alloc_heap_new _ _
 have hVD:V.heap[w.heap.size]? =some (.deferred (some [])):=by
  rw [←hV];exact (Below.heap_alloc _ _ _ (by simp)).trans (World.alloc_heap_new w _)
 have hVb:Below w0.heap.size w0 V:=by
  rw [←hV];exact hb0.trans ((((Below.refl _ w).alloc (Nat.le_refl _) _).alloc (by simp) _).mono hb0.size)
 have hVI:I [] V:=by rw [←hV];exact hI.alloc _ (hI.alloc _ h0)
 have far:∀ {row:Option Nat},(∀r,row=some r→V.heap.size≤r∨r=tb)→(∀r,row=some r→w.heap.size≤r∨r=tb):=by
  intro row h r e;rcases h r e with h2|h2
  ·exact .inl (by omega)
  ·exact .inr h2
 have stay:∀ {X Y:World} {row:Option Nat} {k:Nat} {o:Obj},X.grownBy Y row→(∀r,row=some r→V.heap.size≤r∨r=tb)→w.heap.size≤k→k≤L→X.heap[k]? =some o→Y.heap[k]? =some o:=
  fun hg' hr h1 h2 hk=>(hg'.block _ (bY.1 hk).1 (fun e=>by
   rcases hr _ e.symm with h3|h3<;>omega)).trans hk
 refine ⟨L,[{target:= .collected w.heap.size,args:= #[]}],V,{target:= .fn (.func gf) lb,args:= #[.func (.yield L) #[] #[]]},V,gf,#[.func (.yield L) #[] #[]]++lb,V,?_,?_,?_,?_,fun _=>h1,?_⟩
 ·rw [←hV,←hLs];exact run_enterLoop_outer _ _ _ _ _
 ·simp only [resolve,hg];simp [go_sem]
 ·intro f' hf';simp only [Target.leads] at hf';simp at hf';exact hf'▸hFg
 ·simp [invoke,go_sem,eg]
 have key:=hseq L (fun pre W=>I pre W∧W.heap[L]? =some (yU .ready none)∧W.heap[w.heap.size]? =some (.deferred (some [])))
  (fun pre W=>∃c,Ix c pre W∧W.heap[L]? =some (yU .done (some c))∧W.heap[w.heap.size]? =some (.deferred (some [])))
  V hVb (fun s X Y row hs hg' hr=>⟨hI s X Y row hs.1 hg' (far hr),stay hg' hr MG (Nat.le_refl _) hs.2.1,stay hg' hr (Nat.le_refl _) MG hs.2.2⟩)
  (fun s X Y row hs hg' hr=>by
   obtain ⟨c,h2,h3,h4⟩:=hs;exact ⟨c,hIx c s X Y row h2 hg' (far hr),stay hg' hr MG (Nat.le_refl _) h3,stay hg' hr (Nat.le_refl _) MG h4⟩)
  (fun pre W h=>hG pre W h.1)
 refine (key ?_ ⟨hVI,hVL,hVD⟩).mono ?_
 ·rintro pre x W ⟨hi,hl,hd⟩;refine ⟨fn,_,assign,body,run_yield (P:=P) (args:=encs x) hl (hps x),roundIn_of_wpIn hfn (hassign _ pre x W _ hi ?_)⟩;intro a' X hk1 hb1 hi1 hax;have hl1:=hk1.same _ _ MG hl rfl;have hd1:=hk1.same _ _ (Nat.le_refl _) hd rfl;have hlt:=(bY.1 hl1).1;refine ⟨_,run_beginRound hl1 rfl,?_⟩;obtain ⟨Y,hY⟩:∃Y,X.putObj L (yU .busy none)=Y:=⟨_,rfl⟩;have hYl:Y.heap[L]? =some (yU .busy none):=by rw [←hY];exact World.putObj_heap_same hlt
  have hYd:Y.heap[w.heap.size]? =some (.deferred (some [])):=by rw [←hY];exact (World.putObj_heap_other hDL).trans hd1
  have hYb:Below B X Y:=by rw [←hY];exact belowK_b (w:=w) hB X L _ _ MG hl1 rfl rfl
  have hYI:I pre Y:=by rw [←hY];exact hI.putObj _ hi1 MG
  have hYA:Ax x a' Y:=by rw [←hY];exact (hAx x a').putObj (s:=()) _ hax MG hl1 rfl
  have hgo:body.wpIn (F.inRound L) (n - 1 - 1) P (ownPostG w.heap.size (Below B) I Ix (pre++ [x]) Y) a' Y:=hbody L pre x a' Y MG ⟨_,hYl⟩ hYI hYA;have leave:∀(jump:Option Code) (Z:World),KeepsFrom w.heap.size Y Z→Z.heap[L]? =some (yU .busy none)∧(Instr.endRound L jump).run P Z= .ok (.bool jump.isNone) (Z.putObj L (yU (if jump.isNone then .ready else .done) jump))∧
    (Z.putObj L (yU (if jump.isNone then .ready else .done) jump)).heap[L]? =some (yU (if jump.isNone then .ready else .done) jump)∧(Z.putObj L (yU (if jump.isNone then .ready else .done) jump)).heap[w.heap.size]? =some (.deferred (some [])):=by
   intro jump Z hk;have h3:=hk.same _ _ MG hYl rfl;exact ⟨h3,run_endRound (P:=P) jump h3,World.putObj_heap_same (bY.1 h3).1,(World.putObj_heap_other hDL).trans (hk.same _ _ (Nat.le_refl _) hYd rfl)⟩
  have out:∀(c:Code) (Z:World),KeepsFrom w.heap.size Y Z∧Ix c (pre++ [x]) Z→∃v W',(Instr.endRound L (some c)).run P Z= .ok v W'∧((Ending.returned v= .returned (.bool true)∧(I (pre++ [x]) W'∧W'.heap[L]? =some (yU .ready none)∧W'.heap[w.heap.size]? =some (.deferred (some [])))∧Below B W W')∨
    (Ending.returned v= .returned (.bool false)∧∃c,Ix c (pre++ [x]) W'∧W'.heap[L]? =some (yU .done (some c))∧W'.heap[w.heap.size]? =some (.deferred (some [])))):=by
   rintro c Z ⟨hk,hz⟩;obtain ⟨h3,h4,h5,h6⟩:=leave (some c) Z hk;exact ⟨_,_,h4, .inr ⟨rfl,c,(hIx c).putObj _ hz MG,h5,h6⟩⟩
  rw [show X.putObj L (Obj.loop _)=Y from hY];refine wpIn_mono hgo ?_;rintro e a3 Z hp;cases e with
  |normal=>
   obtain ⟨hk,hbz,hz⟩:=hp;obtain ⟨h3,h4,h5,h6⟩:=leave none Z hk;exact ⟨_,_,h4, .inl ⟨rfl,⟨hI.putObj _ hz MG,h5,h6⟩,hb1.trans (hYb.trans (hbz.trans (belowK_b (w:=w) hB Z L _ _ MG h3 rfl rfl)))⟩⟩
  |ret=>exact out .ret Z hp
  |exit id=>exact out (.exit id) Z hp
  |goto t=>exact out (.goto t) Z hp
  |panic ch=>exact hp.elim
  |outgrown=>exact hp.elim
 ·rintro e Z ⟨⟨v,rfl⟩,h⟩;rcases h with ⟨xs,hs,hi,hl,hd⟩|⟨pre,hs,c,hi,hl,hd⟩
  ·exact ⟨none,_,run_endLoop (P:=P) hl (by simp),hdone _ xs _ (Nat.le_refl _) hs (hI.putObj _ hi MG) ((World.putObj_heap_other hDL).trans hd)⟩
  ·exact ⟨some c,_,run_endLoop (P:=P) hl (by simp),hstop _ c pre _ (Nat.le_refl _) hs ((hIx c).putObj _ hi MG) ((World.putObj_heap_other hDL).trans hd)⟩
end
structure FrS (B kb cb tb:Nat) (kc:List Value) (A:Option Addr) (n:Nat) (ts:List Tr) (C:Option Addr) (m:Nat) (trs:List Tr) (t:Int) (W:World):Prop where
 k:AV kb 92 kc.toArray W
 ys:n=0∨∃g,A=some ⟨g,0,none⟩∧g<B∧∀k,k<n→W.cell? ⟨g,k*2,none⟩=some (I (fU ts k))∧W.cell? ⟨g,k*2+1,none⟩=some (I (kN ts k))
 tr:m=0∨∃b off,C=some ⟨b,off,none⟩∧b<B∧∀k,k<m→W.cell? ⟨b,off+k*2,none⟩=some (I (fU trs k))∧W.cell? ⟨b,off+k*2+1,none⟩=some (I (kN trs k))
 cx:W.heap[cb]? =some (.cells #[.pointer (some ⟨kb,0,none⟩)] 85 (0,0))
 tx:W.heap[tb]? =some (.cells #[I t] 3 (0,0))
 lt:kb<B∧cb<B∧tb<B
theorem FrS.keep {B kb cb tb n m:Nat} {kc:List Value} {A C:Option Addr} {ts trs:List Tr} {t:Int} {W W':World} (h:FrS B kb cb tb kc A n ts C m trs t W) (hb:Below B W W'):FrS B kb cb tb kc A n ts C m trs t W':=by
 obtain ⟨h1,h2,h3⟩:=h.lt;refine ⟨⟨(hb.block _ h1).trans h.k.var⟩,?_,?_,(hb.block _ h2).trans h.cx,(hb.block _ h3).trans h.tx,h.lt⟩
 ·rcases h.ys with h0|⟨g,e,hg,hc⟩
  ·exact .inl h0
  ·exact .inr ⟨g,e,hg,fun k hk=>⟨(hb.cell (p:=⟨g,k*2,none⟩) hg).trans (hc k hk).1,(hb.cell (p:=⟨g,k*2+1,none⟩) hg).trans (hc k hk).2⟩⟩
 ·rcases h.tr with h0|⟨b,off,e,hg,hc⟩
  ·exact .inl h0
  ·exact .inr ⟨b,off,e,hg,fun k hk=>⟨(hb.cell (p:=⟨b,off+k*2,none⟩) hg).trans (hc k hk).1,(hb.cell (p:=⟨b,off+k*2+1,none⟩) hg).trans (hc k hk).2⟩⟩
theorem BX {w w':World} (h:Below w.heap.size w w'):w.grownBy w' none:=⟨h.os,h.tape,h.output,h.size,fun k hk _=>h.block k hk⟩
section
variable {n:Nat} {P:Program} {ops:Array Oper} {Q:Exit→Act→World→Prop} {md:Region.Mode}
theorem Qw {row:String} {args:Array Value} {w:World} {R:Value→World→Prop} (h:Rows P row args w R):RowsIn Fence.wide n P row args w R:=
 fun c cs _=>let ⟨v,w',r,s⟩:=h c cs;⟨v,w',r,stepsIn_wide.2 s⟩
theorem QH (o:Oper) (a:Act) (K:Act→World→Prop) (r:Result Next) (h:o.upon P a K Q r):o.uponIn Fence.wide n P a K Q r:=by
 have hd:Fence.wide.depth.isSome=true→1≤n:=fun h=>by cases h
 cases r with
 |ok x w'=>
  cases x with
  |value v=>exact h
  |skip=>exact h
  |defer d=>exact h
  |enter f args=>exact ⟨hd,callsIn_wide.2 (Calls.mono h (fun e w'' he=>by cases e<;>exact he))⟩
  |row row args=>exact ⟨hd,Qw h⟩
  |round l f tmps assign body=>exact h.elim
  |_=>exact h.elim
 |halt x w'=>
  cases x with
  |panic v=>exact h
  |_=>exact h.elim
theorem NJ (hq:¬LetsOut Q):∀(fuel:Nat) (listed:Array Bool) (a:Act) (w:World),wpAny P md ops Q fuel listed a w→wpAnyIn Fence.wide n P md ops Q fuel listed a w:=by
 intro fuel
 induction fuel with
 |zero=>intro listed a w h;exact h
 |succ fuel ih=>
  intro listed a w h;refine ⟨h.1,fun i hi=>?_⟩;have h2:=wpOp_mono (fun a w=>ih _ a w) (h.2 i hi);unfold wpOp at h2;unfold wpOpIn;cases ho:ops[i]? with
  |none=>rw [ho] at h2;exact h2
  |some o=>
   rw [ho] at h2;simp only at h2 ⊢;split
   ·rename_i hw;rw [if_pos hw] at h2;rcases h2 with h2|⟨_,h2⟩
    ·exact ⟨fun _ _=>trivial,QH o a _ _ h2⟩
    ·exact absurd h2 hq
   ·rename_i hw;rw [if_neg hw] at h2;exact ⟨fun _ _=>trivial,h2⟩
theorem su {S:World→Prop} {l0 id:Nat} {a:Act} {w:World} (hd:∀(i:Nat) (o:Oper),ops[i]? =some o→∀c,o.op≠ .defer c) (hm:P.follows .mixedOrders=true) (hq:¬LetsOut Q)
  (h:wpAnyH P .any ops Q S ops.size (Array.replicate ops.size false) a w.drew):(Code.region id ops true).wpIn (Fence.wide.inRound l0) n P Q a w:=
 wpIn_region_any hm (vS l0 hd _ _ _ _ (NJ hq _ _ _ _ (wpAny_of_held _ _ _ _ h)))
theorem UB {l:List Oper} (hd:(l.all fun o=>match o.op with| .defer _=>false|_=>true)=true):∀(i:Nat) (o:Oper),l.toArray[i]? =some o→∀c,o.op≠ .defer c:=by
 intro i o ho c hc;have h3:=List.all_eq_true.1 hd o (gz (by rw [List.getElem?_toArray] at ho;exact ho));rw [hc] at h3;cases h3
end
theorem l7 (w:World) (g:Nat) (v:Value) (h:w.cell? ⟨g,0,none⟩=some v):(loadVar 85 ⟨g,0,none⟩).run Tryz.prog w= .ok v w:=by
 simp [go_sem,h]
theorem kM (w:World) (g:Nat) (v:Value) (h:w.cell? ⟨g,0,none⟩=some v):(loadVar 4 ⟨g,0,none⟩).run Tryz.prog w= .ok v w:=by
 simp [go_sem,h]
theorem Ji {P:Program} {f:FuncId} {fn:Func} {c:Code} {args:Array Value} {w:World} {R:Ending→World→Prop} (hf:P.funcs[f]? =some fn) (hb:fn.body=some c)
  (h:c.wp P (bodyPostM Fence.wide 3 P fn R) {tmps:=args++Array.replicate (fn.ntmps - args.size) undef,defers:= []} w):Calls P f args w R:=
 callsIn_wide.1 (callsIn_of_wp_marks (F:=Fence.wide) (n:=3) hf hb trivial (wpIn_wide.2 h) rfl)
theorem jH {P:Program} {fn:Func} {R:Ending→World→Prop} {a:Act} {w:World} {v:Value} (hd:a.defers= []) (h:(results fn a.tmps).run P w= .ok v w) (hR:R (.returned v) w):bodyPostM Fence.wide 3 P fn R .ret a w:=by
 show LeavesInM Fence.wide 3 P fn a.tmps R a.defers .returning w;rw [hd];exact ⟨v,h,hR⟩
theorem zu {P:Program} {fn:Func} {R:Ending→World→Prop} {a:Act} {w:World} {v:Value} {D:Nat} {xs:Array Value} (hd:a.defers= [{target:= .collected D,args:=xs}]) (hD:w.heap[D]? =some (.deferred (some [])))
  (h:(results fn a.tmps).run P (w.putObj D (.deferred none))= .ok v (w.putObj D (.deferred none))) (hR:R (.returned v) (w.putObj D (.deferred none))):bodyPostM Fence.wide 3 P fn R .ret a w:=by
 show LeavesInM Fence.wide 3 P fn a.tmps R a.defers .returning w;rw [hd];exact ⟨by simp, .inl ⟨_,_,rfl,run_takeDeferred hD,⟨v,h,hR⟩⟩⟩
theorem qI.frs {w W:World} {zc:List Value} {cy ho:Int} {A C:Option Addr} {n c m cb tb B:Nat} {ts trs:List Tr} (h:qI w zc cy A n c ts W) (hB:B=W.heap.size)
  (hC:m=0∨∃b off,C=Option.some ⟨b,off,none⟩∧b<B∧∀k,k<m→W.cell? ⟨b,off+k*2,none⟩=Option.some (I (fU trs k))∧W.cell? ⟨b,off+k*2+1,none⟩=Option.some (I (kN trs k)))
  (hc:W.heap[cb]? =some (.cells #[.pointer (Option.some ⟨w.heap.size+1,0,none⟩)] 85 (0,0))) (ht:W.heap[tb]? =some (.cells #[I ho] 3 (0,0))):
  FrS B (w.heap.size+1) cb tb (zc++ [Value.slice A n c,I cy]) A n ts C m trs ho W:=by
 subst hB;refine ⟨h.k,?_,hC,hc,ht,h.k.lt,(bY.1 hc).1,(bY.1 ht).1⟩;rcases h.own.2 with ⟨_,h0⟩|⟨g,cap,cur,hv,hg,hh,_⟩
 ·exact .inl h0
 ·injection hv with h1 h2 h3;have ho:=h.own;rw [h1] at ho;exact .inr ⟨g,h1,(bY.1 hh).1,fun k hk=>⟨rY ho h.len k hk,uV ho h.len k hk⟩⟩
theorem uN {X Y:World} {k o:Nat} (h:X.heap[k]? =Y.heap[k]?):X.cell? ⟨k,o,none⟩=Y.cell? ⟨k,o,none⟩:=by simp only [World.cell?,h]
theorem UO {X:World} {b k:Nat} {u v:Value} (h:k<b+1∨b+2<k):((X.setCell ⟨b+1,0,none⟩ u).setCell ⟨b+1+1,0,none⟩ v).heap[k]? =X.heap[k]? :=
 (heap_setCell_other _ ⟨b+1+1,0,none⟩ k _ (by show k≠b+1+1;omega)).trans (heap_setCell_other X ⟨b+1,0,none⟩ k _ (by show k≠b+1;omega))
theorem cell_far {X:World} {g k o:Nat} {v:Value} (hn:k≠g):(X.setCell ⟨g,0,none⟩ v).cell? ⟨k,o,none⟩=X.cell? ⟨k,o,none⟩:=uN (heap_setCell_other X ⟨g,0,none⟩ k v hn)
theorem LH {ts:List Tr} {size t:Int} (h:ts.length≠0):(dY ts size t).2=true:=by
 unfold dY;rw [if_neg h];split<;>rfl
theorem Xk {z:Zn} (h:qO z=false) (hy:(ry z).length≠0) (ht:0<z.trans.length):2160≤(dY (ry z) (kW z*1440) z.hor).1.at_ - fU z.trans (z.trans.length - 1):=by
 unfold qO at h;simp only [LH hy,ht,decide_true,Bool.true_and,decide_eq_false_iff_not] at h;omega
theorem OB {w X:World} {kb:Nat} {v:Bool} (h1:X.heap[w.heap.size+1]? =some (.cells #[.pointer none] 85 (0,0))) (h2:X.heap[w.heap.size+2]? =some (.cells #[.bool false] 4 (0,0))) (hb:Below w.heap.size w X):
  ((X.setCell ⟨w.heap.size+1,0,none⟩ (pt kb)).setCell ⟨w.heap.size+1+1,0,none⟩ (.bool v)).heap[w.heap.size+1]? =some (.cells #[pt kb] 85 (0,0))∧
  ((X.setCell ⟨w.heap.size+1,0,none⟩ (pt kb)).setCell ⟨w.heap.size+1+1,0,none⟩ (.bool v)).heap[w.heap.size+2]? =some (.cells #[.bool v] 4 (0,0))∧
  Below w.heap.size w ((X.setCell ⟨w.heap.size+1,0,none⟩ (pt kb)).setCell ⟨w.heap.size+1+1,0,none⟩ (.bool v)):=by
 refine ⟨?_,?_,(hb.setCell (p:=⟨w.heap.size+1,0,none⟩) (by show w.heap.size≤w.heap.size+1;omega) _).setCell (p:=⟨w.heap.size+1+1,0,none⟩) (by show w.heap.size≤w.heap.size+1+1;omega) _⟩
 ·rw [heap_setCell_other _ ⟨w.heap.size+1+1,0,none⟩ _ _ (by show w.heap.size+1≠w.heap.size+1+1;omega),heap_setCell_same X _ 0 _ _ _ h1];rfl
 ·have h3:(X.setCell ⟨w.heap.size+1,0,none⟩ (pt kb)).heap[w.heap.size+2]? =some (.cells #[.bool false] 4 (0,0)):=(heap_setCell_other X ⟨w.heap.size+1,0,none⟩ _ _ (by show w.heap.size+2≠w.heap.size+1;omega)).trans h2;show ((X.setCell ⟨w.heap.size+1,0,none⟩ (pt kb)).setCell ⟨w.heap.size+2,0,none⟩ (.bool v)).heap[w.heap.size+2]? =_;rw [heap_setCell_same _ _ 0 _ _ _ h3];rfl
theorem Yg {P:Act→Prop} {a:Act} (h:∀a0,a0=a→P a0):P a:=h a rfl
theorem ZO.drewN {w W:World} {cs:Array Value} (h:ZO w cs W) (k:Nat):ZO w cs (W.drewN k):=h.below (below_drewN' _ _)
structure TbG (t:Tb):Prop where
 bC:0≤t.bC∧t.bC<16
 version:1≤t.version∧t.version≤64
 aH:0≤t.aH∧t.aH<t.version
 prev:t.prev.length=32
 bJ:t.bJ.length=32
 first:t.version=1→t.prev=aS
 num:t.aK.length≤128
 good:∀e∈t.aK,tZ e.z∧yV e.z=0
 short:∀e∈t.aK,e.name.size≤32
theorem oD.at {w:World} {B:Nat} {A:Option Addr} {zs:List dA} {k:Nat} {x:dA} (h:oD w B A zs) (hx:zs[k]? =some x):∃b off,A=some ⟨b,off,none⟩∧b<B∧w.rangeAt b (off+k*9) x.cells.toList:=by
 have hk:=(iP.1 hx).1;obtain ⟨b,off,e,hb,hc⟩:=h.row.there (by rw [dN];omega);exact ⟨b,off,e,hb,aB.elem (s:=9) (f:=fun x:dA=>x.cells.toList) (fun _ _=>rfl) hc k x hx⟩
structure TG (w:World) (cs:Array Value) (A:Option Addr) (zs:List dA) (W:World):Prop where
 row:Row W w.heap.size cs
 mem:oD W w.heap.size A zs
 up:Below w.heap.size w W
theorem TG.below {w W W':World} {cs:Array Value} {A:Option Addr} {zs:List dA} (h:TG w cs A zs W) (hb:Below W.heap.size W W'):TG w cs A zs W':=
 ⟨h.row.keep hb,h.mem.keep (hb.mono h.up.size),ah h.up hb⟩
attribute [local go_sem] jm jo jq bK
end Go.Proofs.YtdibbemgpikgjaaGreat
namespace Go.Proofs.YtdibbemgpikgjaaGreat
open Go Go.RowKit
attribute [local go_sem] jX kC jY kD nK nM jV ku jW kz
def KF (zs:List Ze):List UInt8:=zs.flatMap Vq
theorem Vu (zs:List Ze) (x:Ze):KF (zs++ [x])=KF zs++Vq x:=by simp [KF]
theorem Yx (zs:List Ze) (h:∀e∈zs,tZ e.z∧e.name.size≤32):(KF zs).length≤zs.length*140:=by
 induction zs with
 |nil=>exact Nat.zero_le _
 |cons x zs ih=>
  have h1:=ih fun e he=>h e (List.mem_cons_of_mem _ he);have h2:=Ym (h x List.mem_cons_self).1 (h x List.mem_cons_self).2;unfold KF at h1 ⊢;rw [List.flatMap_cons,bF,List.length_cons];omega
def WyRel (w:World) (g:Nat) (v:Value) (bs:List UInt8) (n:Nat) (zs:List Ze) (i:Value) (wr:World):Prop:=
 ∃k:Nat,k≤n∧i= .int .i64 k∧∃v',fG wr g v' (bs++(le n 1++KF (zs.take k)))∧iy g v w v' wr
structure Fb (g:Nat) (w:World) (A:Option Addr) (zs:List dA):Prop where
 row:zs.length=0∨∃zg zo,A=some ⟨zg,zo,none⟩∧zg<g∧(∀j u,(aP zs)[j]? =some u→w.cell? ⟨zg,zo+j,none⟩=some u)∧∀j,w.frozen? ⟨zg,zo+j,none⟩=false
 each:∀x∈zs,jR w g x.s x.e.z
theorem Fb.keep {g:Nat} {w w':World} {A:Option Addr} {zs:List dA} (h:Fb g w A zs) (hb:Below g w w'):Fb g w' A zs:=
 ⟨h.row.elim .inl fun ⟨zg,zo,h1,h2,h3,h4⟩=> .inr ⟨zg,zo,h1,h2,fun j u hu=>(hb.cell (p:=⟨zg,zo+j,none⟩) h2).trans (h3 j u hu),fun j=>(hb.frozen (p:=⟨zg,zo+j,none⟩) h2).trans (h4 j)⟩,fun x hx=>(h.each x hx).keep hb⟩
theorem BP.low {lo:Nat} {w:World} {A:Option Addr} {zs:List dA} (h:BP lo w A zs):Fb w.heap.size w A zs:=by
 refine ⟨?_,fun x hx=>(h.each x hx).at⟩;rcases h.free with h1|⟨b,off,h1,_,h2,h3⟩
 ·exact .inl h1
 ·rcases h.row with h4|⟨b',off',h4,_,_,h5⟩
  ·rw [dN] at h4;exact .inl (by omega)
  ·rw [h1] at h4;injection h4 with h4;injection h4 with e1 e2;subst e1 e2;exact .inr ⟨b,off,h1,h2,h5,h3⟩
def pU (t:Tb):List UInt8:=le t.bC 1++(le t.version 1++(le t.aH 1++(t.prev++(le t.aK.length 1++KF t.aK))))
theorem O8 (t:Tb) (h:TbG t):36≤(pU t).length∧(pU t).length≤18000:=by
 have h1:=Yx t.aK fun e he=>⟨(h.good e he).1,h.short e he⟩;have h2:=h.num;have h3:=h.prev;simp only [pU,bF,aA];omega
attribute [local go_sem] jm jo jq bK
end Go.Proofs.YtdibbemgpikgjaaGreat
