/- The texts Nl, in this order. -/
import Derived.Test.YtbaehbbonkljpaaGreatDoorS00
import Derived.Test.YtbaehbbonkljpaaGreatDoorS01
import Derived.Test.YtbaehbbonkljpaaGreatDoorS07
import Derived.Test.YtbaehbbonkljpaaGreatDoorS13
set_option maxRecDepth 10000
set_option maxHeartbeats 8000000
namespace Go.Proofs.YtbaehbbonkljpaaGreatDoor
open Go Go.RowKit
theorem IX {P:Program} {f:FuncId} {fn:Func} {c:Code} {args:Array Value} {w:World} {R:Ending->World->Prop} (hf:P.funcs[f]? =some fn) (hb:fn.body=some c)
  (h:c.wp P (bodyPostM Fence.wide 3 P fn R) {tmps:=args++Array.replicate (fn.ntmps - args.size) undef,defers:= []} w):Calls P f args w R:=
 callsIn_wide.1 (callsIn_of_wp_marks (F:=Fence.wide) (n:=3) hf hb trivial (wpIn_wide.2 h) rfl)
theorem jo {P:Program} {fn:Func} {R:Ending->World->Prop} {a:Act} {w:World} {v:Value} (hd:a.defers= []) (h:(results fn a.tmps).run P w= .ok v w) (hR:R (.returned v) w):bodyPostM Fence.wide 3 P fn R .ret a w:=by
 show LeavesInM Fence.wide 3 P fn a.tmps R a.defers .returning w;rw [hd];exact ⟨v,h,hR⟩
theorem y9 {P:Program} {fn:Func} {R:Ending->World->Prop} {a:Act} {w:World} {v:Value} {D:Nat} {xs:Array Value} (hd:a.defers= [{target:= .collected D,args:=xs}]) (hD:w.heap[D]? =some (.deferred (some [])))
  (h:(results fn a.tmps).run P (w.putObj D (.deferred none))= .ok v (w.putObj D (.deferred none))) (hR:R (.returned v) (w.putObj D (.deferred none))):bodyPostM Fence.wide 3 P fn R .ret a w:=by
 show LeavesInM Fence.wide 3 P fn a.tmps R a.defers .returning w;rw [hd];exact ⟨by simp, .inl ⟨_,_,rfl,run_takeDeferred hD,⟨v,h,hR⟩⟩⟩
theorem qW.frs {w W:World} {zc:List Value} {cy ho:Int} {A C:Option Addr} {n c m cb tb B:Nat} {ts trs:List Tr} (h:qW w zc cy A n c ts W) (hB:B=W.heap.size)
  (hC:m=0\/∃b off,C=Option.some ⟨b,off,none⟩/\b<B/\∀k,k<m->W.cell? ⟨b,off+k*2,none⟩=Option.some (I (gU trs k))/\W.cell? ⟨b,off+k*2+1,none⟩=Option.some (I (jI trs k)))
  (hc:W.heap[cb]? =some (.cells #[.pointer (Option.some ⟨w.heap.size+1,0,none⟩)] 140 (0,0))) (ht:W.heap[tb]? =some (.cells #[I ho] 3 (0,0))):
  FrS B (w.heap.size+1) cb tb (zc++ [Value.slice A n c,I cy]) A n ts C m trs ho W:=by
 subst hB;refine ⟨h.k,?_,hC,hc,ht,h.k.lt,(bV.1 hc).1,(bV.1 ht).1⟩;rcases h.own.2 with ⟨_,h0⟩|⟨g,cap,cur,hv,hg,hh,_⟩
 ·exact .inl h0
 ·injection hv with h1 h2 h3;have ho:=h.own;rw [h1] at ho;exact .inr ⟨g,h1,(bV.1 hh).1,fun k hk=>⟨rX ho h.len k hk,uV ho h.len k hk⟩⟩
theorem nH {X Y:World} {k o:Nat} (h:X.heap[k]? =Y.heap[k]?):X.cell? ⟨k,o,none⟩=Y.cell? ⟨k,o,none⟩:=by simp only [World.cell?,h]
structure RJ (lo hi B kb:Nat) (kc:List Value) (A:Option Addr) (n:Nat) (ts:List Tr) (C:Option Addr) (m:Nat) (trs:List Tr) (W:World):Prop where
 k:AV kb 205 kc.toArray W
 ys:n=0\/∃g,A=Option.some ⟨g,0,none⟩/\(g<B/\hi<g)/\∀k,k<n->W.cell? ⟨g,k*2,none⟩=Option.some (I (gU ts k))/\W.cell? ⟨g,k*2+1,none⟩=Option.some (I (jI ts k))
 tr:m=0\/∃b off,C=Option.some ⟨b,off,none⟩/\(b<B/\b<lo)/\∀k,k<m->W.cell? ⟨b,off+k*2,none⟩=Option.some (I (gU trs k))/\W.cell? ⟨b,off+k*2+1,none⟩=Option.some (I (jI trs k))
 lt:kb<B/\hi<kb
theorem RJ.far {lo hi B kb n m:Nat} {kc:List Value} {A C:Option Addr} {ts trs:List Tr} {W W':World} (h:RJ lo hi B kb kc A n ts C m trs W) (hh:∀k,k<B->(k<lo\/hi<k)->W'.heap[k]? =W.heap[k]?) {B':Nat} (hB:B<=B'):RJ lo hi B' kb kc A n ts C m trs W':=by
 refine ⟨⟨(hh kb h.lt.1 (.inr h.lt.2)).trans h.k.var⟩,?_,?_,dP h.lt.1 hB,h.lt.2⟩
 ·rcases h.ys with h0|⟨g,e,hg,hc⟩
  ·exact .inl h0
  ·exact .inr ⟨g,e,⟨dP hg.1 hB,hg.2⟩,fun k hk=>⟨(nH (hh g hg.1 (.inr hg.2))).trans (hc k hk).1,(nH (hh g hg.1 (.inr hg.2))).trans (hc k hk).2⟩⟩
 ·rcases h.tr with h0|⟨b,off,e,hg,hc⟩
  ·exact .inl h0
  ·exact .inr ⟨b,off,e,⟨dP hg.1 hB,hg.2⟩,fun k hk=>⟨(nH (hh b hg.1 (.inl hg.2))).trans (hc k hk).1,(nH (hh b hg.1 (.inl hg.2))).trans (hc k hk).2⟩⟩
def Il (z:Zn) (kb:Nat) (W:World):Prop:=∃(n0 n1 n3 a r c0 d0 c lo hi:Nat) (A0 R0 A C D0:Option Addr),
 RJ lo hi W.heap.size kb [I z.cal.bn, .slice A0 n0 a,I z.cal.dA, .slice R0 n1 r,I z.start, .slice C z.trans.length c0,I z.hor, .slice D0 n3 d0, .slice A (Wv z).length c,I (Kq z)] A (Wv z).length (Wv z) C z.trans.length z.trans W
theorem Il.of {z:Zn} {kb n0 n1 n3 a r c0 d0 c lo hi n m:Nat} {A0 R0 A C D0:Option Addr} {W:World}
  (h:RJ lo hi W.heap.size kb [I z.cal.bn, .slice A0 n0 a,I z.cal.dA, .slice R0 n1 r,I z.start, .slice C m c0,I z.hor, .slice D0 n3 d0, .slice A n c,I (Kq z)] A n (Wv z) C m z.trans W) (hn:(Wv z).length=n) (hm:z.trans.length=m):Il z kb W:=by
 subst hn hm;exact ⟨n0,n1,n3,a,r,c0,d0,c,lo,hi,A0,R0,A,C,D0,h⟩
theorem Il.keep {z:Zn} {kb:Nat} {W W':World} (h:Il z kb W) (hb:Below W.heap.size W W'):Il z kb W':=by
 obtain ⟨n0,n1,n3,a,r,c0,d0,c,lo,hi,A0,R0,A,C,D0,h⟩:=h;exact ⟨n0,n1,n3,a,r,c0,d0,c,lo,hi,A0,R0,A,C,D0,h.far (fun k hk _=>hb.block k hk) hb.size⟩
theorem UZ {X:World} {b k:Nat} {u v:Value} (h:k<b+1\/b+2<k):((X.setCell ⟨b+1,0,none⟩ u).setCell ⟨b+1+1,0,none⟩ v).heap[k]? =X.heap[k]? :=
 (heap_setCell_other _ ⟨b+1+1,0,none⟩ k _ (by show k≠b+1+1;omega)).trans (heap_setCell_other X ⟨b+1,0,none⟩ k _ (by show k≠b+1;omega))
theorem cell_far {X:World} {g k o:Nat} {v:Value} (hn:k≠g):(X.setCell ⟨g,0,none⟩ v).cell? ⟨k,o,none⟩=X.cell? ⟨k,o,none⟩:=nH (heap_setCell_other X ⟨g,0,none⟩ k v hn)
theorem Ox {w X:World} {kb:Nat} {v:Bool} (h1:X.heap[w.heap.size+1]? =some (.cells #[.pointer none] 140 (0,0))) (h2:X.heap[w.heap.size+2]? =some (.cells #[.bool false] 4 (0,0))) (hb:Below w.heap.size w X):
  ((X.setCell ⟨w.heap.size+1,0,none⟩ (pt kb)).setCell ⟨w.heap.size+1+1,0,none⟩ (.bool v)).heap[w.heap.size+1]? =some (.cells #[pt kb] 140 (0,0))/\
  ((X.setCell ⟨w.heap.size+1,0,none⟩ (pt kb)).setCell ⟨w.heap.size+1+1,0,none⟩ (.bool v)).heap[w.heap.size+2]? =some (.cells #[.bool v] 4 (0,0))/\
  Below w.heap.size w ((X.setCell ⟨w.heap.size+1,0,none⟩ (pt kb)).setCell ⟨w.heap.size+1+1,0,none⟩ (.bool v)):=by
 refine ⟨?_,?_,(hb.setCell (p:=⟨w.heap.size+1,0,none⟩) (by show w.heap.size<=w.heap.size+1;omega) _).setCell (p:=⟨w.heap.size+1+1,0,none⟩) (by show w.heap.size<=w.heap.size+1+1;omega) _⟩
 ·rw [heap_setCell_other _ ⟨w.heap.size+1+1,0,none⟩ _ _ (by show w.heap.size+1≠w.heap.size+1+1;omega),heap_setCell_same X _ 0 _ _ _ h1];rfl
 ·have h3:(X.setCell ⟨w.heap.size+1,0,none⟩ (pt kb)).heap[w.heap.size+2]? =some (.cells #[.bool false] 4 (0,0)):=(heap_setCell_other X ⟨w.heap.size+1,0,none⟩ _ _ (by show w.heap.size+2≠w.heap.size+1;omega)).trans h2;show ((X.setCell ⟨w.heap.size+1,0,none⟩ (pt kb)).setCell ⟨w.heap.size+2,0,none⟩ (.bool v)).heap[w.heap.size+2]? =_;rw [heap_setCell_same _ _ 0 _ _ _ h3];rfl
theorem YT {P:Act->Prop} {a:Act} (h:∀a0,a0=a->P a0):P a:=h a rfl
theorem ZO.drewN {w W:World} {cs:Array Value} (h:ZO w cs W) (k:Nat):ZO w cs (W.drewN k):=h.below (below_drewN' _ _)
end Go.Proofs.YtbaehbbonkljpaaGreatDoor
