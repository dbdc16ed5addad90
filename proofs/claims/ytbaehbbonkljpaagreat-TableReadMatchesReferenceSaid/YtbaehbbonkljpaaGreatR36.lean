/- The texts Vp, in this order. -/
import Derived.Test.YtbaehbbonkljpaaGreatR00
import Derived.Test.YtbaehbbonkljpaaGreatR26
import Derived.Test.YtbaehbbonkljpaaGreatR35
set_option maxRecDepth 10000
set_option maxHeartbeats 8000000
namespace Go.Proofs.YtbaehbbonkljpaaGreat
open Go Go.RowKit
structure RV (M:Nat) (t:TypeId) (z:Array Value) (w0 w1:World) (rb:Nat) (o:eQ) (b4 b6:Nat) (cs:Array Value) (W:World):Prop where
 hm:rb<w0.heap.size
 lo:w0.heap.size≤b4
 mid:b4<w1.heap.size
 hi:w1.heap.size≤b6
 k0:dA rb w0 w1
 r1:w1.heap[b4]? =some (.cells z t (0,0))
 rd:RR M W rb o
 keep:dA rb w1 W
 var:W.heap[b6]? =some (.cells cs t (0,0))
section
variable {M:Nat} {t:TypeId} {z:Array Value} {w0 w1 W W':World} {rb b4 b6:Nat} {o o':eQ} {cs cs':Array Value}
theorem RV.lt (h:RV M t z w0 w1 rb o b4 b6 cs W):b6<W.heap.size:=(bK.1 h.var).1
theorem RV.cell (h:RV M t z w0 w1 rb o b4 b6 cs W):∀i,W.cell? ⟨b6,i,none⟩=cs[i]? :=fun i=>cell_of_row W b6 i _ _ _ h.var
theorem RV.eY (h:RV M t z w0 w1 rb o b4 b6 cs W):∀i,W.frozen? ⟨b6,i,none⟩=false:=fun i=>frozen_of_row W b6 i _ _ h.var
theorem RV.row (h:RV M t z w0 w1 rb o b4 b6 cs W):Row W b6 cs:=⟨h.lt,h.cell⟩
theorem RV.res (h:RV M t z w0 w1 rb o b4 b6 cs W):W.heap[b4]? =some (.cells z t (0,0)):=
 have h1:=h.hm;have h2:=h.lo
 (h.keep.block b4 h.mid (by omega)).trans h.r1
theorem RV.step (h:RV M t z w0 w1 rb o b4 b6 cs W) (hr:RR M W' rb o') (hk:dA rb W W'):RV M t z w0 w1 rb o' b4 b6 cs W':=
 have h1:=h.hm;have h2:=h.lo;have h3:=h.mid;have h5:=h.hi;have h4:=h.lt
 ⟨h.hm,h.lo,h.mid,h.hi,h.k0,h.r1,hr,h.keep.trans hk,(hk.block b6 (by omega) (by omega)).trans h.var⟩
theorem RV.num {v:Int} {e:Ending} (h:RV M t z w0 w1 rb o b4 b6 cs W) (hn:OX M W rb v o' e W'):RV M t z w0 w1 rb o' b4 b6 cs W':=h.step hn.2.1 hn.2.2
theorem RV.low (h:RV M t z w0 w1 rb o b4 b6 cs W) (hb:Below (b6+1) W W'):RV M t z w0 w1 rb o b4 b6 cs W':=by
 have h1:=h.hm;have h2:=h.lo;have h3:=h.mid;have h5:=h.hi;exact ⟨h.hm,h.lo,h.mid,h.hi,h.k0,h.r1,h.rd.below hb (by omega),⟨hb.os.trans h.keep.os,hb.tape.trans h.keep.tape,hb.output.trans h.keep.output,Nat.le_trans h.keep.size hb.size,fun k hk hn=>(hb.block k (by omega)).trans (h.keep.block k hk hn)⟩,(hb.block b6 (by omega)).trans h.var⟩
theorem RV.more (h:RV M t z w0 w1 rb o b4 b6 cs W) (x:Obj):RV M t z w0 w1 rb o b4 b6 cs (W.alloc x):=
 have h4:=h.lt
 h.low ⟨rfl,rfl,rfl,(ag W x).size,fun k hk=>(ag W x).block k (by omega)⟩
theorem RV.drew (h:RV M t z w0 w1 rb o b4 b6 cs W):RV M t z w0 w1 rb o b4 b6 cs W.drew:=⟨h.hm,h.lo,h.mid,h.hi,h.k0,h.r1,h.rd.drew,h.keep.draw,h.var⟩
theorem RV.far (h:RV M t z w0 w1 rb o b4 b6 cs W) {b i:Nat} (hb:b6<b) (v:Value):RV M t z w0 w1 rb o b4 b6 cs (W.setCell ⟨b,i,none⟩ v):=
 h.low ((Below.refl _ W).setCell (p:=⟨b,i,none⟩) hb _)
theorem RV.store (h:RV M t z w0 w1 rb o b4 b6 cs W) (i:Nat) (v:Value):RV M t z w0 w1 rb o b4 b6 (cs.setIfInBounds i v) (W.setCell ⟨b6,i,none⟩ v):=by
 have h1:=h.hm;have h2:=h.lo;have h3:=h.mid;have h5:=h.hi;have hb:Below b6 W (W.setCell ⟨b6,i,none⟩ v):=(Below.refl b6 W).setCell (p:=⟨b6,i,none⟩) (Nat.le_refl _) _;exact ⟨h.hm,h.lo,h.mid,h.hi,h.k0,h.r1,h.rd.below hb (by omega),⟨hb.os.trans h.keep.os,hb.tape.trans h.keep.tape,hb.output.trans h.keep.output,Nat.le_trans h.keep.size hb.size,fun k hk hn=>(hb.block k (by omega)).trans (h.keep.block k hk hn)⟩,heap_setCell_same W b6 i _ _ _ h.var⟩
theorem RV.grown {base e size n:Nat} {v:Value} {ys:List Value} {x:Obj} (h:RV M t z w0 w1 rb o b4 b6 cs W) (hown:W.ownsRow base e size v n ys) (hb:b6<base) (hg:(W.alloc x).grownBy W' v.ownBlock):RV M t z w0 w1 rb o b4 b6 cs W':=by
 have h4:=h.lt;exact h.low ⟨hg.os,hg.tape,hg.output,by have:=hg.size;simp at this;omega,fun k hk=>by rw [hg.block k (by simp;omega) (dZ hown k (by omega)),Below.heap_alloc W x k (by omega)]⟩
theorem RV.done (h:RV M t z w0 w1 rb o b4 b6 cs W) (ds:Array Value):RR M (W.setRow b4 ds) rb o∧dA rb w0 (W.setRow b4 ds):=by
 have h1:=h.hm;have h2:=h.lo;have hk:=h.k0.trans h.keep;have hb:Below b4 W (W.setRow b4 ds):=below_setRow (Below.refl b4 W) (Nat.le_refl _) _;exact ⟨h.rd.below hb (by omega),⟨hb.os.trans hk.os,hb.tape.trans hk.tape,hb.output.trans hk.output,Nat.le_trans hk.size hb.size,fun k hk2 hn=>(setRow_other W b4 k _ (by omega)).trans (hk.block k hk2 hn)⟩⟩
theorem RV.start (hr:RR M w1 rb o) (hk:dA rb w0 w1) (h1:rb<w0.heap.size) (h2:w0.heap.size≤b4) (h3:w1.heap[b4]? =some (.cells z t (0,0))) (cs:Array Value):RV M t z w0 w1 rb o b4 w1.heap.size cs (w1.alloc (.cells cs t)):=by
 have hb:=ag w1 (.cells cs t);exact ⟨h1,h2,(bK.1 h3).1,Nat.le_refl _,hk,h3,hr.below hb (dW h1 hk.size),dA.of_below hb,heap_alloc_last w1 _⟩
end
def Mid (lo:Nat) (w w':World):Prop:=w.heap.size≤w'.heap.size∧∀b,lo≤b→b<w.heap.size→w'.heap[b]? =w.heap[b]?
section
variable {lo rb:Nat} {w W W':World}
theorem Mid.refl (lo:Nat) (w:World):Mid lo w w:=⟨Nat.le_refl _,fun _ _ _=>rfl⟩
theorem Mid.num (h:Mid lo w W) (hk:dA rb W W') (hr:rb<lo):Mid lo w W':=⟨Nat.le_trans h.1 hk.size,fun b h1 h2=>(hk.block b (dW h2 h.1) (by omega)).trans (h.2 b h1 h2)⟩
theorem Mid.alloc (h:Mid lo w W) (x:Obj):Mid lo w (W.alloc x):=⟨Nat.le_trans h.1 (ag W x).size,fun b h1 h2=>((ag W x).block b (dW h2 h.1)).trans (h.2 b h1 h2)⟩
theorem Mid.far {b i:Nat} (h:Mid lo w W) (hb:w.heap.size≤b) (v:Value):Mid lo w (W.setCell ⟨b,i,none⟩ v):=⟨by have:=h.1;simpa [World.setCell] using this,fun k h1 h2=>(heap_setCell_other W ⟨b,i,none⟩ k _ (by show k≠b;omega)).trans (h.2 k h1 h2)⟩
theorem Mid.store {b:Nat} (h:Mid lo w W) (hb:b<lo) (i:Nat) (v:Value):Mid lo w (W.setCell ⟨b,i,none⟩ v):=⟨by have:=h.1;simpa [World.setCell] using this,fun k h1 h2=>(heap_setCell_other W ⟨b,i,none⟩ k _ (by show k≠b;omega)).trans (h.2 k h1 h2)⟩
theorem Mid.grown {base e size n:Nat} {v:Value} {ys:List Value} {x:Obj} (h:Mid lo w W) (hown:W.ownsRow base e size v n ys) (hb:w.heap.size≤base) (hg:(W.alloc x).grownBy W' v.ownBlock):Mid lo w W':=by
 have hs:=hg.size;simp at hs;have h1:=h.1;exact ⟨by omega,fun k h2 h3=>by rw [hg.block k (by simp;omega) (dZ hown k (by omega)),Below.heap_alloc W x k (by omega)];exact h.2 k h2 h3⟩
end
structure EK {α:Type} (t:eQ→α×eQ) (n:Nat) (o0:eQ) (k:Nat) (xs:List α) (o:eQ):Prop where
 len:xs.length=k
 le:k≤n
 eq:iD t n o0=(xs++(iD t (n - k) o).1,(iD t (n - k) o).2)
theorem EK.start {α:Type} (t:eQ→α×eQ) (n:Nat) (o0:eQ):EK t n o0 0 [] o0:=⟨rfl,Nat.zero_le _,rfl⟩
theorem EK.step {α:Type} {t:eQ→α×eQ} {n k:Nat} {o0 o':eQ} {xs:List α} {B:List UInt8} {x:α} (h:EK t n o0 k xs (some B)) (hk:k<n) (hx:t (some B)=(x,o')):EK t n o0 (k+1) (xs++ [x]) o':=by
 refine ⟨by rw [bH,h.len];rfl,hk,?_⟩;rw [h.eq,show n - k=(n - (k+1))+1 by omega];show (xs++(t (some B)).1::(iD t (n - (k+1)) (t (some B)).2).1,(iD t (n - (k+1)) (t (some B)).2).2)=_;rw [hx,List.append_assoc];rfl
theorem Jd {α:Type} (t:eQ→α×eQ) (k:Nat):iD t k none=([],none):=by cases k<;>rfl
theorem EK.dead {α:Type} {t:eQ→α×eQ} {n k:Nat} {o0:eQ} {xs:List α} (h:EK t n o0 k xs none):iD t n o0=(xs,none):=by
 rw [h.eq,Jd,List.append_nil]
theorem EK.full {α:Type} {t:eQ→α×eQ} {n:Nat} {o0 o:eQ} {xs:List α} (h:EK t n o0 n xs o):iD t n o0=(xs,o):=by
 rw [h.eq,Nat.sub_self];show (xs++ [],o)=_;rw [List.append_nil]
theorem BB {α:Type} (t:eQ→α×eQ):∀(k:Nat) (o:eQ),(iD t k o).1.length≤k
 |0,_=>Nat.le_refl 0
 |_+1,none=>Nat.zero_le _
 |k+1,some _=>Nat.succ_le_succ (BB t k _)
theorem ZB {s:Nat} {o o':eQ} {v:Int} (hs:s=1∨s=2) (h:tN s o=(v,o')):∃n:Nat,v=n∧n<256 ^ s:=by
 rw [MC s (by omega) o] at h;have h1:=AY (tX s o).1;have h2:256 ^ (tX s o).1.length≤256 ^ s:=Nat.pow_le_pow_right (by omega) (MF s o);refine ⟨wZ (tX s o).1,?_,by omega⟩;rw [←(Prod.mk.inj h).1];have h3:256 ^ s≤65536:=by rcases hs with rfl|rfl<;>decide
 unfold wrap64;omega
theorem xN {o o':eQ} {v:Int} (h:tN 1 o=(v,o')):∃n:Nat,v=n∧n<256:=ZB (.inl rfl) h
theorem tN2_bd {o o':eQ} {v:Int} (h:tN 2 o=(v,o')):∃n:Nat,v=n∧n<65536:=ZB (.inr rfl) h
theorem iC {M:Nat} {w:World} {rb s:Nat} {o o':eQ} {v:Int} (h:tN s o=(v,o')) (hr:RR M w rb o) (hs:s=1∨s=2∨s=4∨s=8):
  Calls Tryz.prog 37 #[pt rb,I s] w (OX M w rb v o'):=by
 have h1:=Es M w rb s o hr hs
 rwa [h] at h1
theorem L6 {M:Nat} {w:World} {rb:Nat} {o o':eQ} {v:Int} (h:tO o=(v,o')) (hr:RR M w rb o):
  Calls Tryz.prog 58 #[pt rb] w (OX M w rb v o'):=by
 have h1:=PS M w rb o hr
 rwa [h] at h1
def DC:Array Value:= #[I 0, .slice none 0 0,I 0, .slice none 0 0]
def jV (ep:Int) (v:Value) (lp:Int) (u:Value):Array Value:= #[I ep,v,I lp,u]
theorem Ez:(Tryz.prog.info? 50).map (fun i=>(i.zero,i.size))=some (some (.agg DC),4):=by kernel_rfl
theorem RJ (ep:Int) (A:Option Addr) (n a:Nat) (lp:Int) (B:Option Addr) (m b:Nat):(jV ep (.slice A n a) lp (.slice B m b)).all (·.oneCell')=true:=by kernel_rfl
theorem ET (ep:Int) (v:Value) (lp:Int) (u:Value):(Tryz.prog.info? 50).map (·.size)=some (jV ep v lp u).size:=by kernel_rfl
def ZJ (M:Nat) (w:World) (rb:Nat) (c:Cal) (o:eQ) (e:Ending) (w':World):Prop:=
 ∃A a B b,e= .returned (.agg (aH c A a B b))∧RR M w' rb o∧dA rb w w'∧w'.ownsRow w.heap.size 3 1 (.slice A c.aj.length a) c.aj.length (c.aj.map I)∧w'.ownsRow w.heap.size 131 3 (.slice B c.rules.length b) c.rules.length (c.rules.flatMap Lr.cells)
theorem rcal_r (M:Nat) (w:World) (rb:Nat) (o:eQ) (hr:RR M w rb o):Calls Tryz.prog 57 #[pt rb] w (ZJ M w rb (Jc o).1 (Jc o).2):=by
 obtain ⟨⟨ep,o1⟩,h1⟩:∃p,tN 4 o=p:=⟨_,rfl⟩;obtain ⟨⟨nv,o2⟩,h2⟩:∃p,tN 1 o1=p:=⟨_,rfl⟩;obtain ⟨n,rfl,hn⟩:=xN h2;obtain ⟨⟨ms,o3⟩,h3⟩:∃p,iD (tN 1) n o2=p:=⟨_,rfl⟩;obtain ⟨⟨lv,o4⟩,h4⟩:∃p,tN 1 o3=p:=⟨_,rfl⟩;obtain ⟨l,rfl,hl⟩:=xN h4;obtain ⟨⟨mv,o5⟩,h5⟩:∃p,tN 1 o4=p:=⟨_,rfl⟩;obtain ⟨m,rfl,hm⟩:=xN h5;obtain ⟨⟨rs,o6⟩,h6⟩:∃p,iD tLr m o5=p:=⟨_,rfl⟩;have HF:Hid (Jc o=(⟨ep,ms,(l:Int) - 1,rs⟩,o6)):=ae (by
  simp only [Jc,gB,qm,wP,h1,h2,h3,h4,h5,h6,Int.toNat_natCast])
 have YW:=ae (iC h1 (hr.below (ag w (.cells DC 50)) hr.lt) (by omega));have H2:=ae h2;have H3:=ae h3;have H4:=ae h4;have H5:=ae h5;have H6:=ae h6;have HLM:=ae (show ms.length≤n by have h:=BB (tN 1) n o2;rwa [h3] at h);have hrl:=hr.lt;have HRL:=ae hr;clear hr h1 h2 h3 h4 h5 h6;go_enter Tryz.func57,Tryz.ntmps57;go_upto_region 1 with (first
  |((with_reducible refine bf 50 ?_);go_must (refine aI rfl _ rfl DC Ez ?_)))
 go_wp2_with fail;refine YW.out.mono ?_;rintro e w1 ⟨rfl,hr1,hk1⟩;have hk0:dA rb w w1:=(dA.of_below (ag w _)).trans hk1;have kS:=ae (RV.start (t:=50) (z:=DC) hr1 hk0 hrl (Nat.le_refl _) ((hk1.block _ (by simp) (by omega)).trans (heap_alloc_last w _)) (jV ep (.slice none 0 0) 0 (.slice none 0 0)));clear hr1 hk1 hk0 YW;go_wp2_with (first
  |((with_reducible refine bf 50 ?_);go_must (refine fA rfl rfl _ _ _ rfl rfl rfl rfl _ (jV ep (.slice none 0 0) 0 (.slice none 0 0)) Ez rfl rfl rfl (RJ _ _ _ _ _ _ _ _) ?_)))
 refine (iC H2.out kS.out.rd (by omega)).mono ?_;rintro e w2 hn2;obtain rfl:=hn2.1;have jk:=ae (kS.out.num hn2);have hvb:=kS.out.hi;clear hn2 kS;obtain ⟨vb,AL⟩:∃b,w1.heap.size=b:=⟨_,rfl⟩;rw [AL] at jk ⊢;have JJ:=ae AL;have yY:rb<vb:=by have h:=jk.out.mid;have h2:=jk.out.lo;omega
 obtain ⟨i0,hi,hz0,hz1,hz2⟩:=info_parts sN;obtain ⟨j0,hj,hy0,hy1,hy2⟩:=info_parts AO;clear hvb AL HRL;go_upto_block 0 with fail
 go_cut [5] (fun _ wx=>∃A c,RV M 50 DC w w1 rb o3 w.heap.size vb (jV ep (.slice A ms.length c) 0 (.slice none 0 0)) wx∧wx.ownsRow (vb+1) 3 1 (.slice A ms.length c) ms.length (ms.map I))
 case first=>
  go_wp2_with fail
  go_loopw [5] (fun i wr=>∃(k:Nat) (A:Option Addr) (c:Nat) (xs:List Int) (ok:eQ),i= .int .i64 k∧EK (tN 1) n o2 k xs ok∧RV M 50 DC w w1 rb ok w.heap.size vb (jV ep (.slice A k c) 0 (.slice none 0 0)) wr∧wr.ownsRow (vb+1) 3 1 (.slice A k c) k (xs.map I)) (fun i _=>n - (intOf i).toNat)
  case atStart=>exact ⟨0,none,0,[],o2,rfl,EK.start _ _ _,jk.out,World.ownsRow_nil _ _ _ _⟩
  case round=>
   obtain ⟨k,A,c,xs,ok,rfl,hit,hv,ho⟩:=hrel;have HIT:=ae hit;have HV:=ae hv;have HO:=ae ho;have hkn:=hit.le;have hsh:wr.cell? ⟨rb,1,none⟩=some (.bool ok.isNone):=by
    obtain ⟨A',n',c',g1,_⟩:=hv.rd.at_;exact cell_of_row wr rb 1 _ _ _ g1
   clear hit hv ho jk;by_cases hlt:k<n
   ·have i1:(k:Int)<(n:Int):=by omega
    cases ok with
    |none=>
     have hsh:wr.cell? ⟨rb,1,none⟩=some (.bool true):=hsh;have HD:=ae HIT.out.dead;go_wp2_with fail;go_meet;obtain ⟨e1,e2⟩:=Prod.mk.inj (H3.out.symm.trans HD.out);rw [e1,e2,HIT.out.len];exact ⟨A,c,HV.out,HO.out⟩
    |some B=>
     replace hsh:wr.cell? ⟨rb,1,none⟩=some (.bool false):=hsh;obtain ⟨⟨x,o'⟩,hx⟩:∃p,tN 1 (some B)=p:=⟨_,rfl⟩;have HX:=ae hx;have HI2:=ae (HIT.out.step hlt hx);have HVD:=ae HV.out.drew;have HOD:Hid (wr.drew.ownsRow (vb+1) 3 1 (.slice A k c) k (xs.map I)):=ae HO.out;have hc1:wr.cell? ⟨vb,1,none⟩=some (.slice A k c):=HV.out.cell 1;clear hx HV HO HIT;go_wp2_with fail
     go_region_law (first
      |(refine step_append_lies _ (by rfl) _ _ _ (by rfl) (vb+1) 3 i0 (.int .i64 0) 1 8 Tryz.underlying47 hi hz0 hz1 hz2 rfl (by omega) (.slice A k c) k (xs.map I) (by rfl) (pU.out.alloc _) ⟨w5.heap.size,0,none⟩ 1 1 [I x] (by rfl) rfl (cell_one_new _ _ _) (by intro u hu;simp at hu;subst hu;rfl) (by omega) (by unfold maxLen;omega) (by omega) (by simp;omega) _ rfl ?_;intro gg cap w6 hown6 hgrow6 eP hlt6';have pV:=ae (HV5.out.grown pU.out (Nat.lt_succ_self _) hgrow6);have qZ:=ae hown6;have hc66:w6.cell? ⟨vb,1,none⟩=some (.slice A k c):=pV.out.cell 1;have hf66:=pV.out.eY 1;clear hown6 hgrow6 eP)
      |(go_simp;go_at_call 37;refine (iC HX.out HVD.out.rd (by omega)).mono ?_;rintro e w5 Zl;obtain rfl:=Zl.1;have HV5:=ae (HVD.out.num Zl);have hc5:w5.cell? ⟨vb,1,none⟩=some (.slice A k c):=HV5.out.cell 1;have hl5:=HV5.out.lt;have pU:=ae (bJ HOD.out Zl.2.2 (by omega));clear Zl))
     all_goals
      go_wp2_with fail;go_roundw
      case rel=>exact ⟨k+1,some ⟨gg,0,none⟩,cap,xs++ [x],o',by go_num,HI2.out,pV.out.store 1 (.slice (some ⟨gg,0,none⟩) (k+1) cap),by rw [List.map_append];exact ownsRow_setCell_below (a:=⟨vb,1,none⟩) qZ.out (Nat.lt_succ_self _) _⟩
      case measure=>simp [intOf];omega
   ·have i2:¬(k:Int)<(n:Int):=by omega
    have hkn2:k=n:=by omega
    have HD:=ae (hkn2▸HIT.out).full;clear hkn2 hlt;go_wp2_with fail;go_meet;obtain ⟨e1,e2⟩:=Prod.mk.inj (H3.out.symm.trans HD.out);rw [e1,e2,HIT.out.len];exact ⟨A,c,HV.out,HO.out⟩
 case rest=>
  obtain ⟨A1,a1,hv,ho⟩:=hcut;have ng:=ae hv;have qC:=ae ho;clear hv ho jk H2 H3;obtain ⟨nm,hnm⟩:∃n,ms.length=n:=⟨_,rfl⟩;have zq:=ae hnm;rw [hnm] at ng qC;clear hnm;go_upto_region 7 with fail;go_wp2_with fail;refine (iC H4.out ng.out.rd (by omega)).mono ?_;rintro e w4 hn4;obtain rfl:=hn4.1;have uF:=ae (ng.out.num hn4);have zS:=ae (bJ qC.out hn4.2.2 (by omega));have f42:=uF.out.eY 2;have c42:w4.cell? ⟨vb,2,none⟩=some (I 0):=uF.out.cell 2;have QE:IntKind.i64.wrap ((l:Int) - 1)=(l:Int) - 1:=by rw [IntKind.wrap_i64];omega
  clear hn4 ng qC;have HV5:Hid (RV M 50 DC w w1 rb o4 w.heap.size vb (jV ep (.slice A1 nm a1) ((l:Int) - 1) (.slice none 0 0)) (w4.setCell ⟨vb,2,none⟩ (I ((l:Int) - 1)))):=ae (uF.out.store 2 (I ((l:Int) - 1)));have pU:=ae (ownsRow_setCell_below (a:=⟨vb,2,none⟩) zS.out (Nat.lt_succ_self _) (I ((l:Int) - 1)));clear uF zS;go_upto_region 8 with fail;generalize w4.setCell ⟨vb,2,none⟩ (I ((l:Int) - 1))=w5 at HV5 pU ⊢;go_wp2_with fail;refine (iC H5.out HV5.out.rd (by omega)).mono ?_;rintro e w6 QF;obtain rfl:=QF.1;have pV:=ae (HV5.out.num QF);have qZ:=ae (bJ pU.out QF.2.2 (by omega));clear QF HV5 pU f42 c42 QE H4 H5;obtain ⟨lp,hlp⟩:∃v,(l:Int) - 1=v:=⟨_,rfl⟩;rw [hlp] at pV HF;clear hlp;have KT:vb+1≤w6.heap.size:=pV.out.lt;obtain ⟨lb,KU⟩:∃b,w6.heap.size=b:=⟨_,rfl⟩;have hlb:vb+1≤lb:=by omega
  have hlq:w6.heap.size≤lb:=by omega
  have QE:lb≤w6.heap.size:=by omega
  clear KT KU;go_upto_block 2 with fail
  go_cut [6] (fun _ wx=>∃B c,RV M 50 DC w w1 rb o6 w.heap.size vb (jV ep (.slice A1 nm a1) lp (.slice B rs.length c)) wx∧wx.ownsRow (vb+1) 131 3 (.slice B rs.length c) rs.length (rs.flatMap Lr.cells)∧wx.ownsRow (vb+1) 3 1 (.slice A1 nm a1) nm (ms.map I))
  case first=>
   go_wp2_with fail
   go_loopw [6,7] (fun i _ wr=>∃(k:Nat) (A:Option Addr) (c:Nat) (xs:List Lr) (ok:eQ),i= .int .i64 k∧EK tLr m o5 k xs ok∧RV M 50 DC w w1 rb ok w.heap.size vb (jV ep (.slice A1 nm a1) lp (.slice A k c)) wr∧wr.ownsRow lb 131 3 (.slice A k c) k (xs.flatMap Lr.cells)∧Mid (vb+1) w6 wr) (fun i _ _=>m - (intOf i).toNat)
   case atStart=>exact ⟨0,none,0,[],o5,rfl,EK.start _ _ _,pV.out,World.ownsRow_nil _ _ _ _,Mid.refl _ _⟩
   case round=>
    obtain ⟨k,A,c,xs,ok,rfl,hit,hv,ho,hmk⟩:=hrel;have HIT:=ae hit;have HV:=ae hv;have HO:=ae ho;have HQ:=ae hmk;have hkn:=hit.le;have hsh:wr.cell? ⟨rb,1,none⟩=some (.bool ok.isNone):=by
     obtain ⟨A',n',c',g1,_⟩:=hv.rd.at_;exact cell_of_row wr rb 1 _ _ _ g1
    clear hit hv ho hmk pV;by_cases hlt:k<m
    ·have i1:(k:Int)<(m:Int):=by omega
     cases ok with
     |none=>
      have hsh:wr.cell? ⟨rb,1,none⟩=some (.bool true):=hsh;have HD:=ae HIT.out.dead;go_wp2_with fail;go_meet;obtain ⟨e1,e2⟩:=Prod.mk.inj (H6.out.symm.trans HD.out);rw [e1,e2,HIT.out.len];exact ⟨A,c,HV.out,aK HO.out hlb,aN qZ.out HQ.out.2⟩
     |some B=>
      replace hsh:wr.cell? ⟨rb,1,none⟩=some (.bool false):=hsh;obtain ⟨⟨x0,p0⟩,hx0⟩:∃p,tN 2 (some B)=p:=⟨_,rfl⟩;obtain ⟨⟨x1,p1⟩,hx1⟩:∃p,tN 2 p0=p:=⟨_,rfl⟩;obtain ⟨⟨x2,p2⟩,hx2⟩:∃p,tN 1 p1=p:=⟨_,rfl⟩;have hx:tLr (some B)=((⟨x0,x1,x2 !=0⟩:Lr),p2):=by simp only [tLr,gB,qm,tF,GK,hx0,hx1,hx2]
      have HI2:=ae (HIT.out.step hlt hx);have HX0:=ae hx0;have uf:=ae hx1;have ug:=ae hx2;have zn:Hid (∀b,wr.heap.size≤b→some b≠(Value.slice A k c).ownBlock):=ae fun b hb e=>by have h:=(World.ownsRow.lt HO.out _ e.symm).2;omega
      have Xi:=HQ.out.1;clear hx hx0 hx1 hx2 HIT;go_wp2_with fail;refine (iC HX0.out HV.out.rd (by omega)).mono ?_;rintro e y0 hn0;obtain rfl:=hn0.1;have hbx:=(HV.out.num hn0).lt;have hsx:=hn0.2.2.size;have HW0:=ae ((HV.out.num hn0).more (.cells #[I x0,I 0, .bool false] 131));have Nj:=ae ((bJ HO.out hn0.2.2 (by omega)).alloc (.cells #[I x0,I 0, .bool false] 131));have mP:=ae ((HQ.out.num (rb:=rb) hn0.2.2 (by omega)).alloc (.cells #[I x0,I 0, .bool false] 131));have hr0:(y0.alloc (.cells #[I x0,I 0, .bool false] 131)).heap[y0.heap.size]? =some (.cells #[I x0,I 0, .bool false] 131 (0,0)):=heap_alloc_last _ _;clear hn0 HV HO HQ;go_wp2_with (first
       |((with_reducible refine bf 131 ?_);go_must (refine fA rfl rfl _ _ _ rfl rfl rfl rfl (.agg #[I 0,I 0, .bool false]) #[I x0,I 0, .bool false] (by kernel_rfl) rfl rfl rfl (by kernel_rfl) ?_)))
      obtain ⟨xb,hxb⟩:∃b,y0.heap.size=b:=⟨_,rfl⟩;rw [hxb] at hbx hsx hr0 ⊢;generalize y0.alloc (.cells #[I x0,I 0, .bool false] 131)=W0 at HW0 Nj mP hr0 ⊢;refine (iC uf.out HW0.out.rd (by omega)).mono ?_;rintro e y1 hn1;obtain rfl:=hn1.1;have wF:y1.heap[xb]? =some (.cells #[I x0,I 0, .bool false] 131 (0,0)):=(hn1.2.2.block xb (bK.1 hr0).1 (by omega)).trans hr0;have fx1:=frozen_of_row y1 xb 1 _ _ wF;have Vz:y1.cell? ⟨xb,1,none⟩=some (I 0):=cell_of_row y1 xb 1 _ _ _ wF;have HW1:=ae ((HW0.out.num hn1).far (i:=1) hbx (I x1));have nS:=ae (bY (p:=⟨xb,1,none⟩) (u:=I x1) (bJ Nj.out hn1.2.2 (by omega)) (zn.out xb (by omega)));have hr1:(y1.setCell ⟨xb,1,none⟩ (I x1)).heap[xb]? =some (.cells #[I x0,I x1, .bool false] 131 (0,0)):=heap_setCell_same _ xb 1 _ _ _ wF;have iM:=ae ((mP.out.num (rb:=rb) hn1.2.2 (by omega)).far (i:=1) (b:=xb) (Nat.le_trans Xi hsx) (I x1));clear hn1 HW0 Nj mP;go_wp2_with fail;generalize y1.setCell ⟨xb,1,none⟩ (I x1)=W1 at HW1 nS iM hr1 ⊢;clear wF Vz fx1;refine (iC ug.out HW1.out.rd (by omega)).mono ?_;rintro e y2 hn2;obtain rfl:=hn2.1;have Fq:y2.heap[xb]? =some (.cells #[I x0,I x1, .bool false] 131 (0,0)):=(hn2.2.2.block xb (bK.1 hr1).1 (by omega)).trans hr1;have fx2:=frozen_of_row y2 xb 2 _ _ Fq;have cx2:y2.cell? ⟨xb,2,none⟩=some (.bool false):=cell_of_row y2 xb 2 _ _ _ Fq;have HW2:=ae ((HW1.out.num hn2).far (i:=2) hbx (.bool (x2 !=0)));have HP2:=ae (bY (p:=⟨xb,2,none⟩) (u:= .bool (x2 !=0)) (bJ nS.out hn2.2.2 (by omega)) (zn.out xb (by omega)));have hr2:(y2.setCell ⟨xb,2,none⟩ (.bool (x2 !=0))).heap[xb]? =some (.cells #[I x0,I x1, .bool (x2 !=0)] 131 (0,0)):=heap_setCell_same _ xb 2 _ _ _ Fq;have iH:=ae ((iM.out.num (rb:=rb) hn2.2.2 (by omega)).far (i:=2) (b:=xb) (Nat.le_trans Xi hsx) (.bool (x2 !=0)));clear hn2 HW1 nS iM;go_upto_region 15 with fail;generalize y2.setCell ⟨xb,2,none⟩ (.bool (x2 !=0))=W2 at HW2 HP2 iH hr2 ⊢;clear Fq cx2 fx2;have hws:lb≤W2.heap.size:=Nat.le_trans QE iH.out.1;have d0:W2.cell? ⟨xb,0,none⟩=some (I x0):=cell_of_row W2 xb 0 _ _ _ hr2;have d1:W2.cell? ⟨xb,1,none⟩=some (I x1):=cell_of_row W2 xb 1 _ _ _ hr2;have d2:W2.cell? ⟨xb,2,none⟩=some (.bool (x2 !=0)):=cell_of_row W2 xb 2 _ _ _ hr2;have hcl:W2.cell? ⟨vb,3,none⟩=some (.slice A k c):=HW2.out.cell 3;have uC:=ae (bW W2 131 #[I x0,I x1, .bool (x2 !=0)] (Lr.cells (⟨x0,x1,x2 !=0⟩:Lr)) rfl);have rW:Hid (∀u∈Lr.cells (⟨x0,x1,x2 !=0⟩:Lr),u.oneCell'=true):=ae (by intro u hu;simp [Lr.cells] at hu;rcases hu with rfl|rfl|rfl<;>rfl);clear hr2;go_wp2_with (at_builtin;go_must (refine wpList_append_own_at _ rfl _ _ 48 rfl lb 131 j0 (.agg #[I 0,I 0, .bool false]) 3 24 Tryz.underlying48 hj hy0 hy1 hy2 rfl (by decide) _ _ _ rfl (HP2.out.alloc _) ⟨W2.heap.size,0,none⟩ 1 1 (Lr.cells (⟨x0,x1,x2 !=0⟩:Lr)) rfl rfl uC.out rW.out (by unfold maxLen;omega) (by omega) (by simp;omega) ?_));intro v' w6 hown6 hgrow6 _ eP;obtain ⟨g2,c2,rfl,hg2⟩:=fM hown6 (Nat.succ_pos _);have pV:=ae (HW2.out.grown HP2.out hlb hgrow6);have HQ6:=ae (iH.out.grown HP2.out hlq hgrow6);have qZ:=ae hown6;have hc66:w6.cell? ⟨vb,3,none⟩=some (.slice A k c):=pV.out.cell 3;have hf66:=pV.out.eY 3;clear hown6 hgrow6 eP d0 d1 d2 hcl;go_wp2_with fail;go_roundw
      case rel=>exact ⟨k+1,some ⟨g2,0,none⟩,c2,xs++ [(⟨x0,x1,x2 !=0⟩:Lr)],p2,by go_num,HI2.out,pV.out.store 3 (.slice (some ⟨g2,0,none⟩) (k+1) c2),by rw [List.flatMap_append];exact ownsRow_setCell_below (a:=⟨vb,3,none⟩) qZ.out hlb _,HQ6.out.store (b:=vb) (Nat.lt_succ_self _) _ _⟩
      case measure=>simp [intOf];omega
    ·have i2:¬(k:Int)<(m:Int):=by omega
     have hkn2:k=m:=by omega
     have HD:=ae (hkn2▸HIT.out).full;clear hkn2 hlt;go_wp2_with fail;go_meet;obtain ⟨e1,e2⟩:=Prod.mk.inj (H6.out.symm.trans HD.out);rw [e1,e2,HIT.out.len];exact ⟨A,c,HV.out,aK HO.out hlb,aN qZ.out HQ.out.2⟩
  case rest=>
   obtain ⟨B1,b1,hv,ho,ho2⟩:=hcut;have Cf:=ae hv;have EJ:=ae ho;have HO8:=ae ho2;clear hv ho ho2 pV qZ;obtain ⟨nr,hnr⟩:∃n,rs.length=n:=⟨_,rfl⟩;have EH:=ae hnr;rw [hnr] at Cf EJ;clear hnr;have HRW:=ae Cf.out.row;have Nl:=ae Cf.out.res;go_wp2_with (first
    |((with_reducible refine gz 50 ?_);go_must (refine aX rfl _ _ rfl vb rfl (jV ep (.slice A1 nm a1) lp (.slice B1 nr b1)) HRW.out _ Tryz.underlying50 rfl (ET _ _ _ _) ?_))
    |((with_reducible refine dS 50 ?_);go_must (refine wpList_store_row rfl _ _ _ rfl w.heap.size (jV ep (.slice A1 nm a1) lp (.slice B1 nr b1)) rfl rfl 50 DC Nl.out (ET _ _ _ _) rfl (RJ _ _ _ _ _ _ _ _) ?_)))
   have hfin:=Cf.out.done (jV ep (.slice A1 nm a1) lp (.slice B1 nr b1));have hlt:=Cf.out.lt;have S9:=JJ.out;have hsz:w.heap.size<vb:=by rw [←S9];exact Cf.out.mid
   refine bodyPost_ret (v:= .agg (jV ep (.slice A1 nm a1) lp (.slice B1 nr b1))) (results_cell_row rfl _ _ w.heap.size _ (jV ep (.slice A1 nm a1) lp (.slice B1 nr b1)) (0,0) _ rfl (setRow_heap _ _ _ _ _ _ Nl.out) Tryz.underlying50 rfl (ET _ _ _ _)) rfl ?_;unfold ZJ;rw [HF.out];have hle:∀b,vb+1≤b→b<wc.heap.size→(wc.setRow w.heap.size (jV ep (.slice A1 nm a1) lp (.slice B1 nr b1))).heap[b]? =wc.heap[b]? :=fun b h1 _=>setRow_other _ _ b _ (by omega);refine ⟨A1,a1,B1,b1,?_,hfin.1,hfin.2,?_,?_⟩
   ·simp only [aH,jV,zq.out,EH.out]
   ·simp only [zq.out];exact aK (aN HO8.out hle) (by omega)
   ·simp only [EH.out];exact aK (aN EJ.out hle) (by omega)
end Go.Proofs.YtbaehbbonkljpaaGreat
