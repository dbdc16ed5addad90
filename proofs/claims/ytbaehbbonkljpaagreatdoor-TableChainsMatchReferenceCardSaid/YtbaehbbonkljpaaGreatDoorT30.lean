/- The texts DgS, DgA, in this order. -/
import Derived.Test.YtbaehbbonkljpaaGreatDoorT29
set_option maxRecDepth 10000
set_option maxHeartbeats 8000000
namespace Go.Proofs.YtbaehbbonkljpaaGreatDoor
open Go Go.RowKit
def ai8 (x0 x1 x2 x3:Int):Int:=
 bits BinOp.or IntKind.u32 (bits BinOp.or IntKind.u32 (bits BinOp.or IntKind.u32 (IntKind.u32.wrap (IntKind.u32.wrap x0*16777216)) (IntKind.u32.wrap (IntKind.u32.wrap x1*65536))) (IntKind.u32.wrap (IntKind.u32.wrap x2*256))) (IntKind.u32.wrap x3)
def wIn (xs:ag au)(i:Nat):Int:=ai8 (xs[4*i]?.getD 0).toNat (xs[4*i+1]?.getD 0).toNat (xs[4*i+2]?.getD 0).toNat (xs[4*i+3]?.getD 0).toNat
def aaq (a x b y:Int):Int:=
 (a+bits BinOp.xor IntKind.u32 (bits BinOp.xor IntKind.u32 (Qg x (amt (-7))) (Qg x (amt (-18)))) (x / 8)+b+bits BinOp.xor IntKind.u32 (bits BinOp.xor IntKind.u32 (Qg y (amt (-17))) (Qg y (amt (-19)))) (y / 1024))%4294967296
def abP (zs:ag Int)(i:Nat):Int:=aaq (zs[i - 16]?.getD 0) (zs[i - 15]?.getD 0) (zs[i - 7]?.getD 0) (zs[i - 2]?.getD 0)
def NC (xs:ag au):Nat->ag Int
 |0=>List.replicate 64 0
 |i+1=>(NC xs i).set i (if i<16 then wIn xs i else abP (NC xs i) i)
theorem Q8 (xs:ag au)(i:Nat):(NC xs i).length=64:=by
 induction i with
 |zero=>simp[NC]
 |succ i ih=>simp[NC,ih]
structure ScS (w:ae)(zs:ag Int)(wr:ae):Prop where
 var:AV (w.heap.size+1) 190 (JP zs) wr
 res:AV w.heap.size 190 (JP (List.replicate 64 0)) wr
 lo:ai w.heap.size w wr
theorem ScS.start (w:ae)(xs:ag au):ScS w (NC xs 0) ((w.alloc (.cells (JP (List.replicate 64 0)) 190)).alloc (.cells (JP (List.replicate 64 0)) 190)):=
 ⟨⟨bW w _ _⟩,⟨dJ w _ _⟩,((aW _ w).alloc (ay _) _).alloc (by simp) _⟩
theorem ScS.drew {w wr:ae}{zs:ag Int}(h:ScS w zs wr):ScS w zs wr.drew:=⟨h.var.drew,h.res.drew,h.lo.drew⟩
theorem ScS.put {w wr:ae}{zs:ag Int}(h:ScS w zs wr)(i:Nat)(z:Int):ScS w (zs.set i z) (wr.setCell ⟨w.heap.size+1,i,none⟩ (.int .u32 z)):=
 ⟨by rw[<-Us];exact h.var.put i _,h.res.far (by omega) _ _,h.lo.setCell (p:=⟨w.heap.size+1,i,none⟩) (bV _) _⟩
theorem ScS.drewN {w wr:ae}{zs:ag Int}(h:ScS w zs wr)(n:Nat):ScS w zs (wr.drewN n):=⟨⟨h.var.var⟩,⟨h.res.var⟩,⟨h.lo.os,h.lo.tape,h.lo.output,h.lo.size,h.lo.block⟩⟩
theorem acC (w:ae)(bb off c:Nat)(xs:ag au)(hx:xs.length=64)(hb:bb<w.heap.size)(hA:∀j,j<64->w.cell? ⟨bb,off+j,none⟩=some (Extern.Stop.cell (xs[j]?.getD 0))):
  Calls Tryz.prog 118 #[.slice (some ⟨bb,off,none⟩) 64 c] w fun e w'=>e=.returned (.agg (JP (NC xs 64)))/\ai w.heap.size w w':=by
 have HX:=JJ hx;have HA:=JJ hA;have H0:=JJ (ScS.start w xs);clear hx hA;go_enter Tryz.func118,Tryz.ntmps118;go_wp2_with(refine JW rfl _ rfl (JP (List.replicate 64 0)) OA ?_)
 go_loopw [9] (fun i wr=>∃k:Nat,k<=64/\i=I k/\ScS w (NC xs k) wr) (fun i _=>64 - (intOf i).toNat)
 case atStart=>exact⟨0,aG _,rfl,H0.out⟩
 case round=>
  obtain⟨k,hk,rfl,hs⟩:=hrel;have HS:=JJ hs;have hlen:=Q8 xs k;have HL:=JJ hlen;clear H0 hs hlen;by_cases hlt:k<64
  ·have i1:(k:Int)<64:=by omega
   by_cases h16:k<16
   ·have i2:(k:Int)<16:=by omega
    obtain⟨p,hp⟩:∃p:Nat,4*k=p:=⟨_,rfl⟩;obtain⟨p1,hp1⟩:∃q:Nat,p+1=q:=⟨_,rfl⟩;obtain⟨p2,hp2⟩:∃q:Nat,p+2=q:=⟨_,rfl⟩;obtain⟨p3,hp3⟩:∃q:Nat,p+3=q:=⟨_,rfl⟩;have c0:wr.cell? ⟨bb,off+p,none⟩=some (Extern.Stop.cell (xs[p]?.getD 0)):=(HS.out.lo.cell (p:=⟨bb,off+p,none⟩) hb).trans (HA.out p (by omega));have c1:wr.cell? ⟨bb,off+p1,none⟩=some (Extern.Stop.cell (xs[p1]?.getD 0)):=(HS.out.lo.cell (p:=⟨bb,off+p1,none⟩) hb).trans (HA.out p1 (by omega));have c2:wr.cell? ⟨bb,off+p2,none⟩=some (Extern.Stop.cell (xs[p2]?.getD 0)):=(HS.out.lo.cell (p:=⟨bb,off+p2,none⟩) hb).trans (HA.out p2 (by omega));have c3:wr.cell? ⟨bb,off+p3,none⟩=some (Extern.Stop.cell (xs[p3]?.getD 0)):=(HS.out.lo.cell (p:=⟨bb,off+p3,none⟩) hb).trans (HA.out p3 (by omega));obtain⟨x0,e0⟩:∃x:Int,((xs[p]?.getD 0).toNat:Int)=x:=⟨_,rfl⟩;obtain⟨x1,e1⟩:∃x:Int,((xs[p1]?.getD 0).toNat:Int)=x:=⟨_,rfl⟩;obtain⟨x2,e2⟩:∃x:Int,((xs[p2]?.getD 0).toNat:Int)=x:=⟨_,rfl⟩;obtain⟨x3,e3⟩:∃x:Int,((xs[p3]?.getD 0).toNat:Int)=x:=⟨_,rfl⟩;replace c0:wr.cell? ⟨bb,off+p,none⟩=some (.int .u8 x0):=c0.trans (by rw[<-e0];rfl);replace c1:wr.cell? ⟨bb,off+p1,none⟩=some (.int .u8 x1):=c1.trans (by rw[<-e1];rfl);replace c2:wr.cell? ⟨bb,off+p2,none⟩=some (.int .u8 x2):=c2.trans (by rw[<-e2];rfl);replace c3:wr.cell? ⟨bb,off+p3,none⟩=some (.int .u8 x3):=c3.trans (by rw[<-e3];rfl);have g0:4*(k:Int)=(p:Int):=by omega
    have g1:(p:Int)+1=(p1:Int):=by omega
    have g2:(p:Int)+2=(p2:Int):=by omega
    have g3:(p:Int)+3=(p3:Int):=by omega
    have w0:IntKind.i64.wrap (p:Int)=(p:Int):=by rw[aA];omega
    have w1:IntKind.i64.wrap (p1:Int)=(p1:Int):=by rw[aA];omega
    have w2:IntKind.i64.wrap (p2:Int)=(p2:Int):=by rw[aA];omega
    have w3:IntKind.i64.wrap (p3:Int)=(p3:Int):=by rw[aA];omega
    have b0:(p:Int)<64:=by omega
    have b1:(p1:Int)<64:=by omega
    have b2:(p2:Int)<64:=by omega
    have b3:(p3:Int)<64:=by omega
    have HE:=JJ (And.intro (And.intro e0 e1) (And.intro e2 e3));have HP:=JJ (And.intro hp (And.intro hp1 (And.intro hp2 hp3)));clear e0 e1 e2 e3 hp hp1 hp2 hp3;obtain⟨z0,hz0⟩:∃z,(NC xs k)[k]?.getD 0=z:=⟨_,rfl⟩;have hv:wr.cell? ⟨w.heap.size+1,k,none⟩=some (.int .u32 z0):=(HS.out.var.cell k).trans (by rw[KT _ _ (by rw[HL.out];exact hlt),hz0]);have hf:=HS.out.var.Oo k;clear hz0;have HN:Hid (ScS w (NC xs (k+1)) (wr.drew.setCell ⟨w.heap.size+1,k,none⟩ (.int .u32 (ai8 x0 x1 x2 x3)))):=JJ (by
     have h:=HS.out.drew.put k (ai8 x0 x1 x2 x3);have e:ai8 x0 x1 x2 x3=wIn xs k:=by
      obtain⟨⟨e0,e1⟩,e2,e3⟩:=HE.out;obtain⟨q0,q1,q2,q3⟩:=HP.out;unfold wIn;rw[q0,q1,q2,q3,e0,e1,e2,e3]
     unfold NC;rw[bD h16];rw[e] at h⊢;exact h)
    go_wp2_with fail;go_still_tail 35,(by kernel_rfl);change wpList _ _ _ _ _ wr.drew;go_wp2_with fail;go_roundw
    case rel=>exact⟨k+1,by omega,by go_num,HN.out⟩
    case measure=>simp[intOf];omega
   ·have i2:¬(k:Int)<16:=by omega
    obtain⟨q16,akT⟩:∃q:Nat,k - 16=q:=⟨_,rfl⟩;obtain⟨q15,akS⟩:∃q:Nat,k - 15=q:=⟨_,rfl⟩;obtain⟨q7,hq7⟩:∃q:Nat,k - 7=q:=⟨_,rfl⟩;obtain⟨q2,hq2⟩:∃q:Nat,k - 2=q:=⟨_,rfl⟩;obtain⟨za,hza⟩:∃z,(NC xs k)[q16]?.getD 0=z:=⟨_,rfl⟩;obtain⟨zx,hzx⟩:∃z,(NC xs k)[q15]?.getD 0=z:=⟨_,rfl⟩;obtain⟨zb,hzb⟩:∃z,(NC xs k)[q7]?.getD 0=z:=⟨_,rfl⟩;obtain⟨zy,hzy⟩:∃z,(NC xs k)[q2]?.getD 0=z:=⟨_,rfl⟩;obtain⟨z0,hz0⟩:∃z,(NC xs k)[k]?.getD 0=z:=⟨_,rfl⟩;have hv:wr.cell? ⟨w.heap.size+1,k,none⟩=some (.int .u32 z0):=(HS.out.var.cell k).trans (by rw[KT _ _ (by rw[HL.out];exact hlt),hz0]);have va:wr.cell? ⟨w.heap.size+1,q16,none⟩=some (.int .u32 za):=(HS.out.var.cell q16).trans (by rw[KT _ _ (by rw[HL.out];omega),hza]);have vx:wr.cell? ⟨w.heap.size+1,q15,none⟩=some (.int .u32 zx):=(HS.out.var.cell q15).trans (by rw[KT _ _ (by rw[HL.out];omega),hzx]);have vb:wr.cell? ⟨w.heap.size+1,q7,none⟩=some (.int .u32 zb):=(HS.out.var.cell q7).trans (by rw[KT _ _ (by rw[HL.out];omega),hzb]);have vy:wr.cell? ⟨w.heap.size+1,q2,none⟩=some (.int .u32 zy):=(HS.out.var.cell q2).trans (by rw[KT _ _ (by rw[HL.out];omega),hzy]);have hf:=HS.out.var.Oo k;have g16:(k:Int) - 16=(q16:Int):=by omega
    have g15:(k:Int) - 15=(q15:Int):=by omega
    have g7:(k:Int) - 7=(q7:Int):=by omega
    have g2:(k:Int) - 2=(q2:Int):=by omega
    have b16:(q16:Int)<64:=by omega
    have b15:(q15:Int)<64:=by omega
    have b7:(q7:Int)<64:=by omega
    have b2:(q2:Int)<64:=by omega
    have w16:IntKind.i64.wrap (q16:Int)=(q16:Int):=by rw[aA];omega
    have w15:IntKind.i64.wrap (q15:Int)=(q15:Int):=by rw[aA];omega
    have w7:IntKind.i64.wrap (q7:Int)=(q7:Int):=by rw[aA];omega
    have w2:IntKind.i64.wrap (q2:Int)=(q2:Int):=by rw[aA];omega
    have HZ:=JJ (And.intro (And.intro hza hzx) (And.intro hzb hzy));have HP:=JJ (And.intro akT (And.intro akS (And.intro hq7 hq2)));clear hz0 hza hzx hzb hzy akT akS hq7 hq2;go_wp2_with fail;go_quiet (fail);obtain⟨W2,hW2⟩:∃W,wr.drewN nq=W:=⟨_,rfl⟩;have HS2:Hid (ScS w (NC xs k) W2):=JJ (by rw[<-hW2];exact HS.out.drewN nq);replace hv:W2.cell? ⟨w.heap.size+1,k,none⟩=some (.int .u32 z0):=by rw[<-hW2];exact hv
    replace va:W2.cell? ⟨w.heap.size+1,q16,none⟩=some (.int .u32 za):=by rw[<-hW2];exact va
    replace vb:W2.cell? ⟨w.heap.size+1,q7,none⟩=some (.int .u32 zb):=by rw[<-hW2];exact vb
    replace hf:=HS2.out.var.Oo k;rw[hW2];have HN:Hid (ScS w (NC xs (k+1)) (W2.drew.setCell ⟨w.heap.size+1,k,none⟩ (.int .u32 (aaq za zx zb zy)))):=JJ (by
     have h:=HS2.out.drew.put k (aaq za zx zb zy);have e:aaq za zx zb zy=abP (NC xs k) k:=by
      obtain⟨⟨e0,e1⟩,e2,e3⟩:=HZ.out;obtain⟨q0,q1,q2,q3⟩:=HP.out;unfold abP;rw[q0,q1,q2,q3,e0,e1,e2,e3]
     unfold NC;rw[bP h16];rw[e] at h⊢;exact h)
    clear hW2 vx vy;go_wp2_with(go_at_call 119;refine(af9 _ _ _ (by kernel_rfl)).mono ?_;rintro e wq ⟨rfl,hwq⟩;have hwq:=hwq.symm;subst hwq);go_still_tail 15,(by kernel_rfl);change wpList _ _ _ _ _ W2.drew;go_wp2_with fail;go_roundw
    case rel=>exact⟨k+1,by omega,by go_num,HN.out⟩
    case measure=>simp[intOf];omega
  ·have hke:k=64:=by omega
   subst hke;have HRW:Hid (MS wr (w.heap.size+1) (JP (NC xs 64))):=JJ ⟨HS.out.var.lt,HS.out.var.cell⟩;have L6:Hid ((Tryz.prog.info? 190).map (·.size)=some (JP (NC xs 64)).size):=JJ (by rw[KH,HL.out];kernel_rfl);have PT:Hid ((JP (List.replicate 64 0)).size=(JP (NC xs 64)).size):=JJ (by rw[KH,KH,HL.out];simp);go_wp2_with(first
    |(refine J3 rfl _ _ rfl (w.heap.size+1) rfl (JP (NC xs 64)) HRW.out _ iD rfl L6.out ?_)
    |(refine aB rfl _ _ _ rfl w.heap.size (JP (NC xs 64)) rfl rfl 190 (JP (List.replicate 64 0)) HS.out.res.var L6.out PT.out (KP _) ?_))
   refine aX (v:=.agg (JP (NC xs 64))) (dH rfl _ _ w.heap.size _ (JP (NC xs 64)) (0,0) _ rfl (aQ _ _ _ _ _ _ HS.out.res.var) iD rfl L6.out) rfl ?_;exact⟨rfl,JR HS.out.lo (ay _) _⟩
structure agV (b:Nat)(w w':ae):Prop where
 os:w'.os=w.os
 tape:w'.tape=w.tape
 output:w'.output=w.output
 size:w.heap.size<=w'.heap.size
 block:∀k,k<w.heap.size->k≠b->w'.heap[k]? =w.heap[k]?
theorem QC {P:Program}{ops:ax Oper}{Q:Exit->Act->ae->Prop}{md:Region.Mode}{S:ae->Prop}{i:Nat}{oi:Oper}{v:ah}{d:Tmp}{fuel:Nat}{listed:ax Bool}{a:Act}{w:ae}(hi:ops[i]? =some oi)(hd:oi.dst=some d)
  (hs:Region.noSelect ops=true)(hf:Region.free md ops listed i=true)(hr:(Region.ready md ops listed).contains i=true)
  (hQ:∀c a w,Q (.panic c) (a.put oi.dst v) w->Q (.panic c) a w)(hy:YieldsIf P ops S oi v a)(hS:S w)
  (h:wpAnyH P md ops Q S fuel (listed.setIfInBounds i true) (a.put (some d) v) w):wpAnyH P md ops Q S (fuel+1) listed a w:=
 wpAnyH_take hi hs hf hr hQ hy hS (by rw[hd];exact h)
theorem XW {P:Program}{ops:ax Oper}{S:ae->Prop}{op:Oper}{a:Act}(hw:Region.wanted op (yielded ops a.tmps)=true)(ty:TypeId)(x:Operand)(ho:op.op=.load ty x)
  (b:Nat)(hx:a.eval x=.pointer (some ⟨b,0,none⟩))(cs:ax ah)(d:TypeDesc)(hS:∀w,S w->MS w b cs)
  (hu:P.underlying ty=some d)(hd:d.isRow=true)(hi:(P.info? ty).map (·.size)=some cs.size):YieldsIf P ops S op (.agg cs) a:=by
 have:=bF (P:=P) (S:=S) hw ty x ho b 0 hx cs.toList d (fun w h=>fun j v hv=>by rw[aT,(hS w h).2 j];simpa using hv) hu hd (by rw[hi];simp);simpa using this
section
variable {P:Program}{ops:ax Oper}{o:Oper}{a:Act}{w:ae}{K:Act->ae->Prop}{Q:Exit->Act->ae->Prop}{E:Prop}
theorem MG (hgd:o.guard=none)(t:TypeId)(ho:o.op=.alloc t)(cells:ax ah)(hz:(P.info? t).map (fun i=>(i.zero,i.size))=some (some (.agg cells),cells.size))
  (h:K (a.put o.dst (.pointer (some ⟨w.heap.size,0,none⟩))) (w.alloc (.cells cells t))):if Region.wanted o (yielded ops a.tmps)=true then Oper.wp P o a w K Q else E:=by
 have hw:Region.wanted o (yielded ops a.tmps)=true:=by simp[Region.wanted,hgd]
 rw[bD hw];unfold Oper.wp execOp;simp only[ho,fH,Oi w t (.agg cells) _ hz,dX];exact h
theorem LP (hgd:o.guard=none)(ty:TypeId)(x y:Operand)(ho:o.op=.store ty x y)(g:Nat)(cells:ax ah)(hx:a.eval x=.pointer (some ⟨g,0,none⟩))(hy:a.eval y=.agg cells)
  (t:TypeId)(old:ax ah)(hg:w.heap[g]? =some (.cells old t (0,0)))(hi:(P.info? ty).map (·.size)=some cells.size)(hold:old.size=cells.size)(h1:cells.all (·.oneCell')=true)
  (h:K (a.put o.dst undef) (w.setRow g cells)):if Region.wanted o (yielded ops a.tmps)=true then Oper.wp P o a w K Q else E:=by
 have hw:Region.wanted o (yielded ops a.tmps)=true:=by simp[Region.wanted,hgd]
 rw[bD hw];exact pg ty x y ho g cells hx hy t old hg hi hold h1 h
end
theorem Qh:(Tryz.prog.info? 180).map (fun i=>(i.zero,i.size))=some (some (.agg (JP (List.replicate 8 0))),(JP (List.replicate 8 0)).size):=by kernel_rfl
structure AX (w:ae)(o4 o5:aj Nat)(W:ae):Prop where
 lo:ai w.heap.size w W
 v4:∀b,o4=some b->AV b 190 (JP (List.replicate 64 0)) W/\w.heap.size<=b
 v5:∀b,o5=some b->AV b 180 (JP (List.replicate 8 0)) W/\w.heap.size<=b
 ne:∀b c,o4=some b->o5=some c->b≠c
structure AY (w:ae)(cs:ax ah)(b c:Nat)(W:ae):Prop where
 lo:ai w.heap.size w W
 v4:AV b 190 cs W/\w.heap.size<=b
 v5:AV c 180 (JP (List.replicate 8 0)) W/\w.heap.size<=c
 ne:b≠c
structure AZ (w:ae)(cs ds:ax ah)(b c:Nat)(W:ae):Prop where
 lo:ai w.heap.size w W
 w4:AV b 190 cs W
 w5:AV c 180 ds W
 l4:w.heap.size<=b
 l5:w.heap.size<=c
 ne:b≠c
section
variable {w W W':ae}{o4 o5:aj Nat}{b c sb:Nat}{cs ds ss:ax ah}{t:TypeId}
theorem acz (lo:ai w.heap.size w W)(hs:AV sb t ss w):MS W sb ss:=⟨LK hs.lt lo.size,fun i=>(lo.cell (p:=⟨sb,i,none⟩) hs.lt).trans (hs.cell i)⟩
theorem AV.aAR (hs:AV sb t ss w)(lo:ai w.heap.size w W):AV sb t ss W:=⟨(lo.block _ hs.lt).trans hs.var⟩
theorem AX.row (h:AX w o4 o5 W)(hs:AV sb t ss w):MS W sb ss:=acz h.lo hs
theorem AY.row (h:AY w cs b c W)(hs:AV sb t ss w):MS W sb ss:=acz h.lo hs
theorem AZ.row (h:AZ w cs ds b c W)(hs:AV sb t ss w):MS W sb ss:=acz h.lo hs
theorem AX.call (h:AX w o4 o5 W)(hb:ai W.heap.size W W'):AX w o4 o5 W':=
 ⟨h.lo.trans (hb.mono h.lo.size),fun b e=>⟨(h.v4 b e).1.below hb,(h.v4 b e).2⟩,fun b e=>⟨(h.v5 b e).1.below hb,(h.v5 b e).2⟩,h.ne⟩
theorem AX.a4 (h:AX w none o5 W):AX w (some W.heap.size) o5 (W.alloc (.cells (JP (List.replicate 64 0)) 190)):=
 ⟨h.lo.trans ((JM W _).mono h.lo.size),fun b e=>by injection e with e;subst e;exact⟨AV.new W _ _,h.lo.size⟩,fun b e=>⟨(h.v5 b e).1.below (JM W _),(h.v5 b e).2⟩,fun b c e e'=>by
  injection e with e;subst e;have:=(h.v5 c e').1.lt;omega⟩
theorem AX.a5 (h:AX w o4 none W):AX w o4 (some W.heap.size) (W.alloc (.cells (JP (List.replicate 8 0)) 180)):=
 ⟨h.lo.trans ((JM W _).mono h.lo.size),fun b e=>⟨(h.v4 b e).1.below (JM W _),(h.v4 b e).2⟩,fun b e=>by injection e with e;subst e;exact⟨AV.new W _ _,h.lo.size⟩,fun b c e e'=>by
  injection e' with e';subst e';have:=(h.v4 b e).1.lt;omega⟩
theorem AV.row (h:AV b t cs W)(ds:ax ah):AV b t ds (W.setRow b ds):=⟨aQ _ _ _ _ _ _ h.var⟩
theorem AV.aga (h:AV b t cs W)(hn:b≠c)(ds:ax ah):AV b t cs (W.setRow c ds):=⟨(cZ _ _ b _ hn).trans h.var⟩
theorem AX.s4 (h:AX w (some b) (some c) W)(cs:ax ah):AY w cs b c (W.setRow b cs):=
 ⟨JR h.lo (h.v4 b rfl).2 _,⟨(h.v4 b rfl).1.row _,(h.v4 b rfl).2⟩,⟨(h.v5 c rfl).1.aga (fun e=>h.ne b c rfl rfl e.symm) _,(h.v5 c rfl).2⟩,h.ne b c rfl rfl⟩
theorem AY.s5 (h:AY w cs b c W)(ds:ax ah):AZ w cs ds b c (W.setRow c ds):=
 ⟨JR h.lo h.v5.2 _,h.v4.1.aga h.ne _,h.v5.1.row _,h.v4.2,h.v5.2,h.ne⟩
theorem AX.start (w:ae):AX w none none w.drew:=⟨(aW _ w).drew,(fun _ e=>nomatch e),(fun _ e=>nomatch e),(fun _ _ e=>nomatch e)⟩
end
def afa (w:ae)(ws st:ag Int)(p q:ah)(wx:ae):Prop:=
 ∃wb tb:Nat,p=.pointer (some ⟨wb,0,none⟩)/\q=.pointer (some ⟨tb,0,none⟩)/\wb≠tb/\w.heap.size<=wb/\w.heap.size<=tb/\AV wb 190 (JP ws) wx/\AV tb 180 (JP st) wx/\ai w.heap.size w wx
theorem aco (zs:ag Int)(hz:zs.length=64)(k:Nat)(hk:k<64)(w:ae):(Instr.index 190 (.agg (JP zs)) (.int .i64 (k:Int))).run Tryz.prog w=.ok (.int .u32 (zs[k]?.getD 0)) w:=by
 have h1:(0:Int)<=(k:Int):=by omega
 have h3:=KT zs k (by omega);simp[Instr.index,run_underlying Tryz.underlying190,asIntOf,h1,go_sem];simp[go_sem,h3];intro h;omega
structure AW (w:ae)(wb tb:Nat)(ws t:ag Int)(W:ae):Prop where
 v4:AV wb 190 (JP ws) W
 v5:AV tb 180 (JP t) W
 lo:ai w.heap.size w W
theorem AW.drew {w W:ae}{wb tb:Nat}{ws t:ag Int}(h:AW w wb tb ws t W):AW w wb tb ws t W.drew:=⟨h.v4.drew,h.v5.drew,h.lo.drew⟩
def xF (e f g h k wi:Int):Int:=
 IntKind.u32.wrap (IntKind.u32.wrap (IntKind.u32.wrap (IntKind.u32.wrap (h+bits BinOp.xor IntKind.u32 (bits BinOp.xor IntKind.u32 (Qg e (amt (-6))) (Qg e (amt (-11)))) (Qg e (amt (-25))))+bits BinOp.xor IntKind.u32 (bits BinOp.and IntKind.u32 e f) (bits BinOp.and IntKind.u32 (bits BinOp.xor IntKind.u32 (if IntKind.u32.signed=true then -1 else IntKind.u32.max) e) g))+k)+wi)
def yF (a b c:Int):Int:=
 IntKind.u32.wrap (bits BinOp.xor IntKind.u32 (bits BinOp.xor IntKind.u32 (Qg a (amt (-2))) (Qg a (amt (-13)))) (Qg a (amt (-22)))+bits BinOp.xor IntKind.u32 (bits BinOp.xor IntKind.u32 (bits BinOp.and IntKind.u32 a b) (bits BinOp.and IntKind.u32 a c)) (bits BinOp.and IntKind.u32 b c))
section
variable {P:Program}{ops:ax Oper}{Q:Exit->Act->ae->Prop}{a:Act}{w:ae}{rest:ag Oper}{d:aj Tmp}{t:TypeId}{pos:String}{af:ax Edge}{g:aj (Nat×Bool)}
theorem awj (ty:TypeId){x y:Operand}(h:wpList P ops Q (⟨d,.store ty x y,t,pos,af,g⟩::rest) a w):wpList P ops Q (⟨d,.store ty x y,t,pos,af,g⟩::rest) a w:=h
end
def Z9 (k wi:Int)(t:ag Int):ag Int:=
 match t with
 | [a,b,c,d,e,f,g,h]=> [(xF e f g h k wi+yF a b c)%4294967296,a,b,c,(d+xF e f g h k wi)%4294967296,e,f,g]
 |l=>l
theorem aa0 (k wi:Int)(t:ag Int)(h:t.length=8):(Z9 k wi t).length=8:=by
 match t,h with
 | [a,b,c,d,e,f,g,i],_=>rfl
def rT (KR ws st:ag Int):Nat->ag Int
 |0=>st
 |i+1=>Z9 (KR[i]?.getD 0) (ws[i]?.getD 0) (rT KR ws st i)
theorem XQ (KR ws st:ag Int)(h:st.length=8)(i:Nat):(rT KR ws st i).length=8:=by
 induction i with
 |zero=>exact h
 |succ i ih=>exact aa0 _ _ _ ih
def sumT (st t:ag Int):Nat->ag Int
 |0=>st
 |i+1=>(sumT st t i).set i (((st[i]?.getD 0)+(t[i]?.getD 0))%4294967296)
theorem Vk (st t:ag Int)(i:Nat):(sumT st t i).length=st.length:=by
 induction i with
 |zero=>rfl
 |succ i ih=>simp[sumT,ih]
theorem aeu (st t:ag Int)(i:Nat):∀j,i<=j->(sumT st t i)[j]? =st[j]? :=by
 induction i with
 |zero=>exact fun _ _=>rfl
 |succ i ih=>intro j hj;unfold sumT;rw[gQ (by omega)];exact ih j (by omega)
def Zr (KR st:ag Int)(xs:ag au):ag Int:=sumT st (rT KR (NC xs 64) st 64) 8
theorem eight {t:ag Int}(h:t.length=8):∃a b c d e f g i,t= [a,b,c,d,e,f,g,i]:=by
 match t,h with
 | [a,b,c,d,e,f,g,i],_=>exact⟨a,b,c,d,e,f,g,i,rfl⟩
theorem add_any (KR:ag Int)(hK:KR.length=64)(w:ae)(hG:MS w 0 (JP KR))(sb bb off c:Nat)(st:ag Int)(xs:ag au)(hst:st.length=8)(hs:AV sb 180 (JP st) w)(hx:xs.length=64)(hb:bb<w.heap.size)(hA:∀j,j<64->w.cell? ⟨bb,off+j,none⟩=some (Extern.Stop.cell (xs[j]?.getD 0))):
  Calls Tryz.prog 94 #[.pointer (some ⟨sb,0,none⟩),.slice (some ⟨bb,off,none⟩) 64 c] w fun e w'=>e=.returned (.tuple #[])/\AV sb 180 (JP (Zr KR st xs)) w'/\agV sb w w':=by
 have HSC:Hid (∀W,ai w.heap.size w W->Calls Tryz.prog 118 #[.slice (some ⟨bb,off,none⟩) 64 c] W fun e w'=>e=.returned (.agg (JP (NC xs 64)))/\ai W.heap.size W w'):=
  JJ fun W h=>acC W bb off c xs hx (LK hb h.size) fun j hj=>(h.cell (p:=⟨bb,off+j,none⟩) hb).trans (hA j hj)
 have hwl:=Q8 xs 64;obtain⟨ws,hws⟩:∃ws,NC xs 64=ws:=⟨_,rfl⟩;rw[hws] at HSC hwl;have HG:=JJ hG;have QJ:=JJ hK;clear hG hK;have SK:=JJ hs;have HST:=JJ hst;have HI4:Hid ((Tryz.prog.info? 190).map (·.size)=some (JP ws).size):=JJ (by rw[KH,hwl];kernel_rfl);have HI8:Hid ((Tryz.prog.info? 180).map (·.size)=some (JP st).size):=JJ (by rw[KH,hst];kernel_rfl);have HZ4:Hid ((JP (List.replicate 64 0)).size=(JP ws).size):=JJ (by rw[KH,KH,hwl];simp);have Zj:Hid ((JP (List.replicate 8 0)).size=(JP st).size):=JJ (by rw[KH,KH,hst];simp);have HWL:=JJ hwl;have HWS:=JJ hws;clear hs hst hx hA hwl hws;go_enter Tryz.func94,Tryz.ntmps94;go_upto_region 0 with fail
 go_cut [4,5] (fun p q wx=>afa w ws st p q wx)
 case first=>
  have hX0:=AX.start w;refine dG (S:=fun W=>MS W sb (JP st)) (by kernel_rfl) (hX0.row SK.out) (fun hH0=>?_);refine QC (i:=0) (v:= ?v0a) (d:=11) rfl rfl (by kernel_rfl) (by kernel_rfl) (by kernel_rfl) (fun _ _ _ h=>h) (Or.inl ⟨by rfl, ?aAL⟩) (by assumption) ?r0a
  case aAL=>intro w' hSw;clear hSw;first|(go_simp;done)|(go_simp;with_reducible rfl)
  refine KG ?_;refine QC (i:=2) (v:= ?v2a) (d:=13) rfl rfl (by kernel_rfl) (by kernel_rfl) (by kernel_rfl) (fun _ _ _ h=>h) (Or.inl ⟨by rfl, ?aAM⟩) (by assumption) ?r2a
  case aAM=>intro w' hSw;clear hSw;first|(go_simp;done)|(go_simp;with_reducible rfl)
  refine KG ?_;refine QC (i:=3) (v:= ?v3a) (d:=14) rfl rfl (by kernel_rfl) (by kernel_rfl) (by kernel_rfl) (fun _ _ _ h=>h) (Or.inl ⟨by rfl, ?aAN⟩) (by assumption) ?r3a
  case aAN=>intro w' hSw;clear hSw;first|(go_simp;done)|(go_simp;with_reducible rfl)
  refine KG ?_;refine QC (i:=4) (v:=.agg (JP st)) (d:=15) rfl rfl (by kernel_rfl) (by kernel_rfl) (by kernel_rfl) (fun _ _ _ h=>h) (XW rfl _ _ rfl sb rfl (JP st) _ (fun _ h=>h) Tryz.underlying180 rfl HI8.out) (by assumption) ?r4a;refine KG ?_;refine jH (rs:= [1,5,6]) (by kernel_rfl) (by simp) ?_;refine dV rfl (fun K hK=>?_) (dV rfl (fun K hK=>?_) (dV rfl (fun K hK=>?_) jq))
  ·go_simp;refine(HSC.out _ hX0.lo).mono ?_;rintro e w1 ⟨rfl,hb1⟩;have hX1:=hX0.call hb1;refine hK.out _ _ (hX1.row SK.out) (fun hHeld=>?_);clear hHeld hK K;refine KG ?_;refine Qz 5 6 (fun K hK=>?_) (fun K hK=>?_)
   ·refine MG (o:=⟨some 4,.alloc 190,_,_,_,none⟩) rfl 190 rfl (JP (List.replicate 64 0)) OA ?_;have hX2:=hX1.a4;refine hK.out _ _ (hX2.row SK.out) (fun hHeld=>?_);clear hHeld hK K;refine KG ?_;refine KX 6 (fun K hK=>?_);refine MG (o:=⟨some 5,.alloc 180,_,_,_,none⟩) rfl 180 rfl (JP (List.replicate 8 0)) Qh ?_;have hX3:=hX2.a5;refine hK.out _ _ (hX3.row SK.out) (fun hHeld=>?_);clear hHeld hK K;refine KG ?_;refine KX 7 (fun K hK=>?_);refine LP (o:=⟨none,.store 190 (.tmp 4) (.tmp 12),_,_,_,none⟩) rfl 190 _ _ rfl (w1.heap.size) (JP ws) rfl rfl 190 (JP (List.replicate 64 0)) (hX3.v4 _ rfl).1.var HI4.out HZ4.out (KP _) ?_;have hY:=hX3.s4 (JP ws);refine hK.out _ _ (hY.row SK.out) (fun hHeld=>?_);clear hHeld hK K;try simp only[Act.put]
    refine KX 8 (fun K hK=>?_);refine LP (o:=⟨none,.store 180 (.tmp 5) (.tmp 15),_,_,_,none⟩) rfl 180 _ _ rfl ((w1.alloc (.cells (JP (List.replicate 64 0)) 190)).heap.size) (JP st) rfl rfl 180 (JP (List.replicate 8 0)) hY.v5.1.var HI8.out Zj.out (KP _) ?_;have hV:=hY.s5 (JP st);refine hK.out _ _ (hV.row SK.out) (fun hHeld=>?_);clear hHeld hK K;try simp only[Act.put]
    refine dC (by kernel_rfl) ?_ _;clear hH0;have hcut:afa w ws st _ _ _:=⟨w1.heap.size,(w1.alloc (.cells (JP (List.replicate 64 0)) 190)).heap.size,rfl,rfl,hV.ne,hV.l4,hV.l5,hV.w4,hV.w5,hV.lo⟩;go_wp2_with fail;go_meet;exact hcut
   ·refine MG (o:=⟨some 5,.alloc 180,_,_,_,none⟩) rfl 180 rfl (JP (List.replicate 8 0)) Qh ?_;have hX4:=hX1.a5;refine hK.out _ _ (hX4.row SK.out) (fun hHeld=>?_);clear hHeld hK K;refine KG ?_;refine KX 5 (fun K hK=>?_);refine MG (o:=⟨some 4,.alloc 190,_,_,_,none⟩) rfl 190 rfl (JP (List.replicate 64 0)) OA ?_;have hX5:=hX4.a4;refine hK.out _ _ (hX5.row SK.out) (fun hHeld=>?_);clear hHeld hK K;refine KG ?_;refine KX 7 (fun K hK=>?_);refine LP (o:=⟨none,.store 190 (.tmp 4) (.tmp 12),_,_,_,none⟩) rfl 190 _ _ rfl ((w1.alloc (.cells (JP (List.replicate 8 0)) 180)).heap.size) (JP ws) rfl rfl 190 (JP (List.replicate 64 0)) (hX5.v4 _ rfl).1.var HI4.out HZ4.out (KP _) ?_;have hY:=hX5.s4 (JP ws);refine hK.out _ _ (hY.row SK.out) (fun hHeld=>?_);clear hHeld hK K;try simp only[Act.put]
    refine KX 8 (fun K hK=>?_);refine LP (o:=⟨none,.store 180 (.tmp 5) (.tmp 15),_,_,_,none⟩) rfl 180 _ _ rfl (w1.heap.size) (JP st) rfl rfl 180 (JP (List.replicate 8 0)) hY.v5.1.var HI8.out Zj.out (KP _) ?_;have hV:=hY.s5 (JP st);refine hK.out _ _ (hV.row SK.out) (fun hHeld=>?_);clear hHeld hK K;try simp only[Act.put]
    refine dC (by kernel_rfl) ?_ _;clear hH0;have hcut:afa w ws st _ _ _:=⟨(w1.alloc (.cells (JP (List.replicate 8 0)) 180)).heap.size,w1.heap.size,rfl,rfl,hV.ne,hV.l4,hV.l5,hV.w4,hV.w5,hV.lo⟩;go_wp2_with fail;go_meet;exact hcut
  ·refine MG (o:=⟨some 4,.alloc 190,_,_,_,none⟩) rfl 190 rfl (JP (List.replicate 64 0)) OA ?_;have hX6:=hX0.a4;refine hK.out _ _ (hX6.row SK.out) (fun hHeld=>?_);clear hHeld hK K;refine KG ?_;refine Qz 1 6 (fun K hK=>?_) (fun K hK=>?_)
   ·go_simp;refine(HSC.out _ hX6.lo).mono ?_;rintro e w7 ⟨rfl,hb7⟩;have hX7:=hX6.call hb7;refine hK.out _ _ (hX7.row SK.out) (fun hHeld=>?_);clear hHeld hK K;refine KG ?_;refine KX 6 (fun K hK=>?_);refine MG (o:=⟨some 5,.alloc 180,_,_,_,none⟩) rfl 180 rfl (JP (List.replicate 8 0)) Qh ?_;have hX8:=hX7.a5;refine hK.out _ _ (hX8.row SK.out) (fun hHeld=>?_);clear hHeld hK K;refine KG ?_;refine KX 7 (fun K hK=>?_);refine LP (o:=⟨none,.store 190 (.tmp 4) (.tmp 12),_,_,_,none⟩) rfl 190 _ _ rfl (w.drew.heap.size) (JP ws) rfl rfl 190 (JP (List.replicate 64 0)) (hX8.v4 _ rfl).1.var HI4.out HZ4.out (KP _) ?_;have hY:=hX8.s4 (JP ws);refine hK.out _ _ (hY.row SK.out) (fun hHeld=>?_);clear hHeld hK K;try simp only[Act.put]
    refine KX 8 (fun K hK=>?_);refine LP (o:=⟨none,.store 180 (.tmp 5) (.tmp 15),_,_,_,none⟩) rfl 180 _ _ rfl (w7.heap.size) (JP st) rfl rfl 180 (JP (List.replicate 8 0)) hY.v5.1.var HI8.out Zj.out (KP _) ?_;have hV:=hY.s5 (JP st);refine hK.out _ _ (hV.row SK.out) (fun hHeld=>?_);clear hHeld hK K;try simp only[Act.put]
    refine dC (by kernel_rfl) ?_ _;clear hH0;have hcut:afa w ws st _ _ _:=⟨w.drew.heap.size,w7.heap.size,rfl,rfl,hV.ne,hV.l4,hV.l5,hV.w4,hV.w5,hV.lo⟩;go_wp2_with fail;go_meet;exact hcut
   ·refine MG (o:=⟨some 5,.alloc 180,_,_,_,none⟩) rfl 180 rfl (JP (List.replicate 8 0)) Qh ?_;have hX9:=hX6.a5;refine hK.out _ _ (hX9.row SK.out) (fun hHeld=>?_);clear hHeld hK K;refine KG ?_;refine KX 1 (fun K hK=>?_);go_simp;refine(HSC.out _ hX9.lo).mono ?_;rintro e w10 ⟨rfl,ack⟩;have arO:AX w (some w.heap.size) (some (w.heap.size+1)) w10:=by have h:=hX9.call ack;rw[show(World.alloc w.drew _).heap.size=w.heap.size+1 by simp] at h;exact h
    refine hK.out _ _ (arO.row SK.out) (fun hHeld=>?_);clear hHeld hK K;refine KG ?_;refine KX 7 (fun K hK=>?_);refine LP (o:=⟨none,.store 190 (.tmp 4) (.tmp 12),_,_,_,none⟩) rfl 190 _ _ rfl (w.heap.size) (JP ws) rfl rfl 190 (JP (List.replicate 64 0)) (arO.v4 _ rfl).1.var HI4.out HZ4.out (KP _) ?_;have hY:=arO.s4 (JP ws);refine hK.out _ _ (hY.row SK.out) (fun hHeld=>?_);clear hHeld hK K;try simp only[Act.put]
    refine KX 8 (fun K hK=>?_);refine LP (o:=⟨none,.store 180 (.tmp 5) (.tmp 15),_,_,_,none⟩) rfl 180 _ _ rfl ((w.heap.size+1)) (JP st) rfl rfl 180 (JP (List.replicate 8 0)) hY.v5.1.var HI8.out Zj.out (KP _) ?_;have hV:=hY.s5 (JP st);refine hK.out _ _ (hV.row SK.out) (fun hHeld=>?_);clear hHeld hK K;try simp only[Act.put]
    refine dC (by kernel_rfl) ?_ _;clear hH0;have hcut:afa w ws st _ _ _:=⟨w.heap.size,(w.heap.size+1),rfl,rfl,hV.ne,hV.l4,hV.l5,hV.w4,hV.w5,hV.lo⟩;go_wp2_with fail;go_meet;exact hcut
  ·refine MG (o:=⟨some 5,.alloc 180,_,_,_,none⟩) rfl 180 rfl (JP (List.replicate 8 0)) Qh ?_;have anR:=hX0.a5;refine hK.out _ _ (anR.row SK.out) (fun hHeld=>?_);clear hHeld hK K;refine KG ?_;refine Qz 1 5 (fun K hK=>?_) (fun K hK=>?_)
   ·go_simp;refine(HSC.out _ anR.lo).mono ?_;rintro e w12 ⟨rfl,aiq⟩;have awr:=anR.call aiq;refine hK.out _ _ (awr.row SK.out) (fun hHeld=>?_);clear hHeld hK K;refine KG ?_;refine KX 5 (fun K hK=>?_);refine MG (o:=⟨some 4,.alloc 190,_,_,_,none⟩) rfl 190 rfl (JP (List.replicate 64 0)) OA ?_;have arP:=awr.a4;refine hK.out _ _ (arP.row SK.out) (fun hHeld=>?_);clear hHeld hK K;refine KG ?_;refine KX 7 (fun K hK=>?_);refine LP (o:=⟨none,.store 190 (.tmp 4) (.tmp 12),_,_,_,none⟩) rfl 190 _ _ rfl (w12.heap.size) (JP ws) rfl rfl 190 (JP (List.replicate 64 0)) (arP.v4 _ rfl).1.var HI4.out HZ4.out (KP _) ?_;have hY:=arP.s4 (JP ws);refine hK.out _ _ (hY.row SK.out) (fun hHeld=>?_);clear hHeld hK K;try simp only[Act.put]
    refine KX 8 (fun K hK=>?_);refine LP (o:=⟨none,.store 180 (.tmp 5) (.tmp 15),_,_,_,none⟩) rfl 180 _ _ rfl (w.drew.heap.size) (JP st) rfl rfl 180 (JP (List.replicate 8 0)) hY.v5.1.var HI8.out Zj.out (KP _) ?_;have hV:=hY.s5 (JP st);refine hK.out _ _ (hV.row SK.out) (fun hHeld=>?_);clear hHeld hK K;try simp only[Act.put]
    refine dC (by kernel_rfl) ?_ _;clear hH0;have hcut:afa w ws st _ _ _:=⟨w12.heap.size,w.drew.heap.size,rfl,rfl,hV.ne,hV.l4,hV.l5,hV.w4,hV.w5,hV.lo⟩;go_wp2_with fail;go_meet;exact hcut
   ·refine MG (o:=⟨some 4,.alloc 190,_,_,_,none⟩) rfl 190 rfl (JP (List.replicate 64 0)) OA ?_;have arQ:=anR.a4;refine hK.out _ _ (arQ.row SK.out) (fun hHeld=>?_);clear hHeld hK K;refine KG ?_;refine KX 1 (fun K hK=>?_);go_simp;refine(HSC.out _ arQ.lo).mono ?_;rintro e w15 ⟨rfl,aAg⟩;have arR:AX w (some (w.heap.size+1)) (some w.heap.size) w15:=by have h:=arQ.call aAg;rw[show(World.alloc w.drew _).heap.size=w.heap.size+1 by simp] at h;exact h
    refine hK.out _ _ (arR.row SK.out) (fun hHeld=>?_);clear hHeld hK K;refine KG ?_;refine KX 7 (fun K hK=>?_);refine LP (o:=⟨none,.store 190 (.tmp 4) (.tmp 12),_,_,_,none⟩) rfl 190 _ _ rfl ((w.heap.size+1)) (JP ws) rfl rfl 190 (JP (List.replicate 64 0)) (arR.v4 _ rfl).1.var HI4.out HZ4.out (KP _) ?_;have hY:=arR.s4 (JP ws);refine hK.out _ _ (hY.row SK.out) (fun hHeld=>?_);clear hHeld hK K;try simp only[Act.put]
    refine KX 8 (fun K hK=>?_);refine LP (o:=⟨none,.store 180 (.tmp 5) (.tmp 15),_,_,_,none⟩) rfl 180 _ _ rfl (w.heap.size) (JP st) rfl rfl 180 (JP (List.replicate 8 0)) hY.v5.1.var HI8.out Zj.out (KP _) ?_;have hV:=hY.s5 (JP st);refine hK.out _ _ (hV.row SK.out) (fun hHeld=>?_);clear hHeld hK K;try simp only[Act.put]
    refine dC (by kernel_rfl) ?_ _;clear hH0;have hcut:afa w ws st _ _ _:=⟨(w.heap.size+1),w.heap.size,rfl,rfl,hV.ne,hV.l4,hV.l5,hV.w4,hV.w5,hV.lo⟩;go_wp2_with fail;go_meet;exact hcut
 case rest=>
  obtain⟨wb,tb,rfl,rfl,hne,hl4,hl5,hv4,hv5,hlo⟩:=hcut;have HLO:=JJ hlo;have HV4:=JJ hv4;have HV5:=JJ hv5;have HGC:Hid (MS wc 0 (JP KR)):=JJ ⟨LK HG.out.1 hlo.size,fun i=>(hlo.cell (p:=⟨0,i,none⟩) HG.out.1).trans (HG.out.2 i)⟩;have HIK:Hid ((Tryz.prog.info? 190).map (·.size)=some (JP KR).size):=JJ (by rw[KH,QJ.out];kernel_rfl);clear hv4 hv5 hlo HSC HI4 HZ4 Zj;go_wp2_with(refine J3 rfl _ _ rfl 0 rfl (JP KR) HGC.out _ iD rfl HIK.out ?_)
  go_loopw [17] (fun i wr=>∃k:Nat,k<=64/\i=I k/\AV wb 190 (JP ws) wr/\AV tb 180 (JP (rT KR ws st k)) wr/\ai w.heap.size w wr) (fun i _=>64 - (intOf i).toNat)
  case atStart=>exact⟨0,aG _,rfl,HV4.out,HV5.out,HLO.out⟩
  case round=>
   obtain⟨k,hk,rfl,hw,ht,hlo⟩:=hrel;have HW:=JJ hw;have HT:=JJ ht;have HL:=JJ hlo;have hlen:=XQ KR ws st HST.out k;clear hw ht hlo HV4 HV5 HLO;by_cases hlt:k<64
   ·have i1:(k:Int)<64:=by omega
    obtain⟨t0,t1,t2,t3,t4,t5,t6,t7,he⟩:=eight hlen;have HE:=JJ he;have hct:=HT.out.cell;rw[he] at hct;have c0:wr.cell? ⟨tb,0,none⟩=some (.int .u32 t0):=hct 0;have c1:wr.cell? ⟨tb,1,none⟩=some (.int .u32 t1):=hct 1;have c2:wr.cell? ⟨tb,2,none⟩=some (.int .u32 t2):=hct 2;have c3:wr.cell? ⟨tb,3,none⟩=some (.int .u32 t3):=hct 3;have c4:wr.cell? ⟨tb,4,none⟩=some (.int .u32 t4):=hct 4;have c5:wr.cell? ⟨tb,5,none⟩=some (.int .u32 t5):=hct 5;have c6:wr.cell? ⟨tb,6,none⟩=some (.int .u32 t6):=hct 6;have c7:wr.cell? ⟨tb,7,none⟩=some (.int .u32 t7):=hct 7;obtain⟨kk,hkk⟩:∃z,KR[k]?.getD 0=z:=⟨_,rfl⟩;obtain⟨wi,hwi⟩:∃z,ws[k]?.getD 0=z:=⟨_,rfl⟩;have hix:∀W,(Instr.index 190 (.agg (JP KR)) (.int .i64 (k:Int))).run Tryz.prog W=.ok (.int .u32 kk) W:=fun W=>by rw[aco KR QJ.out k hlt W,hkk]
    have hcw:wr.cell? ⟨wb,k,none⟩=some (.int .u32 wi):=(HW.out.cell k).trans (by rw[KT _ _ (by rw[HWL.out];exact hlt),hwi]);have HKK:=JJ (And.intro hkk hwi);have HAW:Hid (AW w wb tb ws [t0,t1,t2,t3,t4,t5,t6,t7] wr):=JJ ⟨HW.out,by rw[<-he];exact HT.out,HL.out⟩;clear hct hkk hwi hlen he;go_upto_region 4 with fail
    go_cut [8] (fun p wx=>p=.int .u32 (xF t4 t5 t6 t7 kk wi)/\AW w wb tb ws [t0,t1,t2,t3,t4,t5,t6,t7] wx)
    case first=>
     refine wp_region_still_lit (by kernel_rfl) (by kernel_rfl) ?_;repeat (first|still_step|still_call (af9 _ _ _ (by kernel_rfl)))
     refine nP ?_;rename_i J K1 hJ hmet;refine hmet _ _ (Met.intro (hJ _ _ ?_));repeat apply Exists.intro
     refine⟨?rel,rfl⟩
     case rel=>exact⟨rfl,HAW.out.drew⟩
    case rest=>
     obtain⟨rfl,haw⟩:=hcut;obtain⟨X,hX⟩:∃z,xF t4 t5 t6 t7 kk wi=z:=⟨_,rfl⟩;rw[hX];have HXX:=JJ hX;clear hX c0 c1 c2 c3 c4 c5 c6 c7 hix hcw HAW;have HAW:=JJ haw;have c0:wc.cell? ⟨tb,0,none⟩=some (.int .u32 t0):=haw.v5.cell 0;have c1:wc.cell? ⟨tb,1,none⟩=some (.int .u32 t1):=haw.v5.cell 1;have c2:wc.cell? ⟨tb,2,none⟩=some (.int .u32 t2):=haw.v5.cell 2;have c3:wc.cell? ⟨tb,3,none⟩=some (.int .u32 t3):=haw.v5.cell 3;have c4:wc.cell? ⟨tb,4,none⟩=some (.int .u32 t4):=haw.v5.cell 4;have c5:wc.cell? ⟨tb,5,none⟩=some (.int .u32 t5):=haw.v5.cell 5;have c6:wc.cell? ⟨tb,6,none⟩=some (.int .u32 t6):=haw.v5.cell 6;have c7:wc.cell? ⟨tb,7,none⟩=some (.int .u32 t7):=haw.v5.cell 7;clear haw;go_upto_region 5 with fail
     go_cut [9] (fun p wx=>p=.int .u32 (yF t0 t1 t2)/\AW w wb tb ws [t0,t1,t2,t3,t4,t5,t6,t7] wx)
     case first=>
      refine wp_region_still_lit (by kernel_rfl) (by kernel_rfl) ?_;repeat (first|still_step|still_call (af9 _ _ _ (by kernel_rfl)))
      refine nP ?_;rename_i J K1 hJ hmet;refine hmet _ _ (Met.intro (hJ _ _ ?_));repeat apply Exists.intro
      refine⟨?rel,rfl⟩
      case rel=>exact⟨rfl,HAW.out.drew⟩
     case rest=>
      clear c0 c1 c2 c3 c4 c5 c6 c7 HAW;obtain⟨rfl,haw⟩:=hcut;obtain⟨Y,hY⟩:∃z,yF t0 t1 t2=z:=⟨_,rfl⟩;rw[hY];have HYY:=JJ hY;clear hY;have HAW:=JJ haw;have c0:wc.cell? ⟨tb,0,none⟩=some (.int .u32 t0):=haw.v5.cell 0;have c1:wc.cell? ⟨tb,1,none⟩=some (.int .u32 t1):=haw.v5.cell 1;have c2:wc.cell? ⟨tb,2,none⟩=some (.int .u32 t2):=haw.v5.cell 2;have c3:wc.cell? ⟨tb,3,none⟩=some (.int .u32 t3):=haw.v5.cell 3;have c4:wc.cell? ⟨tb,4,none⟩=some (.int .u32 t4):=haw.v5.cell 4;have c5:wc.cell? ⟨tb,5,none⟩=some (.int .u32 t5):=haw.v5.cell 5;have c6:wc.cell? ⟨tb,6,none⟩=some (.int .u32 t6):=haw.v5.cell 6;have c7:wc.cell? ⟨tb,7,none⟩=some (.int .u32 t7):=haw.v5.cell 7;clear haw;have HI9:Hid ((Tryz.prog.info? 180).map (·.size)=some (JP [(X+Y)%4294967296,t0,t1,t2,(t3+X)%4294967296,t4,t5,t6]).size):=JJ (by kernel_rfl);go_wp2_with(with_reducible refine awj 180 ?_;refine aB rfl _ _ _ rfl tb (JP [(X+Y)%4294967296,t0,t1,t2,(t3+X)%4294967296,t4,t5,t6]) rfl rfl 180 (JP [t0,t1,t2,t3,t4,t5,t6,t7]) HAW.out.v5.var HI9.out rfl (KP _) ?_);go_roundw
      case rel=>exact⟨k+1,by omega,by go_num,(HAW.out.v4.aga hne _),by
       have h:=HAW.out.v5.row (JP [(X+Y)%4294967296,t0,t1,t2,(t3+X)%4294967296,t4,t5,t6]);have e:rT KR ws st (k+1)= [(X+Y)%4294967296,t0,t1,t2,(t3+X)%4294967296,t4,t5,t6]:=by
        unfold rT;rw[HE.out,HKK.out.1,HKK.out.2,<-HXX.out,<-HYY.out];rfl
       rw[e];exact h,JR HAW.out.lo hl5 _⟩
      case measure=>simp[intOf];omega
   ·have Y9:Hid (k=64):=JJ (by omega);obtain⟨T,hT⟩:∃T,rT KR ws st k=T:=⟨_,rfl⟩;rw[hT] at HT hlen;have HTT:=JJ hT;have UG:=JJ hlen;have Uc:Hid (AV sb 180 (JP (sumT st T 0)) wr):=JJ (SK.out.aAR HL.out);have aEv:=SK.out.lt;have i1:¬(k:Int)<64:=by omega
    have i2:((k:Int)<64)=False:=by simp;omega
    clear hT hlen hlt;go_wp2_with fail
    go_loopw [104] (fun i wx=>∃j:Nat,j<=8/\i=I j/\AV sb 180 (JP (sumT st T j)) wx/\AV tb 180 (JP T) wx/\agV sb w wx) (fun i _=>8 - (intOf i).toNat)
    case atStart=>exact⟨0,aG _,rfl,Uc.out,HT.out,⟨HL.out.os,HL.out.tape,HL.out.output,HL.out.size,fun q h1 _=>HL.out.block q h1⟩⟩
    case round=>
     obtain⟨j,hj,rfl,hsv,htv,hkp⟩:=hrel;have HSV:=JJ hsv;have HTV:=JJ htv;have HKP:=JJ hkp;have HSL:=JJ (Vk st T j);clear Uc hsv htv hkp;by_cases hlt2:j<8
     ·have j1:(j:Int)<8:=by omega
      have j0:(0:Int)<=(j:Int):=by omega
      obtain⟨sj,hsj⟩:∃z,st[j]?.getD 0=z:=⟨_,rfl⟩;obtain⟨tj,htj⟩:∃z,T[j]?.getD 0=z:=⟨_,rfl⟩;have cs:wr.cell? ⟨sb,j,none⟩=some (.int .u32 sj):=(HSV.out.cell j).trans (by rw[KT _ _ (by rw[HSL.out,HST.out];exact hlt2),aeu st T j j (ay _),hsj]);have ct:wr.cell? ⟨tb,j,none⟩=some (.int .u32 tj):=(HTV.out.cell j).trans (by rw[KT _ _ (by rw[UG.out];exact hlt2),htj]);have cf:=HSV.out.Oo j;have YL:Hid (AV sb 180 (JP (sumT st T (j+1))) (wr.drew.setCell ⟨sb,j,none⟩ (.int .u32 ((sj+tj)%4294967296)))):=JJ (by
       have h:=HSV.out.drew.put j (.int .u32 ((sj+tj)%4294967296));rw[Us] at h;unfold sumT;rw[hsj,htj];exact h)
      clear hsj htj;go_wp2_with fail;go_still_tail 11,(by kernel_rfl);change wpList _ _ _ _ _ wr.drew;go_wp2_with fail;go_roundw
      case rel=>exact⟨j+1,by omega,by go_num,YL.out,(HTV.out.drew.far (by omega) _ _),⟨HKP.out.os,HKP.out.tape,HKP.out.output,by have:=HKP.out.size;simpa[World.setCell] using this,fun q h1 h2=>(aN wr.drew ⟨sb,j,none⟩ q _ h2).trans (HKP.out.block q h1 h2)⟩⟩
      case measure=>simp[intOf];omega
     ·have HJE:Hid (j=8):=JJ (by omega);have j1:¬(j:Int)<8:=by omega
      have j2:((j:Int)<8)=False:=by simp;omega
      clear hlt2;go_wp2_with fail
      go_end0
      refine⟨rfl,?_,HKP.out⟩;have h:=HSV.out;rw[HJE.out,<-HTT.out,Y9.out,<-HWS.out] at h;exact h
end Go.Proofs.YtbaehbbonkljpaaGreatDoor
