/- The texts Eb, Ec, Ed, in this order. -/
import Derived.Test.YtbaehbbonkljpaaGreatDoorT32
set_option maxRecDepth 10000
set_option maxHeartbeats 8000000
namespace Go.Proofs.YtbaehbbonkljpaaGreatDoor
open Go Go.RowKit
theorem ScY.to {w W:ae}{zs zs':ag Int}(h:ScY w zs W)(e:zs=zs'):ScY w zs' W:=e▸h
theorem asP {xs:ag au}{zs:ag Int}{k:Nat}{x0 x1 x2 x3:Int}(h:zs=NC xs k)(hk:k<16)(e0:((xs[4*k]?.getD 0).toNat:Int)=x0)(e1:((xs[4*k+1]?.getD 0).toNat:Int)=x1)(e2:((xs[4*k+2]?.getD 0).toNat:Int)=x2)(e3:((xs[4*k+3]?.getD 0).toNat:Int)=x3):
  zs.set k ((x0%4294967296*16777216+x1%4294967296*65536+x2%4294967296*256+x3)%4294967296)=NC xs (k+1):=by
 show _=(NC xs k).set k (if k<16 then wIn xs k else abP (NC xs k) k);have b0:=MI (xs[4*k]?.getD 0);have b1:=MI (xs[4*k+1]?.getD 0);have b2:=MI (xs[4*k+2]?.getD 0);have b3:=MI (xs[4*k+3]?.getD 0);rw[bD hk,h];unfold wIn;rw[al2 _ _ _ _ (by omega) (by omega) (by omega) (by omega) (by omega) (by omega) (by omega) (by omega),e0,e1,e2,e3];congr 1;omega
theorem alF {xs:ag au}{zs:ag Int}{k:Nat}{za zx zb zy:Int}(h:zs=NC xs k)(hk:16<=k)(e0:zs[k - 16]?.getD 0=za)(e1:zs[k - 15]?.getD 0=zx)(e2:zs[k - 7]?.getD 0=zb)(e3:zs[k - 2]?.getD 0=zy):
  zs.set k ((((za+bits BinOp.xor IntKind.u32 (bits BinOp.xor IntKind.u32 (MC zx 7) (MC zx 18)) (zx / 8))%4294967296+zb)%4294967296+bits BinOp.xor IntKind.u32 (bits BinOp.xor IntKind.u32 (MC zy 17) (MC zy 19)) (zy / 1024))%4294967296)=NC xs (k+1):=by
 show _=(NC xs k).set k (if k<16 then wIn xs k else abP (NC xs k) k);rw[bP (by omega),<-h];unfold abP aaq;rw[e0,e1,e2,e3,tr7,aA2,aA1,aA3];congr 1;generalize bits BinOp.xor IntKind.u32 (bits BinOp.xor IntKind.u32 (Qg zx (amt (-7))) (Qg zx (amt (-18)))) (zx / 8)=X;generalize bits BinOp.xor IntKind.u32 (bits BinOp.xor IntKind.u32 (Qg zy (amt (-17))) (Qg zy (amt (-19)))) (zy / 1024)=Y;omega
theorem akt (w:ae)(bb off c:Nat)(xs:ag au)(hx:xs.length=64)(hb:bb<w.heap.size)(hA:∀j,j<64->w.cell? ⟨bb,off+j,none⟩=some (Extern.Stop.cell (xs[j]?.getD 0))):
  Calls Tryz.prog 100 #[.slice (some ⟨bb,off,none⟩) 64 c] w fun e w'=>e=.returned (.agg (JP (NC xs 64)))/\ai w.heap.size w w':=by
 have HX:=JJ hx;have HA:=JJ hA;clear hx hA;have hi0:=OA;obtain⟨z64,aaY⟩:∃l:ag Int,List.replicate 64 0=l:=⟨_,rfl⟩;rw[aaY] at hi0;have HI0:=JJ hi0;have HZ:=JJ aaY;have HZL:Hid (z64.length=64):=JJ (by rw[<-aaY];rfl);have L6:Hid ((Tryz.prog.info? 190).map (·.size)=some (JP z64).size):=JJ (by rw[KH,HZL.out];kernel_rfl);have aza:Hid (Value.agg (JP z64)=.agg #[.int .u32 0,.int .u32 0,.int .u32 0,.int .u32 0,.int .u32 0,.int .u32 0,.int .u32 0,.int .u32 0,.int .u32 0,.int .u32 0,.int .u32 0,.int .u32 0,.int .u32 0,.int .u32 0,.int .u32 0,.int .u32 0,.int .u32 0,.int .u32 0,.int .u32 0,.int .u32 0,.int .u32 0,.int .u32 0,.int .u32 0,.int .u32 0,.int .u32 0,.int .u32 0,.int .u32 0,.int .u32 0,.int .u32 0,.int .u32 0,.int .u32 0,.int .u32 0,.int .u32 0,.int .u32 0,.int .u32 0,.int .u32 0,.int .u32 0,.int .u32 0,.int .u32 0,.int .u32 0,.int .u32 0,.int .u32 0,.int .u32 0,.int .u32 0,.int .u32 0,.int .u32 0,.int .u32 0,.int .u32 0,.int .u32 0,.int .u32 0,.int .u32 0,.int .u32 0,.int .u32 0,.int .u32 0,.int .u32 0,.int .u32 0,.int .u32 0,.int .u32 0,.int .u32 0,.int .u32 0,.int .u32 0,.int .u32 0,.int .u32 0,.int .u32 0]):=JJ (by rw[<-aaY];rfl);clear hi0 aaY;go_enter Tryz.func100,Tryz.ntmps100;go_wp2_with(first
  |(refine JW rfl _ rfl (JP z64) HI0.out ?_)
  |((with_reducible refine KZ 190 ?_);refine aB rfl _ _ _ rfl (w.alloc (.cells (JP z64) 190)).heap.size (JP z64) rfl aza.out.symm 190 (JP z64) (aF _ _) L6.out rfl (KP _) ?_))
 have H0:Hid (ScY w z64 (((w.alloc (.cells (JP z64) 190)).alloc (.cells (JP z64) 190)).setRow (w.heap.size+1) (JP z64))):=JJ ⟨⟨aQ _ _ _ _ _ _ (bW w _ _)⟩,⟨by rw[HZ.out];exact(cZ _ _ _ _ (by omega)).trans (dJ w _ _)⟩,eH (JL (JM w _) (JM _ _)) (by omega) _⟩
 go_loopw [4] (fun i wr=>∃(k:Nat) (zs:ag Int),k<=16/\i=I k/\zs.length=64/\zs=NC xs k/\ScY w zs wr) (fun i _=>16 - (intOf i).toNat)
 case atStart=>exact⟨0,z64,aG _,rfl,HZL.out,HZ.out.symm,H0.out⟩
 case round=>
  obtain⟨k,zs,hk,rfl,hzl,hzs,hs⟩:=hrel;have HZS:=JJ hzs;have HS:=JJ hs;have HL:=JJ hzl;clear H0 hs hzl hzs;by_cases hlt:(k:Int)<16
  ·obtain⟨p,hp⟩:∃p:Nat,4*k=p:=⟨_,rfl⟩;obtain⟨p1,hp1⟩:∃q:Nat,p+1=q:=⟨_,rfl⟩;obtain⟨p2,hp2⟩:∃q:Nat,p+2=q:=⟨_,rfl⟩;obtain⟨p3,hp3⟩:∃q:Nat,p+3=q:=⟨_,rfl⟩;have c0:wr.cell? ⟨bb,off+p,none⟩=some (Extern.Stop.cell (xs[p]?.getD 0)):=(HS.out.lo.cell (p:=⟨bb,off+p,none⟩) hb).trans (HA.out p (by omega));have c1:wr.cell? ⟨bb,off+p1,none⟩=some (Extern.Stop.cell (xs[p1]?.getD 0)):=(HS.out.lo.cell (p:=⟨bb,off+p1,none⟩) hb).trans (HA.out p1 (by omega));have c2:wr.cell? ⟨bb,off+p2,none⟩=some (Extern.Stop.cell (xs[p2]?.getD 0)):=(HS.out.lo.cell (p:=⟨bb,off+p2,none⟩) hb).trans (HA.out p2 (by omega));have c3:wr.cell? ⟨bb,off+p3,none⟩=some (Extern.Stop.cell (xs[p3]?.getD 0)):=(HS.out.lo.cell (p:=⟨bb,off+p3,none⟩) hb).trans (HA.out p3 (by omega));obtain⟨x0,e0⟩:∃x:Int,((xs[p]?.getD 0).toNat:Int)=x:=⟨_,rfl⟩;obtain⟨x1,e1⟩:∃x:Int,((xs[p1]?.getD 0).toNat:Int)=x:=⟨_,rfl⟩;obtain⟨x2,e2⟩:∃x:Int,((xs[p2]?.getD 0).toNat:Int)=x:=⟨_,rfl⟩;obtain⟨x3,e3⟩:∃x:Int,((xs[p3]?.getD 0).toNat:Int)=x:=⟨_,rfl⟩;replace c0:wr.cell? ⟨bb,off+p,none⟩=some (.int .u8 x0):=c0.trans (by rw[<-e0];rfl);replace c1:wr.cell? ⟨bb,off+p1,none⟩=some (.int .u8 x1):=c1.trans (by rw[<-e1];rfl);replace c2:wr.cell? ⟨bb,off+p2,none⟩=some (.int .u8 x2):=c2.trans (by rw[<-e2];rfl);replace c3:wr.cell? ⟨bb,off+p3,none⟩=some (.int .u8 x3):=c3.trans (by rw[<-e3];rfl);have g0:4*(k:Int)=(p:Int):=by omega
   have g1:(p:Int)+1=(p1:Int):=by omega
   have g2:(p:Int)+2=(p2:Int):=by omega
   have g3:(p:Int)+3=(p3:Int):=by omega
   have w0:IntKind.i64.wrap (p:Int)=(p:Int):=by rw[aA];omega
   have w1:IntKind.i64.wrap (p1:Int)=(p1:Int):=by rw[aA];omega
   have w2:IntKind.i64.wrap (p2:Int)=(p2:Int):=by rw[aA];omega
   have w3:IntKind.i64.wrap (p3:Int)=(p3:Int):=by rw[aA];omega
   have b0:(p:Int)<64:=by omega
   have b1:(p1:Int)<64:=by omega
   have b2:(p2:Int)<64:=by omega
   have b3:(p3:Int)<64:=by omega
   have HE:=JJ (And.intro (And.intro e0 e1) (And.intro e2 e3));have HP:=JJ (And.intro hp (And.intro hp1 (And.intro hp2 hp3)));clear e0 e1 e2 e3 hp hp1 hp2 hp3;obtain⟨z0,hz0⟩:∃z,zs[k]?.getD 0=z:=⟨_,rfl⟩;have hv:wr.cell? ⟨w.heap.size+1,k,none⟩=some (.int .u32 z0):=(HS.out.var.cell k).trans (by rw[KT _ _ (by rw[HL.out];omega),hz0]);have hf:=HS.out.var.Oo k;have afM:(k:Int)<64:=by omega
   go_wp2_with fail;go_still_tail 35,(by kernel_rfl);change wpList _ _ _ _ _ wr.drew;go_wp2_with fail;go_roundw
   case rel=>exact⟨k+1,NC xs (k+1),by omega,by go_num,Q8 _ _,rfl,(HS.out.drew.put k _).to (asP HZS.out (by omega) (by rw[HP.out.1];exact HE.out.1.1) (by rw[HP.out.1,HP.out.2.1];exact HE.out.1.2) (by rw[HP.out.1,HP.out.2.2.1];exact HE.out.2.1) (by rw[HP.out.1,HP.out.2.2.2];exact HE.out.2.2))⟩
   case measure=>simp[intOf];omega
  ·have H1:Hid (∃zs:ag Int,zs.length=64/\zs=NC xs 16/\ScY w zs wr):=JJ ⟨zs,HL.out,by rw[HZS.out,show k=16 by omega],HS.out⟩;go_wp2_with fail
   go_loopw [5] (fun i wr=>∃(k:Nat) (zs:ag Int),16<=k/\k<=64/\i=I k/\zs.length=64/\zs=NC xs k/\ScY w zs wr) (fun i _=>64 - (intOf i).toNat)
   case atStart=>exact H1.out.elim fun zs h=>⟨16,zs,by omega,by omega,rfl,h.1,h.2.1,h.2.2⟩
   case round=>
    clear hlt HS HL HZS;obtain⟨k,zs,hk0,hk,rfl,hzl,hzs,hs⟩:=hrel;have HZS:=JJ hzs;have HS:=JJ hs;have HL:=JJ hzl;clear hs hzl hzs;by_cases hlt:(k:Int)<64
    ·obtain⟨q16,akT⟩:∃q:Nat,k - 16=q:=⟨_,rfl⟩;obtain⟨q15,akS⟩:∃q:Nat,k - 15=q:=⟨_,rfl⟩;obtain⟨q7,hq7⟩:∃q:Nat,k - 7=q:=⟨_,rfl⟩;obtain⟨q2,hq2⟩:∃q:Nat,k - 2=q:=⟨_,rfl⟩;obtain⟨za,hza⟩:∃z,zs[q16]?.getD 0=z:=⟨_,rfl⟩;obtain⟨zx,hzx⟩:∃z,zs[q15]?.getD 0=z:=⟨_,rfl⟩;obtain⟨zb,hzb⟩:∃z,zs[q7]?.getD 0=z:=⟨_,rfl⟩;obtain⟨zy,hzy⟩:∃z,zs[q2]?.getD 0=z:=⟨_,rfl⟩;have va:∀n,(wr.drewN n).cell? ⟨w.heap.size+1,q16,none⟩=some (.int .u32 za):=fun n=>(HS.out.var.cell q16).trans (by rw[KT _ _ (by rw[HL.out];omega),hza]);have vx:wr.cell? ⟨w.heap.size+1,q15,none⟩=some (.int .u32 zx):=(HS.out.var.cell q15).trans (by rw[KT _ _ (by rw[HL.out];omega),hzx]);have vb:∀n,(wr.drewN n).cell? ⟨w.heap.size+1,q7,none⟩=some (.int .u32 zb):=fun n=>(HS.out.var.cell q7).trans (by rw[KT _ _ (by rw[HL.out];omega),hzb]);have vy:wr.cell? ⟨w.heap.size+1,q2,none⟩=some (.int .u32 zy):=(HS.out.var.cell q2).trans (by rw[KT _ _ (by rw[HL.out];omega),hzy]);have g16:(k:Int) - 16=(q16:Int):=by omega
     have g15:(k:Int) - 15=(q15:Int):=by omega
     have g7:(k:Int) - 7=(q7:Int):=by omega
     have g2:(k:Int) - 2=(q2:Int):=by omega
     obtain⟨z0,hz0⟩:∃z,zs[k]?.getD 0=z:=⟨_,rfl⟩;have v0:∀n,(wr.drewN n).cell? ⟨w.heap.size+1,k,none⟩=some (.int .u32 z0):=fun n=>(HS.out.var.cell k).trans (by rw[KT _ _ (by rw[HL.out];omega),hz0]);have hf:∀n,(wr.drewN n).frozen? ⟨w.heap.size+1,k,none⟩=false:=fun n=>HS.out.var.Oo k;have HQ:=JJ (show zs[k - 16]?.getD 0=za/\zs[k - 15]?.getD 0=zx/\zs[k - 7]?.getD 0=zb/\zs[k - 2]?.getD 0=zy from⟨by rw[akT];exact hza,by rw[akS];exact hzx,by rw[hq7];exact hzb,by rw[hq2];exact hzy⟩);clear hza hzx hzb hzy akT akS hq7 hq2 hz0;have aEX:IntKind.i64.wrap (q16:Int)=(q16:Int):=by rw[aA];omega
     have aEW:IntKind.i64.wrap (q15:Int)=(q15:Int):=by rw[aA];omega
     have wq7:IntKind.i64.wrap (q7:Int)=(q7:Int):=by rw[aA];omega
     have wq2:IntKind.i64.wrap (q2:Int)=(q2:Int):=by rw[aA];omega
     have b16:(q16:Int)<64:=by omega
     have b15:(q15:Int)<64:=by omega
     have b7:(q7:Int)<64:=by omega
     have b2:(q2:Int)<64:=by omega
     go_wp2_with fail;go_quiet (fail);go_wp2_with fail;have n16:(⟨w.heap.size+1,k,none⟩:Addr)≠⟨w.heap.size+1,q16,none⟩:=fun e=>by have:=dA Addr.off e;simp at this;omega
     have n7:(⟨w.heap.size+1,k,none⟩:Addr)≠⟨w.heap.size+1,q7,none⟩:=fun e=>by have:=dA Addr.off e;simp at this;omega
     go_region_held3 (fun W=>W.cell? ⟨w.heap.size+1,q16,none⟩=some (.int .u32 za)/\W.cell? ⟨w.heap.size+1,q7,none⟩=some (.int .u32 zb))
      (first|exact⟨va 0,vb 0⟩|exact⟨(iP _ _ _ _ n16).trans (va 0),(iP _ _ _ _ n7).trans (vb 0)⟩)
      (first|(go_at_call 102;refine(alW _ _ _ (by omega) (by omega)).mono ?_;rintro e wf ⟨rfl,m,rfl⟩))
     all_goals
      go_wp2_with fail;go_roundw
      case rel=>exact⟨k+1,NC xs (k+1),by omega,by omega,by go_num,Q8 _ _,rfl,((HS.out.drewN _).put k _).to (alF HZS.out hk0 HQ.out.1 HQ.out.2.1 HQ.out.2.2.1 HQ.out.2.2.2)⟩
      case measure=>simp[intOf];omega
    ·have hke:k=64:=by omega
     have SL:Hid ((Tryz.prog.info? 190).map (·.size)=some (JP zs).size):=JJ (by rw[KH,HL.out];kernel_rfl);have HRW:Hid (MS wr (w.heap.size+1) (JP zs)):=JJ ⟨HS.out.var.lt,HS.out.var.cell⟩;have PT:Hid ((JP (List.replicate 64 0)).size=(JP zs).size):=JJ (by rw[KH,KH,HL.out];simp);go_wp2_with(first
      |((with_reducible refine KO 190 ?_);refine J3 rfl _ _ rfl (w.heap.size+1) rfl (JP zs) HRW.out _ iD rfl SL.out ?_)
      |((with_reducible refine KZ 190 ?_);refine aB rfl _ _ _ rfl w.heap.size (JP zs) rfl rfl 190 (JP (List.replicate 64 0)) HS.out.res.var SL.out PT.out (KP _) ?_))
     refine aX (v:=.agg (JP zs)) (dH rfl _ _ w.heap.size _ (JP zs) (0,0) _ rfl (aQ _ _ _ _ _ _ HS.out.res.var) iD rfl SL.out) rfl ?_;exact⟨by rw[HZS.out,hke],JR HS.out.lo (ay _) _⟩
theorem Zm.tto {w W:ae}{wb:Nat}{cs ws ks:ax ah}{zs zs':ag Int}(h:Zm w wb cs (JP zs) ws ks W)(e:zs=zs'):Zm w wb cs (JP zs') ws ks W:=e▸h
theorem aec {ks ws ss:ag Int}(h:∀z∈ss,0<=z/\z<4294967296):∀k,∀z∈rT ks ws ss k,0<=z/\z<4294967296
 |0=>h
 |k+1=>by
  have ih:=aec (ks:=ks) (ws:=ws) h k;show∀z∈Z9 _ _ (rT ks ws ss k),_;unfold Z9;split
  ·rename_i a b c d e f g i he;rw[he] at ih;intro z hz;simp only[dQ,ed,iV] at hz ih;rcases hz with rfl|rfl|rfl|rfl|rfl|rfl|rfl|rfl
   ·omega
   ·exact ih _ (by simp)
   ·exact ih _ (by simp)
   ·exact ih _ (by simp)
   ·omega
   ·exact ih _ (by simp)
   ·exact ih _ (by simp)
   ·exact ih _ (by simp)
  ·exact ih
theorem aol {ks ws ss:ag Int}{k:Nat}{t0 t1 t2 t3 t4 t5 t6 t7 wk kk X Y:Int}(h: [t0,t1,t2,t3,t4,t5,t6,t7]=rT ks ws ss k)(hb:0<=t4/\t4<4294967296)(hw:ws[k]?.getD 0=wk)(hk:ks[k]?.getD 0=kk)
  (hX:(((t7+bits BinOp.xor IntKind.u32 (bits BinOp.xor IntKind.u32 (MC t4 6) (MC t4 11)) (MC t4 25)+bits BinOp.xor IntKind.u32 (bits BinOp.and IntKind.u32 t4 t5) (bits BinOp.and IntKind.u32 ((4294967295 - t4)%4294967296) t6)+kk)%4294967296+wk)%4294967296)=X)
  (hY:((bits BinOp.xor IntKind.u32 (bits BinOp.xor IntKind.u32 (MC t0 2) (MC t0 13)) (MC t0 22)+bits BinOp.xor IntKind.u32 (bits BinOp.xor IntKind.u32 (bits BinOp.and IntKind.u32 t0 t1) (bits BinOp.and IntKind.u32 t0 t2)) (bits BinOp.and IntKind.u32 t1 t2))%4294967296)=Y):
  [(X+Y)%4294967296,t0,t1,t2,(t3+X)%4294967296,t4,t5,t6]=rT ks ws ss (k+1):=by
 have e1:X=xF t4 t5 t6 t7 kk wk:=by
  rw[<-hX,tr6,aAZ,aA5,show(4294967295 - t4)%4294967296=4294967295 - t4 by omega];unfold xF;rw[aoM t4 hb.1 hb.2];simp only[lV];generalize bits BinOp.xor IntKind.u32 (bits BinOp.xor IntKind.u32 (Qg t4 (amt (-6))) (Qg t4 (amt (-11)))) (Qg t4 (amt (-25)))=A;generalize bits BinOp.xor IntKind.u32 (bits BinOp.and IntKind.u32 t4 t5) (bits BinOp.and IntKind.u32 (4294967295 - t4) t6)=B;omega
 have e2:Y=yF t0 t1 t2:=by
  rw[<-hY,tr2,aA0,aA4];unfold yF;rw[lV]
 show _=Z9 (ks[k]?.getD 0) (ws[k]?.getD 0) (rT ks ws ss k);rw[<-h,hw,hk,e1,e2];rfl
theorem aiX {ts ss zs:ag Int}{j:Nat}{sj tj:Int}(h:zs=sumT ts ss j)(hs:ss[j]?.getD 0=sj)(ht:zs[j]?.getD 0=tj):zs.set j ((tj+sj)%4294967296)=sumT ts ss (j+1):=by
 show _=(sumT ts ss j).set j (((ts[j]?.getD 0)+(ss[j]?.getD 0))%4294967296);rw[<-h,<-hs,<-ht,h,aeu ts ss j j (ay _)]
theorem aiW {ts ss:ag Int}(ht:ts.length=8)(hs:ss.length=8):sumT ts ss 8=sumT ss ts 8:=by
 obtain⟨a0,a1,a2,a3,a4,a5,a6,a7,rfl⟩:=ZF ht;obtain⟨b0,b1,b2,b3,b4,b5,b6,b7,rfl⟩:=ZF hs;simp[sumT,Int.add_comm]
theorem asR (w:ae)(bb off c:Nat)(ss:ag Int)(hs:ss.length=8)(hsb:∀z∈ss,0<=z/\z<4294967296)(xs:ag au)(hx:xs.length=64)(hb:bb<w.heap.size)(hA:∀j,j<64->w.cell? ⟨bb,off+j,none⟩=some (Extern.Stop.cell (xs[j]?.getD 0))):
  Calls Tryz.prog 81 #[.agg (JP ss),.slice (some ⟨bb,off,none⟩) 64 c] w fun e w'=>e=.returned (.agg (JP (Zr Qm ss xs)))/\ai w.heap.size w w':=by
 have SK:=JJ hsb;clear hsb;obtain⟨cs,hcs⟩:∃a,JP ss=a:=⟨_,rfl⟩;rw[hcs];have hz:cs.size=8:=by rw[<-hcs,KH,hs]
 have HCS:=JJ hcs;have RX:=JJ hs;have H0:=JJ (St0.start w cs);have HEX:Hid (∀W,ai w.heap.size w W->Calls Tryz.prog 100 #[.slice (some ⟨bb,off,none⟩) 64 c] W fun e w'=>e=.returned (.agg (JP (NC xs 64)))/\ai W.heap.size W w'):=
  JJ fun W h=>akt W bb off c xs hx (LK hb h.size) fun j hj=>(h.cell (p:=⟨bb,off+j,none⟩) hb).trans (hA j hj)
 have HI8:Hid ((Tryz.prog.info? 155).map (·.size)=some cs.size):=JJ (by rw[hz];kernel_rfl);have Zj:Hid ((JP (List.replicate 8 0)).size=cs.size):=JJ (by rw[KH,hz];simp);have Rj:Hid (cs.all (·.oneCell')=true):=JJ (by rw[<-hcs];exact KP _);clear hx hA hcs hs hz;go_enter Tryz.func81,Tryz.ntmps81;go_upto_region 1 with (first
  |((with_reducible refine Kz 155 ?_);refine JW rfl _ rfl (JP (List.replicate 8 0)) Vt ?_))
 generalize (w.alloc (.cells cs 155)).alloc (.cells (JP (List.replicate 8 0)) 155)=W0 at H0⊢;go_wp2_with fail;refine(HEX.out _ H0.out.lo).mono ?_;rintro e w1 ⟨rfl,hb1⟩;obtain⟨ws,hws⟩:∃l,NC xs 64=l:=⟨_,rfl⟩;rw[hws];have hwl:ws.length=64:=by rw[<-hws];exact Q8 _ _
 have HWS:=JJ hws;clear hws;have H1:=JJ (H0.out.grow hb1);have HWL:=JJ hwl;clear hb1 H0 HEX hwl;go_wp2_with fail;refine(alB w1).mono ?_;rintro e w2 ⟨rfl,hb2⟩;have H2:=JJ (H1.out.grow hb2);clear hb2 H1;rw[aoN];obtain⟨ks,hks⟩:∃l,Qm=l:=⟨_,rfl⟩;rw[hks];have QJ:Hid (ks.length=64):=JJ (by rw[<-hks];rfl);have HKS:=JJ hks;clear hks;have H3:=JJ (Zm.start H2.out (JP ws) (JP ks) (JP (List.replicate 64 0)));have HI4:Hid ((Tryz.prog.info? 190).map (·.size)=some (JP ws).size):=JJ (by rw[KH,HWL.out];kernel_rfl);have HI5:Hid ((Tryz.prog.info? 190).map (·.size)=some (JP ks).size):=JJ (by rw[KH,QJ.out];kernel_rfl);have HZ4:Hid ((JP (List.replicate 64 0)).size=(JP ws).size):=JJ (by rw[KH,KH,HWL.out];simp);have HZ5:Hid ((JP (List.replicate 64 0)).size=(JP ks).size):=JJ (by rw[KH,KH,QJ.out];simp);obtain⟨u64,hu64⟩:∃l:ag Int,List.replicate 64 0=l:=⟨_,rfl⟩;rw[hu64] at H3 HZ4 HZ5;have HUI:Hid ((Tryz.prog.info? 190).map (fun i=>(i.zero,i.size))=some (some (.agg (JP u64)),(JP u64).size)):=JJ (by rw[<-hu64];exact OA);clear hu64;obtain⟨u8,hu8⟩:∃l:ag Int,List.replicate 8 0=l:=⟨_,rfl⟩;rw[hu8] at H3 Zj;have HU8:Hid ((Tryz.prog.info? 155).map (fun i=>(i.zero,i.size))=some (some (.agg (JP u8)),(JP u8).size)):=JJ (by rw[<-hu8];exact Vt);clear hu8;go_upto_region 2 with (first
  |((with_reducible refine Kz 190 ?_);refine JW rfl _ rfl (JP u64) HUI.out ?_)
  |((with_reducible refine KZ 190 ?_);go_must (first
    |(refine aB rfl _ _ _ rfl w2.heap.size (JP ws) rfl rfl 190 (JP u64) (dJ w2 _ _) HI4.out HZ4.out (KP _) ?_)
    |(refine aB rfl _ _ _ rfl (w2.heap.size+1) (JP ks) (dA (fun b=>Value.pointer (some ⟨b,0,none⟩)) (RZ w2 _)) rfl 190 (JP u64) ((cZ _ _ _ _ (by omega)).trans (bW w2 _ _)) HI5.out HZ5.out (KP _) ?_))))
 have HR4:=JJ (aoC H2.out (JP u64) (JP ws) (JP ks));have HV5:=JJ (aoD w2 (JP u64) (JP ws) (JP ks) (JP u8));have HS4:=JJ (aet w2 (JP u64) (JP ws) (JP ks));generalize ((((w2.alloc (.cells (JP u64) 190)).alloc (.cells (JP u64) 190)).setRow w2.heap.size (JP ws)).setRow (w2.heap.size+1) (JP ks))=W4 at H3 HR4 HV5 HS4⊢;obtain⟨wb,hwb⟩:∃b,w2.heap.size=b:=⟨_,rfl⟩;rw[hwb] at H3 HV5 HS4;rw[RZ w2,hwb];clear hwb H2 HZ4 HZ5 HUI;go_wp2_with(first
  |((with_reducible refine KO 155 ?_);refine J3 rfl _ _ rfl w.heap.size rfl cs HR4.out _ kD rfl HI8.out ?_)
  |((with_reducible refine Kz 155 ?_);refine JW rfl _ rfl (JP u8) HU8.out ?_)
  |((with_reducible refine KZ 155 ?_);refine aB rfl _ _ _ rfl (wb+2) cs (dA (fun b=>Value.pointer (some ⟨b,0,none⟩)) HS4.out) rfl 155 (JP u8) HV5.out HI8.out Zj.out Rj.out ?_))
 generalize (W4.alloc (.cells (JP u8) 155)).setRow (wb+2) cs=W6 at H3⊢;rw[HS4.out];clear HR4 HV5 HS4 Zj HU8
 go_loopw [8] (fun i wr=>∃(k:Nat) (ts:ag Int),k<=64/\i=I k/\ts.length=8/\ts=rT ks ws ss k/\(∀z∈ts,0<=z/\z<4294967296)/\Zm w wb cs (JP ts) (JP ws) (JP ks) wr) (fun i _=>64 - (intOf i).toNat)
 case atStart=>exact⟨0,ss,aG _,rfl,RX.out,rfl,SK.out,by rw[HCS.out];exact H3.out⟩
 case round=>
  obtain⟨k,ts,hk,rfl,htl,hts,hbd,hs⟩:=hrel;have HTS:=JJ hts;have HBD:=JJ hbd;have HS:=JJ hs;clear H3 hs hts hbd;by_cases hlt:(k:Int)<64
  ·obtain⟨t0,t1,t2,t3,t4,t5,t6,t7,rfl⟩:=ZF htl;clear htl;have HB4:Hid (0<=t4/\t4<4294967296):=JJ (HBD.out t4 (by simp));have c0:wr.cell? ⟨wb+2,0,none⟩=some (.int .u32 t0):=HS.out.t.cell 0;have c4:wr.cell? ⟨wb+2,4,none⟩=some (.int .u32 t4):=HS.out.t.cell 4;go_wp2_with fail;go_quiet (fail);obtain⟨W7,hW7⟩:∃W,wr.drewN nq=W:=⟨_,rfl⟩;rw[hW7];have HS7:Hid (Zm w wb cs (JP [t0,t1,t2,t3,t4,t5,t6,t7]) (JP ws) (JP ks) W7):=JJ (by rw[<-hW7];exact HS.out.drewN nq);clear hW7 c0 c4 HS;obtain⟨wk,hwk⟩:∃z,ws[k]?.getD 0=z:=⟨_,rfl⟩;obtain⟨kk,hkk⟩:∃z,ks[k]?.getD 0=z:=⟨_,rfl⟩;have cw:W7.cell? ⟨wb,k,none⟩=some (.int .u32 wk):=(HS7.out.w.cell k).trans (by rw[KT _ _ (by rw[HWL.out];omega),hwk]);have ck:W7.cell? ⟨wb+1,k,none⟩=some (.int .u32 kk):=(HS7.out.k.cell k).trans (by rw[KT _ _ (by rw[QJ.out];omega),hkk]);have HWK:Hid (ws[k]?.getD 0=wk/\ks[k]?.getD 0=kk):=JJ ⟨hwk,hkk⟩;clear hwk hkk;have c0:W7.cell? ⟨wb+2,0,none⟩=some (.int .u32 t0):=HS7.out.t.cell 0;have c1:W7.cell? ⟨wb+2,1,none⟩=some (.int .u32 t1):=HS7.out.t.cell 1;have c2:W7.cell? ⟨wb+2,2,none⟩=some (.int .u32 t2):=HS7.out.t.cell 2;have c3:W7.cell? ⟨wb+2,3,none⟩=some (.int .u32 t3):=HS7.out.t.cell 3;have c4:W7.cell? ⟨wb+2,4,none⟩=some (.int .u32 t4):=HS7.out.t.cell 4;have c5:W7.cell? ⟨wb+2,5,none⟩=some (.int .u32 t5):=HS7.out.t.cell 5;have c6:W7.cell? ⟨wb+2,6,none⟩=some (.int .u32 t6):=HS7.out.t.cell 6;have c7:W7.cell? ⟨wb+2,7,none⟩=some (.int .u32 t7):=HS7.out.t.cell 7;go_wp2_with fail;go_quiet ((go_at_call 102;exact aam _ _ _ _ (by omega) (by omega)));generalize hX:(((t7+bits BinOp.xor IntKind.u32 (bits BinOp.xor IntKind.u32 (MC t4 6) (MC t4 11)) (MC t4 25)+bits BinOp.xor IntKind.u32 (bits BinOp.and IntKind.u32 t4 t5) (bits BinOp.and IntKind.u32 ((4294967295 - t4)%4294967296) t6)+kk)%4294967296+wk)%4294967296)=X;have HX:=JJ hX;clear hX;obtain⟨W8,hW8⟩:∃W,W7.drewN nq=W:=⟨_,rfl⟩;rw[hW8];have HS8:Hid (Zm w wb cs (JP [t0,t1,t2,t3,t4,t5,t6,t7]) (JP ws) (JP ks) W8):=JJ (by rw[<-hW8];exact HS7.out.drewN nq);clear hW8 c0 c1 c2 c3 c4 c5 c6 c7 cw ck HS7;have c1:W8.cell? ⟨wb+2,1,none⟩=some (.int .u32 t1):=HS8.out.t.cell 1;have c2:W8.cell? ⟨wb+2,2,none⟩=some (.int .u32 t2):=HS8.out.t.cell 2;go_wp2_with fail;go_quiet ((go_at_call 102;exact aam _ _ _ _ (by omega) (by omega)));generalize hY:((bits BinOp.xor IntKind.u32 (bits BinOp.xor IntKind.u32 (MC t0 2) (MC t0 13)) (MC t0 22)+bits BinOp.xor IntKind.u32 (bits BinOp.xor IntKind.u32 (bits BinOp.and IntKind.u32 t0 t1) (bits BinOp.and IntKind.u32 t0 t2)) (bits BinOp.and IntKind.u32 t1 t2))%4294967296)=Y;have HY:=JJ hY;clear hY;obtain⟨W9,hW9⟩:∃W,W8.drewN nq=W:=⟨_,rfl⟩;rw[hW9];have HS9:Hid (Zm w wb cs (JP [t0,t1,t2,t3,t4,t5,t6,t7]) (JP ws) (JP ks) W9):=JJ (by rw[<-hW9];exact HS8.out.drewN nq);clear hW9 c1 c2 HS8;have c0:W9.cell? ⟨wb+2,0,none⟩=some (.int .u32 t0):=HS9.out.t.cell 0;have c1:W9.cell? ⟨wb+2,1,none⟩=some (.int .u32 t1):=HS9.out.t.cell 1;have c2:W9.cell? ⟨wb+2,2,none⟩=some (.int .u32 t2):=HS9.out.t.cell 2;have c3:W9.cell? ⟨wb+2,3,none⟩=some (.int .u32 t3):=HS9.out.t.cell 3;have c4:W9.cell? ⟨wb+2,4,none⟩=some (.int .u32 t4):=HS9.out.t.cell 4;have c5:W9.cell? ⟨wb+2,5,none⟩=some (.int .u32 t5):=HS9.out.t.cell 5;have c6:W9.cell? ⟨wb+2,6,none⟩=some (.int .u32 t6):=HS9.out.t.cell 6;have c7:W9.cell? ⟨wb+2,7,none⟩=some (.int .u32 t7):=HS9.out.t.cell 7;have HI9:Hid ((Tryz.prog.info? 155).map (·.size)=some (JP [(X+Y)%4294967296,t0,t1,t2,(t3+X)%4294967296,t4,t5,t6]).size):=JJ (by kernel_rfl);go_wp2_with((with_reducible refine KZ 155 ?_);refine aB rfl _ _ _ rfl (wb+2) (JP [(X+Y)%4294967296,t0,t1,t2,(t3+X)%4294967296,t4,t5,t6]) rfl rfl 155 (JP [t0,t1,t2,t3,t4,t5,t6,t7]) HS9.out.t.var HI9.out rfl (KP _) ?_);go_roundw
   case rel=>exact⟨k+1,rT ks ws ss (k+1),by omega,by go_num,XQ _ _ _ RX.out _,rfl,aec SK.out _,(HS9.out.row _).tto (aol HTS.out HB4.out HWK.out.1 HWK.out.2 HX.out HY.out)⟩
   case measure=>simp[intOf];omega
  ·have UG:=JJ htl;clear htl;go_wp2_with fail
   go_loopw [13] (fun i wr=>∃(k:Nat) (zs:ag Int),k<=8/\i=I k/\zs.length=8/\zs=sumT ts ss k/\Zm w wb cs (JP zs) (JP ws) (JP ks) wr) (fun i _=>8 - (intOf i).toNat)
   case atStart=>exact⟨0,ts,aG _,rfl,UG.out,rfl,HS.out⟩
   case round=>
    clear HS;have afM:k=64:=by omega
    have ay3:=JJ afM;clear hlt afM;obtain⟨j,zs,hj,rfl,hzl,hzs,hs⟩:=hrel;have HZS:=JJ hzs;clear hzs;have HS:=JJ hs;have HL:=JJ hzl;clear hs hzl;by_cases hlt:(j:Int)<8
    ·obtain⟨sj,hsj⟩:∃z,ss[j]?.getD 0=z:=⟨_,rfl⟩;obtain⟨tj,htj⟩:∃z,zs[j]?.getD 0=z:=⟨_,rfl⟩;have cS:wr.cell? ⟨w.heap.size,j,none⟩=some (.int .u32 sj):=(HS.out.b.s.cell j).trans (by rw[<-HCS.out,KT _ _ (by rw[RX.out];omega),hsj]);have cT:wr.cell? ⟨wb+2,j,none⟩=some (.int .u32 tj):=(HS.out.t.cell j).trans (by rw[KT _ _ (by rw[HL.out];omega),htj]);have cf:=HS.out.t.Oo j;have HSJ:Hid (ss[j]?.getD 0=sj/\zs[j]?.getD 0=tj):=JJ ⟨hsj,htj⟩;clear hsj htj;go_wp2_with fail;go_still_tail 9,(by kernel_rfl);change wpList _ _ _ _ _ wr.drew;go_wp2_with fail;go_roundw
     case rel=>exact⟨j+1,sumT ts ss (j+1),by omega,by go_num,by rw[Vk];exact UG.out,rfl,(HS.out.drew.put j _).tto (aiX HZS.out HSJ.out.1 HSJ.out.2)⟩
     case measure=>simp[intOf];omega
    ·have SL:Hid ((Tryz.prog.info? 155).map (·.size)=some (JP zs).size):=JJ (by rw[KH,HL.out];kernel_rfl);have HRW:Hid (MS wr (wb+2) (JP zs)):=JJ HS.out.t.Nc;have PT:Hid ((JP (List.replicate 8 0)).size=(JP zs).size):=JJ (by rw[KH,KH,HL.out];simp);go_wp2_with(first
      |((with_reducible refine KO 155 ?_);refine J3 rfl _ _ rfl (wb+2) rfl (JP zs) HRW.out _ kD rfl SL.out ?_)
      |((with_reducible refine KZ 155 ?_);refine aB rfl _ _ _ rfl (w.heap.size+1) (JP zs) rfl rfl 155 (JP (List.replicate 8 0)) HS.out.b.r.var SL.out PT.out (KP _) ?_))
     refine aX (v:=.agg (JP zs)) (dH rfl _ _ (w.heap.size+1) _ (JP zs) (0,0) _ rfl (aQ _ _ _ _ _ _ HS.out.b.r.var) kD rfl SL.out) rfl ?_;have hj8:j=8:=by omega
     exact⟨by rw[HZS.out,hj8,aiW UG.out RX.out,HTS.out,ay3.out,<-HWS.out,<-HKS.out];rfl,JR HS.out.b.lo (bV _) _⟩
def szF (n j:Nat):au:=byteOf (8*(n:Int) / 2 ^ (56 - 8*j))
theorem asU {n j:Nat}{i:Int}(h:7 - (j:Int)=i)(h0:0<=i):byteOf (8*(n:Int) / 2 ^ (8*i).toNat)=szF n j:=by
 unfold szF;rw[show(8*i).toNat=56 - 8*j by omega]
theorem ahj (n:Nat):acy n=Rt n:=by unfold acy Rt;omega
theorem alr (n c:Nat)(A:aj Addr)(bs:ag au)(w:ae)(hl:bs.length=n)(h0:0<n)(hn:n<=200000)(hb:JS w w.heap.size A (bs.map Extern.Stop.cell)):
  Calls Tryz.prog 80 #[.slice A n c] w (BsQ w.heap.size (.slice none 0 0) w (Q4 bs)):=by
 obtain⟨i0,hi,hz0,hz1,hz2⟩:=dN Qb;have HI:=JJ hi;have HZ0:=JJ hz0;have HZ1:=JJ hz1;have HZ2:=JJ hz2;clear hi hz0 hz1 hz2;obtain⟨b,off,rfl,Rl,hcl⟩:=hb.there (by rw[aI];omega);have hb0:∀j u,(bs.map Extern.Stop.cell)[j]? =some u->(w.alloc (.cells #[] 5)).cell? ((⟨b,off,none⟩:Addr).add j)=some u:=QP hb;have HB0:=JJ hb0;have HE:=JJ (NI w 5 1);have HL:=JJ hl;have HNL:Hid ((bs.map Extern.Stop.cell).length=n*1):=JJ (by rw[aI,hl,fA]);have afd:Hid (∀u∈bs.map Extern.Stop.cell,u.oneCell'=true):=JJ (fun u hu=>by obtain⟨x,_,rfl⟩:=fJ.1 hu;rfl);clear hb0 hcl hb hl;go_enter Tryz.func80,Tryz.ntmps80;go_wp2_with(at_builtin;refine bK _ rfl _ _ 55 rfl w.heap.size 5 i0 (.int .u8 0) 1 1 bC HI.out HZ0.out HZ1.out HZ2.out rfl (by decide) _ 0 [] rfl HE.out ⟨b,off,none⟩ n c (bs.map Extern.Stop.cell) rfl HNL.out HB0.out afd.out (by unfold maxLen;omega) (by omega) (by simp) ?_);intro v' w1 hown hg _ hat;obtain⟨A1,c1,rfl⟩:=LU hown;have H1:Hid (PB (.slice none 0 0) w bs A1 n c1 w1):=JJ (PB.fresh (by unfold Rh;simpa using hown) HL.out hg hat);have hsz:w.heap.size<=w1.heap.size:=H1.out.keep.size;clear hown hg hat;have HOA:=JJ (fO H1.out.own (.cells #[Value.int .u8 128] 5));go_wp2_with(at_builtin;refine bK _ rfl _ _ 55 rfl w.heap.size 5 i0 (.int .u8 0) 1 1 bC HI.out HZ0.out HZ1.out HZ2.out rfl (by decide) _ n ((bs).map Extern.Stop.cell) rfl HOA.out _ 1 1 [Value.int .u8 128] rfl rfl (jk _ _ _) (WG _) (by unfold maxLen;omega) (by omega) (by simp;omega) ?_);intro v' w2 hown hg _ hat;obtain⟨A2,c2,rfl⟩:=LU hown;have H2:=JJ (H1.out.grown (bs':=bs++ [128]) (by unfold Rh;rw[bY];exact hown) (by rw[KN,HL.out];rfl) hg hat);clear hown hg hat;have hpl:=ahk n;have HPM:=JJ (ad7 n);obtain⟨p,hp⟩:∃p,acy n=p:=⟨_,rfl⟩;have HP:=JJ hp;rw[hp] at hpl HPM;clear hp hsz;go_wp2_with fail
 go_loopw [3] (fun b wr=>∃k n2 c A,k<=p/\n2=n+1+k/\b=.slice A n2 c/\PB (.slice none 0 0) w (bs++ [128]++List.replicate k 0) A n2 c wr) (fun b _=>n+1+p - lenV b)
 case atStart=>exact⟨0,n+1,c2,A2,aG _,rfl,rfl,by simpa using H2.out⟩
 case round=>
  obtain⟨k,n2,c3,A3,hk,hn2,rfl,hb⟩:=hrel;have HB:=JJ hb;have hsz:w.heap.size<=wr.heap.size:=hb.keep.size;clear hb;have ht:((n2:Int)).tmod 64=((n2%64:Nat):Int):=by rw[aS (by omega)];rfl
  obtain⟨q,hq⟩:∃q,n2%64=q:=⟨_,rfl⟩;rw[hq] at ht;have ht2:((n2:Int))%64=(q:Int):=by omega
  have hkp:q≠56->k<p:=by
   intro hqe;have:=HPM.out;rcases lJ k p with h|h
   ·exact h
   ·have e:k=p:=by omega
    subst e;subst hn2;omega
  have HN2:=JJ hn2;have aEp:n2<=n+64:=by omega
  clear hn2 hq;by_cases hqe:q=56
  ·subst hqe;go_wp2_with fail;have H4:=JJ HB.out;have HQE:Hid (n2%64=56):=JJ (by omega);have HN5:Hid (n2=n+1+p):=JJ (by
    have h1:=HN2.out;have h2:=HPM.out;have h3:=HQE.out;omega)
   have HKP:Hid (k=p):=JJ (by have:=HN2.out;have:=HN5.out;omega);clear HB hkp hsz ht ht2 hk
   go_loopw [3,5] (fun b i wr=>∃(j n3 c:Nat) (A:aj Addr) (ps:ag au),j<=8/\n3=n2+j/\b=.slice A n3 c/\i=.int .i64 (7 - (j:Int))/\ps.length=n3/\ps=Ol bs p++upto (szF n) j/\PB (.slice none 0 0) w ps A n3 c wr) (fun _ i _=>(intOf i+1).toNat)
   case atStart=>exact⟨0,n2,c3,A3,_,aG _,rfl,rfl,by go_num,H4.out.len,by rw[HKP.out];simp[Ol,upto],H4.out⟩
   case round=>
    obtain⟨j,n3,c4,A4,ps,hj,hn3,rfl,rfl,hpl2,hps,hb⟩:=hrel;have HPS:=JJ hps;clear hps;have HB:=JJ hb;have HN3:=JJ hn3;have HPL:=JJ hpl2;have hsz:w.heap.size<=wr.heap.size:=hb.keep.size;have aEq:n3<=n+80:=by omega
    clear hb hn3 hpl2;by_cases hlt:j<8
    ·obtain⟨i,hi⟩:∃i:Int,7 - (j:Int)=i:=⟨_,rfl⟩;have hi0:0<=i:=by omega
     have hi1:i<=7:=by omega
     have HIJ:=JJ hi;rw[hi];clear hi;have HBC:=JJ (LH (8*(n:Int) / 2 ^ (8*i).toNat));have HOA:=JJ (fO HB.out.own (.cells #[Value.int .u8 (8*(n:Int) / 2 ^ (8*i).toNat%256)] 5));go_wp2_with(at_builtin;refine bK _ rfl _ _ 55 rfl w.heap.size 5 i0 (.int .u8 0) 1 1 bC HI.out HZ0.out HZ1.out HZ2.out rfl (by decide) _ n3 ((ps).map Extern.Stop.cell) rfl HOA.out _ 1 1 [Value.int .u8 (8*(n:Int) / 2 ^ (8*i).toNat%256)] rfl rfl (jk _ _ _) (WG _) (by unfold maxLen;omega) (by omega) (by simp;omega) ?_);intro v' w3 hown hg _ hat;obtain⟨A',c',rfl⟩:=LU hown;have H5:=JJ (HB.out.grown (bs':=ps++ [byteOf (8*(n:Int) / 2 ^ (8*i).toNat)]) (n':=n3+1) (by unfold Rh;rw[bY];show World.ownsRow _ _ _ _ _ _ (_++ [Extern.Stop.cell _]);rw[HBC.out];exact hown) (by rw[KN,HPL.out];rfl) hg hat);clear hown hg hat;go_wp2_with fail;go_roundw
     case rel=>exact⟨j+1,n3+1,c',A',_,by omega,by have:=HN3.out;omega,rfl,by have:=HIJ.out;congr 1;omega,H5.out.len,by rw[HPS.out,upto_succ,aH,asU HIJ.out hi0],H5.out⟩
     case measure=>simp[intOf];omega
    ·have HJ:Hid (j=8):=JJ (by omega);have hz:7 - (j:Int)<0:=by omega
     have HN8:Hid (n3=n+9+p):=JJ (by have:=HN3.out;have:=HN5.out;have:=HJ.out;omega);go_wp2_with fail;go_ret;have hq:ps=Q4 bs:=by
      rw[HPS.out,HJ.out,<-HP.out,ahj];unfold Q4 aeq;rw[HL.out];rfl
     rw[<-hq];exact⟨A4,n3,c4,HPL.out,rfl,HB.out.own,HB.out.keep⟩
  ·have hne:((q:Int) !=56)=true:=by rw[bne_iff_ne];omega
   have aEi:=hkp hqe;clear hkp;obtain⟨pre,hpre⟩:∃l:ag au,bs++ [128]++List.replicate k 0=l:=⟨_,rfl⟩;have aaQ:=JJ hpre;rw[hpre] at HB;clear hpre;have HOA:=JJ (fO HB.out.own (.cells #[Value.int .u8 0] 5));go_wp2_with(at_builtin;refine bK _ rfl _ _ 55 rfl w.heap.size 5 i0 (.int .u8 0) 1 1 bC HI.out HZ0.out HZ1.out HZ2.out rfl (by decide) _ n2 ((pre).map Extern.Stop.cell) rfl HOA.out _ 1 1 [Value.int .u8 0] rfl rfl (jk _ _ _) (WG _) (by unfold maxLen;omega) (by omega) (by simp;omega) ?_);intro v' w3 hown hg _ hat;obtain⟨A',c',rfl⟩:=LU hown;have H3:=JJ (HB.out.grown (bs':=bs++ [128]++List.replicate (k+1) 0) (n':=n2+1) (by unfold Rh;rw[nR,<-aH,aaQ.out,bY];exact hown) (by have:=HN2.out;simp[HL.out];omega) hg hat);clear hown hg hat;go_wp2_with fail;go_roundw
   case rel=>exact⟨k+1,n2+1,c',A',by omega,by have:=HN2.out;omega,rfl,H3.out⟩
   case measure=>have:=HN2.out;simp[lenV];omega
end Go.Proofs.YtbaehbbonkljpaaGreatDoor
