/- The texts DgS, in this order. -/
import Derived.Test.YtdibbemgpikgjaaGreatDoorY00
import Derived.Test.YtdibbemgpikgjaaGreatDoorY25
set_option maxRecDepth 10000
set_option maxHeartbeats 8000000
namespace Go.Proofs.YtdibbemgpikgjaaGreatDoor
open Go Go.RowKit
def Qw (x0 x1 x2 x3:Int):Int:=
 bits BinOp.or IntKind.u32 (bits BinOp.or IntKind.u32 (bits BinOp.or IntKind.u32 (IntKind.u32.wrap (IntKind.u32.wrap x0*16777216)) (IntKind.u32.wrap (IntKind.u32.wrap x1*65536))) (IntKind.u32.wrap (IntKind.u32.wrap x2*256))) (IntKind.u32.wrap x3)
def wIn (xs:List UInt8) (i:Nat):Int:=Qw (xs[4*i]?.getD 0).toNat (xs[4*i+1]?.getD 0).toNat (xs[4*i+2]?.getD 0).toNat (xs[4*i+3]?.getD 0).toNat
def CY (a x b y:Int):Int:=
 (a+bits BinOp.xor IntKind.u32 (bits BinOp.xor IntKind.u32 (kX x (amt (-7))) (kX x (amt (-18)))) (x / 8)+b+bits BinOp.xor IntKind.u32 (bits BinOp.xor IntKind.u32 (kX y (amt (-17))) (kX y (amt (-19)))) (y / 1024))%4294967296
def Ff (zs:List Int) (i:Nat):Int:=CY (zs[i - 16]?.getD 0) (zs[i - 15]?.getD 0) (zs[i - 7]?.getD 0) (zs[i - 2]?.getD 0)
def gz (xs:List UInt8):Nat→List Int
 |0=>List.replicate 64 0
 |i+1=>(gz xs i).set i (if i<16 then wIn xs i else Ff (gz xs i) i)
theorem nz (xs:List UInt8) (i:Nat):(gz xs i).length=64:=by
 induction i with
 |zero=>simp [gz]
 |succ i ih=>simp [gz,ih]
structure JX (w:World) (zs:List Int) (wr:World):Prop where
 var:AV (w.heap.size+1) 170 (au zs) wr
 res:AV w.heap.size 170 (au (List.replicate 64 0)) wr
 lo:Below w.heap.size w wr
theorem JX.start (w:World) (xs:List UInt8):JX w (gz xs 0) ((w.alloc (.cells (au (List.replicate 64 0)) 170)).alloc (.cells (au (List.replicate 64 0)) 170)):=
 ⟨⟨heap_alloc2_new w _ _⟩,⟨heap_alloc2_old w _ _⟩,((Below.refl _ w).alloc (Nat.le_refl _) _).alloc (by simp) _⟩
theorem JX.drew {w wr:World} {zs:List Int} (h:JX w zs wr):JX w zs wr.drew:=⟨h.var.drew,h.res.drew,h.lo.drew⟩
theorem JX.put {w wr:World} {zs:List Int} (h:JX w zs wr) (i:Nat) (z:Int):JX w (zs.set i z) (wr.setCell ⟨w.heap.size+1,i,none⟩ (.int .u32 z)):=
 ⟨by rw [←rF];exact h.var.put i _,h.res.far (by omega) _ _,h.lo.setCell (p:=⟨w.heap.size+1,i,none⟩) (Nat.le_succ _) _⟩
theorem JX.drewN {w wr:World} {zs:List Int} (h:JX w zs wr) (n:Nat):JX w zs (wr.drewN n):=⟨⟨h.var.var⟩,⟨h.res.var⟩,⟨h.lo.os,h.lo.tape,h.lo.output,h.lo.size,h.lo.block⟩⟩
theorem Gw (w:World) (bb off c:Nat) (xs:List UInt8) (hx:xs.length=64) (hb:bb<w.heap.size) (hA:∀j,j<64→w.cell? ⟨bb,off+j,none⟩=some (Extern.Stop.cell (xs[j]?.getD 0))):
  Calls Tryz.prog 74 #[.slice (some ⟨bb,off,none⟩) 64 c] w fun e w'=>e= .returned (.agg (au (gz xs 64)))∧Below w.heap.size w w':=by
 have HX:=ae hx;have HA:=ae hA;have H0:=ae (JX.start w xs);clear hx hA;go_enter Tryz.func74,Tryz.ntmps74;go_wp2_with (refine aH rfl _ rfl (au (List.replicate 64 0)) iR ?_)
 go_loopw [9] (fun i wr=>∃k:Nat,k≤64∧i=I k∧JX w (gz xs k) wr) (fun i _=>64 - (intOf i).toNat)
 case atStart=>exact ⟨0,Nat.zero_le _,rfl,H0.out⟩
 case round=>
  obtain ⟨k,hk,rfl,hs⟩:=hrel;have HS:=ae hs;have hlen:=nz xs k;have HL:=ae hlen;clear H0 hs hlen;by_cases hlt:k<64
  ·have i1:(k:Int)<64:=by omega
   by_cases h16:k<16
   ·have i2:(k:Int)<16:=by omega
    obtain ⟨p,hp⟩:∃p:Nat,4*k=p:=⟨_,rfl⟩;obtain ⟨p1,hp1⟩:∃q:Nat,p+1=q:=⟨_,rfl⟩;obtain ⟨p2,hp2⟩:∃q:Nat,p+2=q:=⟨_,rfl⟩;obtain ⟨p3,hp3⟩:∃q:Nat,p+3=q:=⟨_,rfl⟩;have c0:wr.cell? ⟨bb,off+p,none⟩=some (Extern.Stop.cell (xs[p]?.getD 0)):=(HS.out.lo.cell (p:=⟨bb,off+p,none⟩) hb).trans (HA.out p (by omega));have c1:wr.cell? ⟨bb,off+p1,none⟩=some (Extern.Stop.cell (xs[p1]?.getD 0)):=(HS.out.lo.cell (p:=⟨bb,off+p1,none⟩) hb).trans (HA.out p1 (by omega));have c2:wr.cell? ⟨bb,off+p2,none⟩=some (Extern.Stop.cell (xs[p2]?.getD 0)):=(HS.out.lo.cell (p:=⟨bb,off+p2,none⟩) hb).trans (HA.out p2 (by omega));have c3:wr.cell? ⟨bb,off+p3,none⟩=some (Extern.Stop.cell (xs[p3]?.getD 0)):=(HS.out.lo.cell (p:=⟨bb,off+p3,none⟩) hb).trans (HA.out p3 (by omega));obtain ⟨x0,e0⟩:∃x:Int,((xs[p]?.getD 0).toNat:Int)=x:=⟨_,rfl⟩;obtain ⟨x1,e1⟩:∃x:Int,((xs[p1]?.getD 0).toNat:Int)=x:=⟨_,rfl⟩;obtain ⟨x2,e2⟩:∃x:Int,((xs[p2]?.getD 0).toNat:Int)=x:=⟨_,rfl⟩;obtain ⟨x3,e3⟩:∃x:Int,((xs[p3]?.getD 0).toNat:Int)=x:=⟨_,rfl⟩;replace c0:wr.cell? ⟨bb,off+p,none⟩=some (.int .u8 x0):=c0.trans (by rw [←e0];rfl);replace c1:wr.cell? ⟨bb,off+p1,none⟩=some (.int .u8 x1):=c1.trans (by rw [←e1];rfl);replace c2:wr.cell? ⟨bb,off+p2,none⟩=some (.int .u8 x2):=c2.trans (by rw [←e2];rfl);replace c3:wr.cell? ⟨bb,off+p3,none⟩=some (.int .u8 x3):=c3.trans (by rw [←e3];rfl);have g0:4*(k:Int)=(p:Int):=by omega
    have g1:(p:Int)+1=(p1:Int):=by omega
    have g2:(p:Int)+2=(p2:Int):=by omega
    have g3:(p:Int)+3=(p3:Int):=by omega
    have w0:IntKind.i64.wrap (p:Int)=(p:Int):=by rw [IntKind.wrap_i64];omega
    have w1:IntKind.i64.wrap (p1:Int)=(p1:Int):=by rw [IntKind.wrap_i64];omega
    have w2:IntKind.i64.wrap (p2:Int)=(p2:Int):=by rw [IntKind.wrap_i64];omega
    have w3:IntKind.i64.wrap (p3:Int)=(p3:Int):=by rw [IntKind.wrap_i64];omega
    have b0:(p:Int)<64:=by omega
    have b1:(p1:Int)<64:=by omega
    have b2:(p2:Int)<64:=by omega
    have b3:(p3:Int)<64:=by omega
    have HE:=ae (And.intro (And.intro e0 e1) (And.intro e2 e3));have HP:=ae (And.intro hp (And.intro hp1 (And.intro hp2 hp3)));clear e0 e1 e2 e3 hp hp1 hp2 hp3;obtain ⟨z0,hz0⟩:∃z,(gz xs k)[k]?.getD 0=z:=⟨_,rfl⟩;have hv:wr.cell? ⟨w.heap.size+1,k,none⟩=some (.int .u32 z0):=(HS.out.var.cell k).trans (by rw [bY _ _ (by rw [HL.out];exact hlt),hz0]);have hf:=HS.out.var.dZ k;clear hz0;have HN:Hid (JX w (gz xs (k+1)) (wr.drew.setCell ⟨w.heap.size+1,k,none⟩ (.int .u32 (Qw x0 x1 x2 x3)))):=ae (by
     have h:=HS.out.drew.put k (Qw x0 x1 x2 x3);have e:Qw x0 x1 x2 x3=wIn xs k:=by
      obtain ⟨⟨e0,e1⟩,e2,e3⟩:=HE.out;obtain ⟨q0,q1,q2,q3⟩:=HP.out;unfold wIn;rw [q0,q1,q2,q3,e0,e1,e2,e3]
     unfold gz;rw [if_pos h16];rw [e] at h ⊢;exact h)
    go_wp2_with fail;go_still_tail 35,(by kernel_rfl);change wpList _ _ _ _ _ wr.drew;go_wp2_with fail;go_roundw
    case rel=>exact ⟨k+1,by omega,by go_num,HN.out⟩
    case measure=>simp [intOf];omega
   ·have i2:¬(k:Int)<16:=by omega
    obtain ⟨q16,Tv⟩:∃q:Nat,k - 16=q:=⟨_,rfl⟩;obtain ⟨MH,Tu⟩:∃q:Nat,k - 15=q:=⟨_,rfl⟩;obtain ⟨q7,hq7⟩:∃q:Nat,k - 7=q:=⟨_,rfl⟩;obtain ⟨q2,hq2⟩:∃q:Nat,k - 2=q:=⟨_,rfl⟩;obtain ⟨za,hza⟩:∃z,(gz xs k)[q16]?.getD 0=z:=⟨_,rfl⟩;obtain ⟨zx,hzx⟩:∃z,(gz xs k)[MH]?.getD 0=z:=⟨_,rfl⟩;obtain ⟨zb,hzb⟩:∃z,(gz xs k)[q7]?.getD 0=z:=⟨_,rfl⟩;obtain ⟨zy,hzy⟩:∃z,(gz xs k)[q2]?.getD 0=z:=⟨_,rfl⟩;obtain ⟨z0,hz0⟩:∃z,(gz xs k)[k]?.getD 0=z:=⟨_,rfl⟩;have hv:wr.cell? ⟨w.heap.size+1,k,none⟩=some (.int .u32 z0):=(HS.out.var.cell k).trans (by rw [bY _ _ (by rw [HL.out];exact hlt),hz0]);have va:wr.cell? ⟨w.heap.size+1,q16,none⟩=some (.int .u32 za):=(HS.out.var.cell q16).trans (by rw [bY _ _ (by rw [HL.out];omega),hza]);have vx:wr.cell? ⟨w.heap.size+1,MH,none⟩=some (.int .u32 zx):=(HS.out.var.cell MH).trans (by rw [bY _ _ (by rw [HL.out];omega),hzx]);have vb:wr.cell? ⟨w.heap.size+1,q7,none⟩=some (.int .u32 zb):=(HS.out.var.cell q7).trans (by rw [bY _ _ (by rw [HL.out];omega),hzb]);have vy:wr.cell? ⟨w.heap.size+1,q2,none⟩=some (.int .u32 zy):=(HS.out.var.cell q2).trans (by rw [bY _ _ (by rw [HL.out];omega),hzy]);have hf:=HS.out.var.dZ k;have g16:(k:Int) - 16=(q16:Int):=by omega
    have g15:(k:Int) - 15=(MH:Int):=by omega
    have g7:(k:Int) - 7=(q7:Int):=by omega
    have g2:(k:Int) - 2=(q2:Int):=by omega
    have b16:(q16:Int)<64:=by omega
    have b15:(MH:Int)<64:=by omega
    have b7:(q7:Int)<64:=by omega
    have b2:(q2:Int)<64:=by omega
    have w16:IntKind.i64.wrap (q16:Int)=(q16:Int):=by rw [IntKind.wrap_i64];omega
    have w15:IntKind.i64.wrap (MH:Int)=(MH:Int):=by rw [IntKind.wrap_i64];omega
    have w7:IntKind.i64.wrap (q7:Int)=(q7:Int):=by rw [IntKind.wrap_i64];omega
    have w2:IntKind.i64.wrap (q2:Int)=(q2:Int):=by rw [IntKind.wrap_i64];omega
    have HZ:=ae (And.intro (And.intro hza hzx) (And.intro hzb hzy));have HP:=ae (And.intro Tv (And.intro Tu (And.intro hq7 hq2)));clear hz0 hza hzx hzb hzy Tv Tu hq7 hq2;go_wp2_with fail;go_quiet (fail);obtain ⟨W2,hW2⟩:∃W,wr.drewN nq=W:=⟨_,rfl⟩;have HS2:Hid (JX w (gz xs k) W2):=ae (by rw [←hW2];exact HS.out.drewN nq);replace hv:W2.cell? ⟨w.heap.size+1,k,none⟩=some (.int .u32 z0):=by rw [←hW2];exact hv
    replace va:W2.cell? ⟨w.heap.size+1,q16,none⟩=some (.int .u32 za):=by rw [←hW2];exact va
    replace vb:W2.cell? ⟨w.heap.size+1,q7,none⟩=some (.int .u32 zb):=by rw [←hW2];exact vb
    replace hf:=HS2.out.var.dZ k;rw [hW2];have HN:Hid (JX w (gz xs (k+1)) (W2.drew.setCell ⟨w.heap.size+1,k,none⟩ (.int .u32 (CY za zx zb zy)))):=ae (by
     have h:=HS2.out.drew.put k (CY za zx zb zy);have e:CY za zx zb zy=Ff (gz xs k) k:=by
      obtain ⟨⟨e0,e1⟩,e2,e3⟩:=HZ.out;obtain ⟨q0,q1,q2,q3⟩:=HP.out;unfold Ff;rw [q0,q1,q2,q3,e0,e1,e2,e3]
     unfold gz;rw [if_neg h16];rw [e] at h ⊢;exact h)
    clear hW2 vx vy;go_wp2_with (go_at_call 75;refine (MI _ _ _ (by kernel_rfl)).mono ?_;rintro e wq ⟨rfl,hwq⟩;have hwq:=hwq.symm;subst hwq);go_still_tail 15,(by kernel_rfl);change wpList _ _ _ _ _ W2.drew;go_wp2_with fail;go_roundw
    case rel=>exact ⟨k+1,by omega,by go_num,HN.out⟩
    case measure=>simp [intOf];omega
  ·have hke:k=64:=by omega
   subst hke;have HRW:Hid (fD wr (w.heap.size+1) (au (gz xs 64))):=ae ⟨HS.out.var.lt,HS.out.var.cell⟩;have dR:Hid ((Tryz.prog.info? 170).map (·.size)=some (au (gz xs 64)).size):=ae (by rw [aV,HL.out];kernel_rfl);have iq:Hid ((au (List.replicate 64 0)).size=(au (gz xs 64)).size):=ae (by rw [aV,aV,HL.out];simp);go_wp2_with (first
    |(refine aT rfl _ _ rfl (w.heap.size+1) rfl (au (gz xs 64)) HRW.out _ Tryz.underlying170 rfl dR.out ?_)
    |(refine wpList_store_row rfl _ _ _ rfl w.heap.size (au (gz xs 64)) rfl rfl 170 (au (List.replicate 64 0)) HS.out.res.var dR.out iq.out (bJ _) ?_))
   refine bodyPost_ret (v:= .agg (au (gz xs 64))) (results_cell_row rfl _ _ w.heap.size _ (au (gz xs 64)) (0,0) _ rfl (setRow_heap _ _ _ _ _ _ HS.out.res.var) Tryz.underlying170 rfl dR.out) rfl ?_;exact ⟨rfl,aB HS.out.lo (Nat.le_refl _) _⟩
end Go.Proofs.YtdibbemgpikgjaaGreatDoor
