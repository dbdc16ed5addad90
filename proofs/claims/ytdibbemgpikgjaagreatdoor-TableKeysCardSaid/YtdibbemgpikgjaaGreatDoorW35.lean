/- The texts Ea, Eb, Ec, Ed, in this order. -/
import Derived.Test.YtdibbemgpikgjaaGreatDoorW00
import Derived.Laws.BitsAllLaws
import Derived.Test.YtdibbemgpikgjaaGreatDoorW09
import Derived.Test.YtdibbemgpikgjaaGreatDoorW14
import Derived.Test.YtdibbemgpikgjaaGreatDoorW32
import Derived.Test.YtdibbemgpikgjaaGreatDoorW33
set_option maxRecDepth 10000
set_option maxHeartbeats 8000000
namespace Go.Proofs.YtdibbemgpikgjaaGreatDoor
open Go Go.RowKit
theorem Jm (x y:Int):bits BinOp.or IntKind.u32 x y=bits BinOp.or IntKind.u32 y x:=by simp only [bits,BitVec.or_comm]
theorem kD (x n s:Int) (h:amt (-n)=s) (hs:s=32 - n):dZ x n=kZ x (amt (-n)):=by
 rw [h];subst hs;unfold dZ kZ;rw [Jm,show (32:Int) - (32 - n)=n by omega]
theorem tr7 (x:Int):dZ x 7=kZ x (amt (-7)):=kD x 7 25 (by decide+kernel) (by decide)
theorem tr18 (x:Int):dZ x 18=kZ x (amt (-18)):=kD x 18 14 (by decide+kernel) (by decide)
theorem tr17 (x:Int):dZ x 17=kZ x (amt (-17)):=kD x 17 15 (by decide+kernel) (by decide)
theorem tr19 (x:Int):dZ x 19=kZ x (amt (-19)):=kD x 19 13 (by decide+kernel) (by decide)
theorem tr6 (x:Int):dZ x 6=kZ x (amt (-6)):=kD x 6 26 (by decide+kernel) (by decide)
theorem tr11 (x:Int):dZ x 11=kZ x (amt (-11)):=kD x 11 21 (by decide+kernel) (by decide)
theorem tr25 (x:Int):dZ x 25=kZ x (amt (-25)):=kD x 25 7 (by decide+kernel) (by decide)
theorem tr2 (x:Int):dZ x 2=kZ x (amt (-2)):=kD x 2 30 (by decide+kernel) (by decide)
theorem tr13 (x:Int):dZ x 13=kZ x (amt (-13)):=kD x 13 19 (by decide+kernel) (by decide)
theorem tr22 (x:Int):dZ x 22=kZ x (amt (-22)):=kD x 22 10 (by decide+kernel) (by decide)
theorem Gf (a b i m:Nat) (hm:m=2 ^ i) (h:b<m):(a*m) ||| b=a*m+b:=by
 subst hm;rw [←Nat.shiftLeft_eq,Nat.shiftLeft_add_eq_or_of_lt h]
theorem Ub (x0 x1 x2 x3:Int) (a0:0≤x0) (b0:x0<256) (a1:0≤x1) (b1:x1<256) (a2:0≤x2) (b2:x2<256) (a3:0≤x3) (b3:x3<256):
  P8 x0 x1 x2 x3=x0*16777216+x1*65536+x2*256+x3:=by
 obtain ⟨n0,rfl⟩:=Int.eq_ofNat_of_zero_le a0;obtain ⟨n1,rfl⟩:=Int.eq_ofNat_of_zero_le a1;obtain ⟨n2,rfl⟩:=Int.eq_ofNat_of_zero_le a2;obtain ⟨n3,rfl⟩:=Int.eq_ofNat_of_zero_le a3;have w:∀n:Nat,n<4294967296→IntKind.u32.wrap (n:Int)=(n:Int):=fun n h=>by rw [IntKind.wrap_u32'];omega
 unfold P8;rw [w n0 (by omega),w n1 (by omega),w n2 (by omega),w n3 (by omega)];rw [show (n0:Int)*16777216=((n0*16777216:Nat):Int) by omega,show (n1:Int)*65536=((n1*65536:Nat):Int) by omega,show (n2:Int)*256=((n2*256:Nat):Int) by omega];rw [w _ (by omega),w _ (by omega),w _ (by omega)];rw [u32_or_nat _ _ (by omega) (by omega),Gf n0 (n1*65536) 24 16777216 (by decide) (by omega)];rw [u32_or_nat _ _ (by omega) (by omega),show n0*16777216+n1*65536=(n0*256+n1)*65536 by omega,Gf _ (n2*256) 16 65536 (by decide) (by omega)];rw [u32_or_nat _ _ (by omega) (by omega),show (n0*256+n1)*65536+n2*256=((n0*256+n1)*256+n2)*256 by omega,Gf _ n3 8 256 (by decide) (by omega)];omega
theorem WJ (e:Int) (h0:0≤e) (h1:e<4294967296):bits BinOp.xor IntKind.u32 (if IntKind.u32.signed=true then -1 else IntKind.u32.max) e=4294967295 - e:=by
 obtain ⟨n,rfl⟩:=Int.eq_ofNat_of_zero_le h0;rw [show (if IntKind.u32.signed=true then (-1:Int) else IntKind.u32.max)=((4294967295:Nat):Int) from by decide,u32_xor_nat _ _ (by decide) (by omega)];have h2:4294967295 ^^^ n=4294967295 - n:=by
  have h:=congrArg BitVec.toNat (BitVec.allOnes_xor (x:=BitVec.ofNat 32 n));rw [BitVec.toNat_xor,BitVec.toNat_not,BitVec.toNat_allOnes,BitVec.toNat_ofNat,Nat.mod_eq_of_lt (by omega)] at h;exact h
 rw [h2];omega
theorem JL.to {w W:World} {zs zs':List Int} (h:JL w zs W) (e:zs=zs'):JL w zs' W:=e▸h
theorem sch_in {xs:List UInt8} {zs:List Int} {k:Nat} {x0 x1 x2 x3:Int} (h:zs=gy xs k) (hk:k<16) (e0:((xs[4*k]?.getD 0).toNat:Int)=x0) (e1:((xs[4*k+1]?.getD 0).toNat:Int)=x1) (e2:((xs[4*k+2]?.getD 0).toNat:Int)=x2) (e3:((xs[4*k+3]?.getD 0).toNat:Int)=x3):
  zs.set k ((x0%4294967296*16777216+x1%4294967296*65536+x2%4294967296*256+x3)%4294967296)=gy xs (k+1):=by
 show _=(gy xs k).set k (if k<16 then wIn xs k else ER (gy xs k) k);have b0:=dn (xs[4*k]?.getD 0);have b1:=dn (xs[4*k+1]?.getD 0);have b2:=dn (xs[4*k+2]?.getD 0);have b3:=dn (xs[4*k+3]?.getD 0);rw [if_pos hk,h];unfold wIn;rw [Ub _ _ _ _ (by omega) (by omega) (by omega) (by omega) (by omega) (by omega) (by omega) (by omega),e0,e1,e2,e3];congr 1;omega
theorem TC {xs:List UInt8} {zs:List Int} {k:Nat} {za zx zb zy:Int} (h:zs=gy xs k) (hk:16≤k) (e0:zs[k - 16]?.getD 0=za) (e1:zs[k - 15]?.getD 0=zx) (e2:zs[k - 7]?.getD 0=zb) (e3:zs[k - 2]?.getD 0=zy):
  zs.set k ((((za+bits BinOp.xor IntKind.u32 (bits BinOp.xor IntKind.u32 (dZ zx 7) (dZ zx 18)) (zx / 8))%4294967296+zb)%4294967296+bits BinOp.xor IntKind.u32 (bits BinOp.xor IntKind.u32 (dZ zy 17) (dZ zy 19)) (zy / 1024))%4294967296)=gy xs (k+1):=by
 show _=(gy xs k).set k (if k<16 then wIn xs k else ER (gy xs k) k);rw [if_neg (by omega),←h];unfold ER CJ;rw [e0,e1,e2,e3,tr7,tr18,tr17,tr19];congr 1;generalize bits BinOp.xor IntKind.u32 (bits BinOp.xor IntKind.u32 (kZ zx (amt (-7))) (kZ zx (amt (-18)))) (zx / 8)=X;generalize bits BinOp.xor IntKind.u32 (bits BinOp.xor IntKind.u32 (kZ zy (amt (-17))) (kZ zy (amt (-19)))) (zy / 1024)=Y;omega
theorem Ru (w:World) (bb off c:Nat) (xs:List UInt8) (hx:xs.length=64) (hb:bb<w.heap.size) (hA:∀j,j<64→w.cell? ⟨bb,off+j,none⟩=some (Extern.Stop.cell (xs[j]?.getD 0))):
  Calls Tryz.prog 99 #[.slice (some ⟨bb,off,none⟩) 64 c] w fun e w'=>e= .returned (.agg (au (gy xs 64)))∧Below w.heap.size w w':=by
 have HX:=ae hx;have HA:=ae hA;clear hx hA;have hi0:=iV;obtain ⟨z64,wG⟩:∃l:List Int,List.replicate 64 0=l:=⟨_,rfl⟩;rw [wG] at hi0;have HI0:=ae hi0;have HZ:=ae wG;have HZL:Hid (z64.length=64):=ae (by rw [←wG];rfl);have ed:Hid ((Tryz.prog.info? 170).map (·.size)=some (au z64).size):=ae (by rw [aW,HZL.out];kernel_rfl);have HLIT:Hid (Value.agg (au z64)= .agg #[.int .u32 0, .int .u32 0, .int .u32 0, .int .u32 0, .int .u32 0, .int .u32 0, .int .u32 0, .int .u32 0, .int .u32 0, .int .u32 0, .int .u32 0, .int .u32 0, .int .u32 0, .int .u32 0, .int .u32 0, .int .u32 0, .int .u32 0, .int .u32 0, .int .u32 0, .int .u32 0, .int .u32 0, .int .u32 0, .int .u32 0, .int .u32 0, .int .u32 0, .int .u32 0, .int .u32 0, .int .u32 0, .int .u32 0, .int .u32 0, .int .u32 0, .int .u32 0, .int .u32 0, .int .u32 0, .int .u32 0, .int .u32 0, .int .u32 0, .int .u32 0, .int .u32 0, .int .u32 0, .int .u32 0, .int .u32 0, .int .u32 0, .int .u32 0, .int .u32 0, .int .u32 0, .int .u32 0, .int .u32 0, .int .u32 0, .int .u32 0, .int .u32 0, .int .u32 0, .int .u32 0, .int .u32 0, .int .u32 0, .int .u32 0, .int .u32 0, .int .u32 0, .int .u32 0, .int .u32 0, .int .u32 0, .int .u32 0, .int .u32 0, .int .u32 0]):=ae (by rw [←wG];rfl);clear hi0 wG;go_enter Tryz.func99,Tryz.ntmps99;go_wp2_with (first
  |(refine aG rfl _ rfl (au z64) HI0.out ?_)
  |((with_reducible refine dO 170 ?_);go_must (refine wpList_store_row rfl _ _ _ rfl (w.alloc (.cells (au z64) 170)).heap.size (au z64) rfl HLIT.out.symm 170 (au z64) (heap_alloc_last _ _) ed.out rfl (bH _) ?_)))
 have H0:Hid (JL w z64 (((w.alloc (.cells (au z64) 170)).alloc (.cells (au z64) 170)).setRow (w.heap.size+1) (au z64))):=ae ⟨⟨setRow_heap _ _ _ _ _ _ (heap_alloc2_new w _ _)⟩,⟨by rw [HZ.out];exact (setRow_other _ _ _ _ (by omega)).trans (heap_alloc2_old w _ _)⟩,below_setRow (ah (ag w _) (ag _ _)) (by omega) _⟩
 go_loopw [4] (fun i wr=>∃(k:Nat) (zs:List Int),k≤16∧i=I k∧zs.length=64∧zs=gy xs k∧JL w zs wr) (fun i _=>16 - (intOf i).toNat)
 case atStart=>exact ⟨0,z64,Nat.zero_le _,rfl,HZL.out,HZ.out.symm,H0.out⟩
 case round=>
  obtain ⟨k,zs,hk,rfl,hzl,hzs,hs⟩:=hrel;have OW:=ae hzs;have HS:=ae hs;have HL:=ae hzl;clear H0 hs hzl hzs;by_cases hlt:(k:Int)<16
  ·obtain ⟨p,hp⟩:∃p:Nat,4*k=p:=⟨_,rfl⟩;obtain ⟨p1,hp1⟩:∃q:Nat,p+1=q:=⟨_,rfl⟩;obtain ⟨p2,hp2⟩:∃q:Nat,p+2=q:=⟨_,rfl⟩;obtain ⟨p3,hp3⟩:∃q:Nat,p+3=q:=⟨_,rfl⟩;have c0:wr.cell? ⟨bb,off+p,none⟩=some (Extern.Stop.cell (xs[p]?.getD 0)):=(HS.out.lo.cell (p:=⟨bb,off+p,none⟩) hb).trans (HA.out p (by omega));have c1:wr.cell? ⟨bb,off+p1,none⟩=some (Extern.Stop.cell (xs[p1]?.getD 0)):=(HS.out.lo.cell (p:=⟨bb,off+p1,none⟩) hb).trans (HA.out p1 (by omega));have c2:wr.cell? ⟨bb,off+p2,none⟩=some (Extern.Stop.cell (xs[p2]?.getD 0)):=(HS.out.lo.cell (p:=⟨bb,off+p2,none⟩) hb).trans (HA.out p2 (by omega));have c3:wr.cell? ⟨bb,off+p3,none⟩=some (Extern.Stop.cell (xs[p3]?.getD 0)):=(HS.out.lo.cell (p:=⟨bb,off+p3,none⟩) hb).trans (HA.out p3 (by omega));obtain ⟨x0,e0⟩:∃x:Int,((xs[p]?.getD 0).toNat:Int)=x:=⟨_,rfl⟩;obtain ⟨x1,e1⟩:∃x:Int,((xs[p1]?.getD 0).toNat:Int)=x:=⟨_,rfl⟩;obtain ⟨x2,e2⟩:∃x:Int,((xs[p2]?.getD 0).toNat:Int)=x:=⟨_,rfl⟩;obtain ⟨x3,e3⟩:∃x:Int,((xs[p3]?.getD 0).toNat:Int)=x:=⟨_,rfl⟩;replace c0:wr.cell? ⟨bb,off+p,none⟩=some (.int .u8 x0):=c0.trans (by rw [←e0];rfl);replace c1:wr.cell? ⟨bb,off+p1,none⟩=some (.int .u8 x1):=c1.trans (by rw [←e1];rfl);replace c2:wr.cell? ⟨bb,off+p2,none⟩=some (.int .u8 x2):=c2.trans (by rw [←e2];rfl);replace c3:wr.cell? ⟨bb,off+p3,none⟩=some (.int .u8 x3):=c3.trans (by rw [←e3];rfl);have g0:4*(k:Int)=(p:Int):=by omega
   have g1:(p:Int)+1=(p1:Int):=by omega
   have g2:(p:Int)+2=(p2:Int):=by omega
   have g3:(p:Int)+3=(p3:Int):=by omega
   have w0:IntKind.i64.wrap (p:Int)=(p:Int):=by rw [IntKind.wrap_i64];omega
   have w1:IntKind.i64.wrap (p1:Int)=(p1:Int):=by rw [IntKind.wrap_i64];omega
   have w2:IntKind.i64.wrap (p2:Int)=(p2:Int):=by rw [IntKind.wrap_i64];omega
   have w3:IntKind.i64.wrap (p3:Int)=(p3:Int):=by rw [IntKind.wrap_i64];omega
   have b0:(p:Int)<64:=by omega
   have b1:(p1:Int)<64:=by omega
   have b2:(p2:Int)<64:=by omega
   have b3:(p3:Int)<64:=by omega
   have HE:=ae (And.intro (And.intro e0 e1) (And.intro e2 e3));have HP:=ae (And.intro hp (And.intro hp1 (And.intro hp2 hp3)));clear e0 e1 e2 e3 hp hp1 hp2 hp3;obtain ⟨z0,hz0⟩:∃z,zs[k]?.getD 0=z:=⟨_,rfl⟩;have hv:wr.cell? ⟨w.heap.size+1,k,none⟩=some (.int .u32 z0):=(HS.out.var.cell k).trans (by rw [bU _ _ (by rw [HL.out];omega),hz0]);have hf:=HS.out.var.dV k;have Lc:(k:Int)<64:=by omega
   go_wp2_with fail;go_still_tail 35,(by kernel_rfl);change wpList _ _ _ _ _ wr.drew;go_wp2_with fail;go_roundw
   case rel=>exact ⟨k+1,gy xs (k+1),by omega,by go_num,nD _ _,rfl,(HS.out.drew.put k _).to (sch_in OW.out (by omega) (by rw [HP.out.1];exact HE.out.1.1) (by rw [HP.out.1,HP.out.2.1];exact HE.out.1.2) (by rw [HP.out.1,HP.out.2.2.1];exact HE.out.2.1) (by rw [HP.out.1,HP.out.2.2.2];exact HE.out.2.2))⟩
   case measure=>simp [intOf];omega
  ·have H1:Hid (∃zs:List Int,zs.length=64∧zs=gy xs 16∧JL w zs wr):=ae ⟨zs,HL.out,by rw [OW.out,show k=16 by omega],HS.out⟩;go_wp2_with fail
   go_loopw [5] (fun i wr=>∃(k:Nat) (zs:List Int),16≤k∧k≤64∧i=I k∧zs.length=64∧zs=gy xs k∧JL w zs wr) (fun i _=>64 - (intOf i).toNat)
   case atStart=>exact H1.out.elim fun zs h=>⟨16,zs,by omega,by omega,rfl,h.1,h.2.1,h.2.2⟩
   case round=>
    clear hlt HS HL OW;obtain ⟨k,zs,hk0,hk,rfl,hzl,hzs,hs⟩:=hrel;have OW:=ae hzs;have HS:=ae hs;have HL:=ae hzl;clear hs hzl hzs;by_cases hlt:(k:Int)<64
    ·obtain ⟨q16,Sv⟩:∃q:Nat,k - 16=q:=⟨_,rfl⟩;obtain ⟨L6,Su⟩:∃q:Nat,k - 15=q:=⟨_,rfl⟩;obtain ⟨q7,hq7⟩:∃q:Nat,k - 7=q:=⟨_,rfl⟩;obtain ⟨q2,hq2⟩:∃q:Nat,k - 2=q:=⟨_,rfl⟩;obtain ⟨za,hza⟩:∃z,zs[q16]?.getD 0=z:=⟨_,rfl⟩;obtain ⟨zx,hzx⟩:∃z,zs[L6]?.getD 0=z:=⟨_,rfl⟩;obtain ⟨zb,hzb⟩:∃z,zs[q7]?.getD 0=z:=⟨_,rfl⟩;obtain ⟨zy,hzy⟩:∃z,zs[q2]?.getD 0=z:=⟨_,rfl⟩;have va:∀n,(wr.drewN n).cell? ⟨w.heap.size+1,q16,none⟩=some (.int .u32 za):=fun n=>(HS.out.var.cell q16).trans (by rw [bU _ _ (by rw [HL.out];omega),hza]);have vx:wr.cell? ⟨w.heap.size+1,L6,none⟩=some (.int .u32 zx):=(HS.out.var.cell L6).trans (by rw [bU _ _ (by rw [HL.out];omega),hzx]);have vb:∀n,(wr.drewN n).cell? ⟨w.heap.size+1,q7,none⟩=some (.int .u32 zb):=fun n=>(HS.out.var.cell q7).trans (by rw [bU _ _ (by rw [HL.out];omega),hzb]);have vy:wr.cell? ⟨w.heap.size+1,q2,none⟩=some (.int .u32 zy):=(HS.out.var.cell q2).trans (by rw [bU _ _ (by rw [HL.out];omega),hzy]);have g16:(k:Int) - 16=(q16:Int):=by omega
     have g15:(k:Int) - 15=(L6:Int):=by omega
     have g7:(k:Int) - 7=(q7:Int):=by omega
     have g2:(k:Int) - 2=(q2:Int):=by omega
     obtain ⟨z0,hz0⟩:∃z,zs[k]?.getD 0=z:=⟨_,rfl⟩;have v0:∀n,(wr.drewN n).cell? ⟨w.heap.size+1,k,none⟩=some (.int .u32 z0):=fun n=>(HS.out.var.cell k).trans (by rw [bU _ _ (by rw [HL.out];omega),hz0]);have hf:∀n,(wr.drewN n).frozen? ⟨w.heap.size+1,k,none⟩=false:=fun n=>HS.out.var.dV k;have HQ:=ae (show zs[k - 16]?.getD 0=za∧zs[k - 15]?.getD 0=zx∧zs[k - 7]?.getD 0=zb∧zs[k - 2]?.getD 0=zy from ⟨by rw [Sv];exact hza,by rw [Su];exact hzx,by rw [hq7];exact hzb,by rw [hq2];exact hzy⟩);clear hza hzx hzb hzy Sv Su hq7 hq2 hz0;have wq16:IntKind.i64.wrap (q16:Int)=(q16:Int):=by rw [IntKind.wrap_i64];omega
     have wq15:IntKind.i64.wrap (L6:Int)=(L6:Int):=by rw [IntKind.wrap_i64];omega
     have wq7:IntKind.i64.wrap (q7:Int)=(q7:Int):=by rw [IntKind.wrap_i64];omega
     have wq2:IntKind.i64.wrap (q2:Int)=(q2:Int):=by rw [IntKind.wrap_i64];omega
     have b16:(q16:Int)<64:=by omega
     have b15:(L6:Int)<64:=by omega
     have b7:(q7:Int)<64:=by omega
     have b2:(q2:Int)<64:=by omega
     go_wp2_with fail;go_quiet (fail);go_wp2_with fail;have n16:(⟨w.heap.size+1,k,none⟩:Addr)≠⟨w.heap.size+1,q16,none⟩:=fun e=>by have:=congrArg Addr.off e;simp at this;omega
     have n7:(⟨w.heap.size+1,k,none⟩:Addr)≠⟨w.heap.size+1,q7,none⟩:=fun e=>by have:=congrArg Addr.off e;simp at this;omega
     go_region_held3 (fun W=>W.cell? ⟨w.heap.size+1,q16,none⟩=some (.int .u32 za)∧W.cell? ⟨w.heap.size+1,q7,none⟩=some (.int .u32 zb))
      (first|exact ⟨va 0,vb 0⟩|exact ⟨(World.cell?_setCell_other _ _ _ _ n16).trans (va 0),(World.cell?_setCell_other _ _ _ _ n7).trans (vb 0)⟩)
      (first|(go_at_call 101;refine (TT _ _ _ (by omega) (by omega)).mono ?_;rintro e wf ⟨rfl,m,rfl⟩))
     all_goals
      go_wp2_with fail;go_roundw
      case rel=>exact ⟨k+1,gy xs (k+1),by omega,by omega,by go_num,nD _ _,rfl,((HS.out.drewN _).put k _).to (TC OW.out hk0 HQ.out.1 HQ.out.2.1 HQ.out.2.2.1 HQ.out.2.2.2)⟩
      case measure=>simp [intOf];omega
    ·have hke:k=64:=by omega
     have ni:Hid ((Tryz.prog.info? 170).map (·.size)=some (au zs).size):=ae (by rw [aW,HL.out];kernel_rfl);have HRW:Hid (fH wr (w.heap.size+1) (au zs)):=ae ⟨HS.out.var.lt,HS.out.var.cell⟩;have iP:Hid ((au (List.replicate 64 0)).size=(au zs).size):=ae (by rw [aW,aW,HL.out];simp);go_wp2_with (first
      |((with_reducible refine fA 170 ?_);go_must (refine aQ rfl _ _ rfl (w.heap.size+1) rfl (au zs) HRW.out _ Tryz.underlying170 rfl ni.out ?_))
      |((with_reducible refine dO 170 ?_);go_must (refine wpList_store_row rfl _ _ _ rfl w.heap.size (au zs) rfl rfl 170 (au (List.replicate 64 0)) HS.out.res.var ni.out iP.out (bH _) ?_)))
     refine bodyPost_ret (v:= .agg (au zs)) (results_cell_row rfl _ _ w.heap.size _ (au zs) (0,0) _ rfl (setRow_heap _ _ _ _ _ _ HS.out.res.var) Tryz.underlying170 rfl ni.out) rfl ?_;exact ⟨by rw [OW.out,hke],aB HS.out.lo (Nat.le_refl _) _⟩
theorem Bd.tto {w W:World} {wb:Nat} {cs ws ks:Array Value} {zs zs':List Int} (h:Bd w wb cs (au zs) ws ks W) (e:zs=zs'):Bd w wb cs (au zs') ws ks W:=e▸h
theorem IX {ks ws ss:List Int} (h:∀z∈ss,0≤z∧z<4294967296):∀k,∀z∈rT ks ws ss k,0≤z∧z<4294967296
 |0=>h
 |k+1=>by
  have ih:=IX (ks:=ks) (ws:=ws) h k;show∀z∈Cb _ _ (rT ks ws ss k),_;unfold Cb;split
  ·rename_i a b c d e f g i he;rw [he] at ih;intro z hz;simp only [List.mem_cons,List.not_mem_nil,or_false] at hz ih;rcases hz with rfl|rfl|rfl|rfl|rfl|rfl|rfl|rfl
   ·omega
   ·exact ih _ (by simp)
   ·exact ih _ (by simp)
   ·exact ih _ (by simp)
   ·omega
   ·exact ih _ (by simp)
   ·exact ih _ (by simp)
   ·exact ih _ (by simp)
  ·exact ih
theorem Wj {ks ws ss:List Int} {k:Nat} {t0 t1 t2 t3 t4 t5 t6 t7 wk kk X Y:Int} (h: [t0,t1,t2,t3,t4,t5,t6,t7]=rT ks ws ss k) (hb:0≤t4∧t4<4294967296) (hw:ws[k]?.getD 0=wk) (hk:ks[k]?.getD 0=kk)
  (hX:(((t7+bits BinOp.xor IntKind.u32 (bits BinOp.xor IntKind.u32 (dZ t4 6) (dZ t4 11)) (dZ t4 25)+bits BinOp.xor IntKind.u32 (bits BinOp.and IntKind.u32 t4 t5) (bits BinOp.and IntKind.u32 ((4294967295 - t4)%4294967296) t6)+kk)%4294967296+wk)%4294967296)=X)
  (hY:((bits BinOp.xor IntKind.u32 (bits BinOp.xor IntKind.u32 (dZ t0 2) (dZ t0 13)) (dZ t0 22)+bits BinOp.xor IntKind.u32 (bits BinOp.xor IntKind.u32 (bits BinOp.and IntKind.u32 t0 t1) (bits BinOp.and IntKind.u32 t0 t2)) (bits BinOp.and IntKind.u32 t1 t2))%4294967296)=Y):
  [(X+Y)%4294967296,t0,t1,t2,(t3+X)%4294967296,t4,t5,t6]=rT ks ws ss (k+1):=by
 have e1:X=xF t4 t5 t6 t7 kk wk:=by
  rw [←hX,tr6,tr11,tr25,show (4294967295 - t4)%4294967296=4294967295 - t4 by omega];unfold xF;rw [WJ t4 hb.1 hb.2];simp only [IntKind.wrap_u32'];generalize bits BinOp.xor IntKind.u32 (bits BinOp.xor IntKind.u32 (kZ t4 (amt (-6))) (kZ t4 (amt (-11)))) (kZ t4 (amt (-25)))=A;generalize bits BinOp.xor IntKind.u32 (bits BinOp.and IntKind.u32 t4 t5) (bits BinOp.and IntKind.u32 (4294967295 - t4) t6)=B;omega
 have e2:Y=yF t0 t1 t2:=by
  rw [←hY,tr2,tr13,tr22];unfold yF;rw [IntKind.wrap_u32']
 show _=Cb (ks[k]?.getD 0) (ws[k]?.getD 0) (rT ks ws ss k);rw [←h,hw,hk,e1,e2];rfl
theorem PS {ts ss zs:List Int} {j:Nat} {sj tj:Int} (h:zs=sumT ts ss j) (hs:ss[j]?.getD 0=sj) (ht:zs[j]?.getD 0=tj):zs.set j ((tj+sj)%4294967296)=sumT ts ss (j+1):=by
 show _=(sumT ts ss j).set j (((ts[j]?.getD 0)+(ss[j]?.getD 0))%4294967296);rw [←h,←hs,←ht,h,Jc ts ss j j (Nat.le_refl _)]
theorem PR {ts ss:List Int} (ht:ts.length=8) (hs:ss.length=8):sumT ts ss 8=sumT ss ts 8:=by
 obtain ⟨a0,a1,a2,a3,a4,a5,a6,a7,rfl⟩:=BG ht;obtain ⟨b0,b1,b2,b3,b4,b5,b6,b7,rfl⟩:=BG hs;simp [sumT,Int.add_comm]
theorem step_x (w:World) (bb off c:Nat) (ss:List Int) (hs:ss.length=8) (hsb:∀z∈ss,0≤z∧z<4294967296) (xs:List UInt8) (hx:xs.length=64) (hb:bb<w.heap.size) (hA:∀j,j<64→w.cell? ⟨bb,off+j,none⟩=some (Extern.Stop.cell (xs[j]?.getD 0))):
  Calls Tryz.prog 82 #[.agg (au ss), .slice (some ⟨bb,off,none⟩) 64 c] w fun e w'=>e= .returned (.agg (au (Bi uy ss xs)))∧Below w.heap.size w w':=by
 have tX:=ae hsb;clear hsb;obtain ⟨cs,hcs⟩:∃a,au ss=a:=⟨_,rfl⟩;rw [hcs];have hz:cs.size=8:=by rw [←hcs,aW,hs]
 have Yn:=ae hcs;have su:=ae hs;have H0:=ae (Vf.start w cs);have HEX:Hid (∀W,Below w.heap.size w W→Calls Tryz.prog 99 #[.slice (some ⟨bb,off,none⟩) 64 c] W fun e w'=>e= .returned (.agg (au (gy xs 64)))∧Below W.heap.size W w'):=
  ae fun W h=>Ru W bb off c xs hx (dQ hb h.size) fun j hj=>(h.cell (p:=⟨bb,off+j,none⟩) hb).trans (hA j hj)
 have OJ:Hid ((Tryz.prog.info? 117).map (·.size)=some cs.size):=ae (by rw [hz];kernel_rfl);have vG:Hid ((au (List.replicate 8 0)).size=cs.size):=ae (by rw [aW,hz];simp);have lY:Hid (cs.all (·.oneCell')=true):=ae (by rw [←hcs];exact bH _);clear hx hA hcs hs hz;go_enter Tryz.func82,Tryz.ntmps82;go_upto_region 1 with (first
  |((with_reducible refine bn 117 ?_);go_must (refine aG rfl _ rfl (au (List.replicate 8 0)) uG ?_)))
 generalize (w.alloc (.cells cs 117)).alloc (.cells (au (List.replicate 8 0)) 117)=W0 at H0 ⊢;go_wp2_with fail;refine (HEX.out _ H0.out.lo).mono ?_;rintro e w1 ⟨rfl,hb1⟩;obtain ⟨ws,hws⟩:∃l,gy xs 64=l:=⟨_,rfl⟩;rw [hws];have hwl:ws.length=64:=by rw [←hws];exact nD _ _
 have HWS:=ae hws;clear hws;have H1:=ae (H0.out.grow hb1);have HWL:=ae hwl;clear hb1 H0 HEX hwl;go_wp2_with fail;refine (Tv w1).mono ?_;rintro e w2 ⟨rfl,hb2⟩;have H2:=ae (H1.out.grow hb2);clear hb2 H1;rw [WO];obtain ⟨ks,hks⟩:∃l,uy=l:=⟨_,rfl⟩;rw [hks];have oP:Hid (ks.length=64):=ae (by rw [←hks];rfl);have HKS:=ae hks;clear hks;have H3:=ae (Bd.start H2.out (au ws) (au ks) (au (List.replicate 64 0)));have HI4:Hid ((Tryz.prog.info? 170).map (·.size)=some (au ws).size):=ae (by rw [aW,HWL.out];kernel_rfl);have Qk:Hid ((Tryz.prog.info? 170).map (·.size)=some (au ks).size):=ae (by rw [aW,oP.out];kernel_rfl);have Kv:Hid ((au (List.replicate 64 0)).size=(au ws).size):=ae (by rw [aW,aW,HWL.out];simp);have OU:Hid ((au (List.replicate 64 0)).size=(au ks).size):=ae (by rw [aW,aW,oP.out];simp);obtain ⟨u64,hu64⟩:∃l:List Int,List.replicate 64 0=l:=⟨_,rfl⟩;rw [hu64] at H3 Kv OU;have HUI:Hid ((Tryz.prog.info? 170).map (fun i=>(i.zero,i.size))=some (some (.agg (au u64)),(au u64).size)):=ae (by rw [←hu64];exact iV);clear hu64;obtain ⟨u8,X3⟩:∃l:List Int,List.replicate 8 0=l:=⟨_,rfl⟩;rw [X3] at H3 vG;have HU8:Hid ((Tryz.prog.info? 117).map (fun i=>(i.zero,i.size))=some (some (.agg (au u8)),(au u8).size)):=ae (by rw [←X3];exact uG);clear X3;go_upto_region 2 with (first
  |((with_reducible refine bn 170 ?_);go_must (refine aG rfl _ rfl (au u64) HUI.out ?_))
  |((with_reducible refine dO 170 ?_);go_must (first
    |(refine wpList_store_row rfl _ _ _ rfl w2.heap.size (au ws) rfl rfl 170 (au u64) (heap_alloc2_old w2 _ _) HI4.out Kv.out (bH _) ?_)
    |(refine wpList_store_row rfl _ _ _ rfl (w2.heap.size+1) (au ks) (congrArg (fun b=>Value.pointer (some ⟨b,0,none⟩)) (oU w2 _)) rfl 170 (au u64) ((setRow_other _ _ _ _ (by omega)).trans (heap_alloc2_new w2 _ _)) Qk.out OU.out (bH _) ?_))))
 have HR4:=ae (Wv H2.out (au u64) (au ws) (au ks));have HV5:=ae (Wy w2 (au u64) (au ws) (au ks) (au u8));have Ac:=ae (Jb w2 (au u64) (au ws) (au ks));generalize ((((w2.alloc (.cells (au u64) 170)).alloc (.cells (au u64) 170)).setRow w2.heap.size (au ws)).setRow (w2.heap.size+1) (au ks))=W4 at H3 HR4 HV5 Ac ⊢;obtain ⟨wb,hwb⟩:∃b,w2.heap.size=b:=⟨_,rfl⟩;rw [hwb] at H3 HV5 Ac;rw [oU w2,hwb];clear hwb H2 Kv OU HUI;go_wp2_with (first
  |((with_reducible refine fA 117 ?_);go_must (refine aQ rfl _ _ rfl w.heap.size rfl cs HR4.out _ Tryz.underlying117 rfl OJ.out ?_))
  |((with_reducible refine bn 117 ?_);go_must (refine aG rfl _ rfl (au u8) HU8.out ?_))
  |((with_reducible refine dO 117 ?_);go_must (refine wpList_store_row rfl _ _ _ rfl (wb+2) cs (congrArg (fun b=>Value.pointer (some ⟨b,0,none⟩)) Ac.out) rfl 117 (au u8) HV5.out OJ.out vG.out lY.out ?_)))
 generalize (W4.alloc (.cells (au u8) 117)).setRow (wb+2) cs=W6 at H3 ⊢;rw [Ac.out];clear HR4 HV5 Ac vG HU8
 go_loopw [8] (fun i wr=>∃(k:Nat) (ts:List Int),k≤64∧i=I k∧ts.length=8∧ts=rT ks ws ss k∧(∀z∈ts,0≤z∧z<4294967296)∧Bd w wb cs (au ts) (au ws) (au ks) wr) (fun i _=>64 - (intOf i).toNat)
 case atStart=>exact ⟨0,ss,Nat.zero_le _,rfl,su.out,rfl,tX.out,by rw [Yn.out];exact H3.out⟩
 case round=>
  obtain ⟨k,ts,hk,rfl,htl,hts,hbd,hs⟩:=hrel;have Dp:=ae hts;have Xr:=ae hbd;have HS:=ae hs;clear H3 hs hts hbd;by_cases hlt:(k:Int)<64
  ·obtain ⟨t0,t1,t2,t3,t4,t5,t6,t7,rfl⟩:=BG htl;clear htl;have HB4:Hid (0≤t4∧t4<4294967296):=ae (Xr.out t4 (by simp));have c0:wr.cell? ⟨wb+2,0,none⟩=some (.int .u32 t0):=HS.out.t.cell 0;have c4:wr.cell? ⟨wb+2,4,none⟩=some (.int .u32 t4):=HS.out.t.cell 4;go_wp2_with fail;go_quiet (fail);obtain ⟨W7,RP⟩:∃W,wr.drewN nq=W:=⟨_,rfl⟩;rw [RP];have Qn:Hid (Bd w wb cs (au [t0,t1,t2,t3,t4,t5,t6,t7]) (au ws) (au ks) W7):=ae (by rw [←RP];exact HS.out.drewN nq);clear RP c0 c4 HS;obtain ⟨wk,hwk⟩:∃z,ws[k]?.getD 0=z:=⟨_,rfl⟩;obtain ⟨kk,hkk⟩:∃z,ks[k]?.getD 0=z:=⟨_,rfl⟩;have cw:W7.cell? ⟨wb,k,none⟩=some (.int .u32 wk):=(Qn.out.w.cell k).trans (by rw [bU _ _ (by rw [HWL.out];omega),hwk]);have ck:W7.cell? ⟨wb+1,k,none⟩=some (.int .u32 kk):=(Qn.out.k.cell k).trans (by rw [bU _ _ (by rw [oP.out];omega),hkk]);have HWK:Hid (ws[k]?.getD 0=wk∧ks[k]?.getD 0=kk):=ae ⟨hwk,hkk⟩;clear hwk hkk;have c0:W7.cell? ⟨wb+2,0,none⟩=some (.int .u32 t0):=Qn.out.t.cell 0;have c1:W7.cell? ⟨wb+2,1,none⟩=some (.int .u32 t1):=Qn.out.t.cell 1;have c2:W7.cell? ⟨wb+2,2,none⟩=some (.int .u32 t2):=Qn.out.t.cell 2;have c3:W7.cell? ⟨wb+2,3,none⟩=some (.int .u32 t3):=Qn.out.t.cell 3;have c4:W7.cell? ⟨wb+2,4,none⟩=some (.int .u32 t4):=Qn.out.t.cell 4;have c5:W7.cell? ⟨wb+2,5,none⟩=some (.int .u32 t5):=Qn.out.t.cell 5;have c6:W7.cell? ⟨wb+2,6,none⟩=some (.int .u32 t6):=Qn.out.t.cell 6;have c7:W7.cell? ⟨wb+2,7,none⟩=some (.int .u32 t7):=Qn.out.t.cell 7;go_wp2_with fail;go_quiet ((go_at_call 101;exact CG _ _ _ _ (by omega) (by omega)));generalize hX:(((t7+bits BinOp.xor IntKind.u32 (bits BinOp.xor IntKind.u32 (dZ t4 6) (dZ t4 11)) (dZ t4 25)+bits BinOp.xor IntKind.u32 (bits BinOp.and IntKind.u32 t4 t5) (bits BinOp.and IntKind.u32 ((4294967295 - t4)%4294967296) t6)+kk)%4294967296+wk)%4294967296)=X;have HX:=ae hX;clear hX;obtain ⟨W8,hW8⟩:∃W,W7.drewN nq=W:=⟨_,rfl⟩;rw [hW8];have HS8:Hid (Bd w wb cs (au [t0,t1,t2,t3,t4,t5,t6,t7]) (au ws) (au ks) W8):=ae (by rw [←hW8];exact Qn.out.drewN nq);clear hW8 c0 c1 c2 c3 c4 c5 c6 c7 cw ck Qn;have c1:W8.cell? ⟨wb+2,1,none⟩=some (.int .u32 t1):=HS8.out.t.cell 1;have c2:W8.cell? ⟨wb+2,2,none⟩=some (.int .u32 t2):=HS8.out.t.cell 2;go_wp2_with fail;go_quiet ((go_at_call 101;exact CG _ _ _ _ (by omega) (by omega)));generalize hY:((bits BinOp.xor IntKind.u32 (bits BinOp.xor IntKind.u32 (dZ t0 2) (dZ t0 13)) (dZ t0 22)+bits BinOp.xor IntKind.u32 (bits BinOp.xor IntKind.u32 (bits BinOp.and IntKind.u32 t0 t1) (bits BinOp.and IntKind.u32 t0 t2)) (bits BinOp.and IntKind.u32 t1 t2))%4294967296)=Y;have HY:=ae hY;clear hY;obtain ⟨W9,hW9⟩:∃W,W8.drewN nq=W:=⟨_,rfl⟩;rw [hW9];have Uw:Hid (Bd w wb cs (au [t0,t1,t2,t3,t4,t5,t6,t7]) (au ws) (au ks) W9):=ae (by rw [←hW9];exact HS8.out.drewN nq);clear hW9 c1 c2 HS8;have c0:W9.cell? ⟨wb+2,0,none⟩=some (.int .u32 t0):=Uw.out.t.cell 0;have c1:W9.cell? ⟨wb+2,1,none⟩=some (.int .u32 t1):=Uw.out.t.cell 1;have c2:W9.cell? ⟨wb+2,2,none⟩=some (.int .u32 t2):=Uw.out.t.cell 2;have c3:W9.cell? ⟨wb+2,3,none⟩=some (.int .u32 t3):=Uw.out.t.cell 3;have c4:W9.cell? ⟨wb+2,4,none⟩=some (.int .u32 t4):=Uw.out.t.cell 4;have c5:W9.cell? ⟨wb+2,5,none⟩=some (.int .u32 t5):=Uw.out.t.cell 5;have c6:W9.cell? ⟨wb+2,6,none⟩=some (.int .u32 t6):=Uw.out.t.cell 6;have c7:W9.cell? ⟨wb+2,7,none⟩=some (.int .u32 t7):=Uw.out.t.cell 7;have HI9:Hid ((Tryz.prog.info? 117).map (·.size)=some (au [(X+Y)%4294967296,t0,t1,t2,(t3+X)%4294967296,t4,t5,t6]).size):=ae (by kernel_rfl);go_wp2_with ((with_reducible refine dO 117 ?_);go_must (refine wpList_store_row rfl _ _ _ rfl (wb+2) (au [(X+Y)%4294967296,t0,t1,t2,(t3+X)%4294967296,t4,t5,t6]) rfl rfl 117 (au [t0,t1,t2,t3,t4,t5,t6,t7]) Uw.out.t.var HI9.out rfl (bH _) ?_));go_roundw
   case rel=>exact ⟨k+1,rT ks ws ss (k+1),by omega,by go_num,yB _ _ _ su.out _,rfl,IX tX.out _,(Uw.out.row _).tto (Wj Dp.out HB4.out HWK.out.1 HWK.out.2 HX.out HY.out)⟩
   case measure=>simp [intOf];omega
  ·have xg:=ae htl;clear htl;go_wp2_with fail
   go_loopw [13] (fun i wr=>∃(k:Nat) (zs:List Int),k≤8∧i=I k∧zs.length=8∧zs=sumT ts ss k∧Bd w wb cs (au zs) (au ws) (au ks) wr) (fun i _=>8 - (intOf i).toNat)
   case atStart=>exact ⟨0,ts,Nat.zero_le _,rfl,xg.out,rfl,HS.out⟩
   case round=>
    clear HS;have Lc:k=64:=by omega
    have HK64:=ae Lc;clear hlt Lc;obtain ⟨j,zs,hj,rfl,hzl,hzs,hs⟩:=hrel;have OW:=ae hzs;clear hzs;have HS:=ae hs;have HL:=ae hzl;clear hs hzl;by_cases hlt:(j:Int)<8
    ·obtain ⟨sj,hsj⟩:∃z,ss[j]?.getD 0=z:=⟨_,rfl⟩;obtain ⟨tj,htj⟩:∃z,zs[j]?.getD 0=z:=⟨_,rfl⟩;have cS:wr.cell? ⟨w.heap.size,j,none⟩=some (.int .u32 sj):=(HS.out.b.s.cell j).trans (by rw [←Yn.out,bU _ _ (by rw [su.out];omega),hsj]);have cT:wr.cell? ⟨wb+2,j,none⟩=some (.int .u32 tj):=(HS.out.t.cell j).trans (by rw [bU _ _ (by rw [HL.out];omega),htj]);have cf:=HS.out.t.dV j;have HSJ:Hid (ss[j]?.getD 0=sj∧zs[j]?.getD 0=tj):=ae ⟨hsj,htj⟩;clear hsj htj;go_wp2_with fail;go_still_tail 9,(by kernel_rfl);change wpList _ _ _ _ _ wr.drew;go_wp2_with fail;go_roundw
     case rel=>exact ⟨j+1,sumT ts ss (j+1),by omega,by go_num,by rw [uA];exact xg.out,rfl,(HS.out.drew.put j _).tto (PS OW.out HSJ.out.1 HSJ.out.2)⟩
     case measure=>simp [intOf];omega
    ·have ni:Hid ((Tryz.prog.info? 117).map (·.size)=some (au zs).size):=ae (by rw [aW,HL.out];kernel_rfl);have HRW:Hid (fH wr (wb+2) (au zs)):=ae HS.out.t.jg;have iP:Hid ((au (List.replicate 8 0)).size=(au zs).size):=ae (by rw [aW,aW,HL.out];simp);go_wp2_with (first
      |((with_reducible refine fA 117 ?_);go_must (refine aQ rfl _ _ rfl (wb+2) rfl (au zs) HRW.out _ Tryz.underlying117 rfl ni.out ?_))
      |((with_reducible refine dO 117 ?_);go_must (refine wpList_store_row rfl _ _ _ rfl (w.heap.size+1) (au zs) rfl rfl 117 (au (List.replicate 8 0)) HS.out.b.r.var ni.out iP.out (bH _) ?_)))
     refine bodyPost_ret (v:= .agg (au zs)) (results_cell_row rfl _ _ (w.heap.size+1) _ (au zs) (0,0) _ rfl (setRow_heap _ _ _ _ _ _ HS.out.b.r.var) Tryz.underlying117 rfl ni.out) rfl ?_;have ZY:j=8:=by omega
     exact ⟨by rw [OW.out,ZY,PR xg.out su.out,Dp.out,HK64.out,←HWS.out,←HKS.out];rfl,aB HS.out.b.lo (Nat.le_succ _) _⟩
def szF (n j:Nat):UInt8:=byteOf (8*(n:Int) / 2 ^ (56 - 8*j))
theorem szF_at {n j:Nat} {i:Int} (h:7 - (j:Int)=i) (h0:0≤i):byteOf (8*(n:Int) / 2 ^ (8*i).toNat)=szF n j:=by
 unfold szF;rw [show (8*i).toNat=56 - 8*j by omega]
theorem Oe (n:Nat):Gh n=nX n:=by unfold Gh nX;omega
theorem Tq (n c:Nat) (A:Option Addr) (bs:List UInt8) (w:World) (hl:bs.length=n) (h0:0<n) (hn:n≤200000) (hb:aA w w.heap.size A (bs.map Extern.Stop.cell)):
  Calls Tryz.prog 81 #[.slice A n c] w (Xi w.heap.size (.slice none 0 0) w (nz bs)):=by
 obtain ⟨i0,hi,hz0,hz1,hz2⟩:=info_parts kG;have HI:=ae hi;have HZ0:=ae hz0;have HZ1:=ae hz1;have HZ2:=ae hz2;clear hi hz0 hz1 hz2;obtain ⟨b,off,rfl,nO,hcl⟩:=hb.there (by rw [List.length_map];omega);have hb0:∀j u,(bs.map Extern.Stop.cell)[j]? =some u→(w.alloc (.cells #[] 5)).cell? ((⟨b,off,none⟩:Addr).add j)=some u:=mf hb;have HB0:=ae hb0;have HE:=ae (gI w 5 1);have HL:=ae hl;have HNL:Hid ((bs.map Extern.Stop.cell).length=n*1):=ae (by rw [List.length_map,hl,Nat.mul_one]);have JX:Hid (∀u∈bs.map Extern.Stop.cell,u.oneCell'=true):=ae (fun u hu=>by obtain ⟨x,_,rfl⟩:=List.mem_map.1 hu;rfl);clear hb0 hcl hb hl;go_enter Tryz.func81,Tryz.ntmps81;go_wp2_with (at_builtin;go_must (refine wpList_append_own_at _ rfl _ _ 32 rfl w.heap.size 5 i0 (.int .u8 0) 1 1 Tryz.underlying32 HI.out HZ0.out HZ1.out HZ2.out rfl (by decide) _ 0 [] rfl HE.out ⟨b,off,none⟩ n c (bs.map Extern.Stop.cell) rfl HNL.out HB0.out JX.out (by unfold maxLen;omega) (by omega) (by simp) ?_));intro v' w1 hown hg _ hat;obtain ⟨A1,c1,rfl⟩:=eG hown;have H1:Hid (PB (.slice none 0 0) w bs A1 n c1 w1):=ae (PB.fresh (by unfold nJ;simpa using hown) HL.out hg hat);have hsz:w.heap.size≤w1.heap.size:=H1.out.keep.size;clear hown hg hat;have Ny:=ae (World.ownsRow.alloc H1.out.own (.cells #[Value.int .u8 128] 5));go_wp2_with (at_builtin;go_must (refine wpList_append_own_at _ rfl _ _ 32 rfl w.heap.size 5 i0 (.int .u8 0) 1 1 Tryz.underlying32 HI.out HZ0.out HZ1.out HZ2.out rfl (by decide) _ n ((bs).map Extern.Stop.cell) rfl Ny.out _ 1 1 [Value.int .u8 128] rfl rfl (cell_one_new _ _ _) (wO _) (by unfold maxLen;omega) (by omega) (by simp;omega) ?_));intro v' w2 hown hg _ hat;obtain ⟨A2,c2,rfl⟩:=eG hown;have H2:=ae (H1.out.grown (bs':=bs++ [128]) (by unfold nJ;rw [List.map_append];exact hown) (by rw [aZ,HL.out];rfl) hg hat);clear hown hg hat;have hpl:=Og n;have Nz:=ae (IQ n);obtain ⟨p,hp⟩:∃p,Gh n=p:=⟨_,rfl⟩;have HP:=ae hp;rw [hp] at hpl Nz;clear hp hsz;go_wp2_with fail
 go_loopw [3] (fun b wr=>∃k n2 c A,k≤p∧n2=n+1+k∧b= .slice A n2 c∧PB (.slice none 0 0) w (bs++ [128]++List.replicate k 0) A n2 c wr) (fun b _=>n+1+p - lenV b)
 case atStart=>exact ⟨0,n+1,c2,A2,Nat.zero_le _,rfl,rfl,by simpa using H2.out⟩
 case round=>
  obtain ⟨k,n2,c3,A3,hk,hn2,rfl,hb⟩:=hrel;have HB:=ae hb;have hsz:w.heap.size≤wr.heap.size:=hb.keep.size;clear hb;have ht:((n2:Int)).tmod 64=((n2%64:Nat):Int):=by rw [Int.tmod_eq_emod_of_nonneg (by omega)];rfl
  obtain ⟨q,hq⟩:∃q,n2%64=q:=⟨_,rfl⟩;rw [hq] at ht;have ht2:((n2:Int))%64=(q:Int):=by omega
  have hkp:q≠56→k<p:=by
   intro hqe;have:=Nz.out;rcases Nat.lt_or_ge k p with h|h
   ·exact h
   ·have e:k=p:=by omega
    subst e;subst hn2;omega
  have YA:=ae hn2;have hn2b:n2≤n+64:=by omega
  clear hn2 hq;by_cases hqe:q=56
  ·subst hqe;go_wp2_with fail;have H4:=ae HB.out;have HQE:Hid (n2%64=56):=ae (by omega);have HN5:Hid (n2=n+1+p):=ae (by
    have h1:=YA.out;have h2:=Nz.out;have h3:=HQE.out;omega)
   have Xz:Hid (k=p):=ae (by have:=YA.out;have:=HN5.out;omega);clear HB hkp hsz ht ht2 hk
   go_loopw [3,5] (fun b i wr=>∃(j n3 c:Nat) (A:Option Addr) (ps:List UInt8),j≤8∧n3=n2+j∧b= .slice A n3 c∧i= .int .i64 (7 - (j:Int))∧ps.length=n3∧ps=iF bs p++upto (szF n) j∧PB (.slice none 0 0) w ps A n3 c wr) (fun _ i _=>(intOf i+1).toNat)
   case atStart=>exact ⟨0,n2,c3,A3,_,Nat.zero_le _,rfl,rfl,by go_num,H4.out.len,by rw [Xz.out];simp [iF,upto],H4.out⟩
   case round=>
    obtain ⟨j,n3,c4,A4,ps,hj,hn3,rfl,rfl,hpl2,hps,hb⟩:=hrel;have HPS:=ae hps;clear hps;have HB:=ae hb;have HN3:=ae hn3;have Dn:=ae hpl2;have hsz:w.heap.size≤wr.heap.size:=hb.keep.size;have hn3b:n3≤n+80:=by omega
    clear hb hn3 hpl2;by_cases hlt:j<8
    ·obtain ⟨i,hi⟩:∃i:Int,7 - (j:Int)=i:=⟨_,rfl⟩;have hi0:0≤i:=by omega
     have hi1:i≤7:=by omega
     have HIJ:=ae hi;rw [hi];clear hi;have HBC:=ae (dK (8*(n:Int) / 2 ^ (8*i).toNat));have Ny:=ae (World.ownsRow.alloc HB.out.own (.cells #[Value.int .u8 (8*(n:Int) / 2 ^ (8*i).toNat%256)] 5));go_wp2_with (at_builtin;go_must (refine wpList_append_own_at _ rfl _ _ 32 rfl w.heap.size 5 i0 (.int .u8 0) 1 1 Tryz.underlying32 HI.out HZ0.out HZ1.out HZ2.out rfl (by decide) _ n3 ((ps).map Extern.Stop.cell) rfl Ny.out _ 1 1 [Value.int .u8 (8*(n:Int) / 2 ^ (8*i).toNat%256)] rfl rfl (cell_one_new _ _ _) (wO _) (by unfold maxLen;omega) (by omega) (by simp;omega) ?_));intro v' w3 hown hg _ hat;obtain ⟨A',c',rfl⟩:=eG hown;have H5:=ae (HB.out.grown (bs':=ps++ [byteOf (8*(n:Int) / 2 ^ (8*i).toNat)]) (n':=n3+1) (by unfold nJ;rw [List.map_append];show World.ownsRow _ _ _ _ _ _ (_++ [Extern.Stop.cell _]);rw [HBC.out];exact hown) (by rw [aZ,Dn.out];rfl) hg hat);clear hown hg hat;go_wp2_with fail;go_roundw
     case rel=>exact ⟨j+1,n3+1,c',A',_,by omega,by have:=HN3.out;omega,rfl,by have:=HIJ.out;congr 1;omega,H5.out.len,by rw [HPS.out,upto_succ,List.append_assoc,szF_at HIJ.out hi0],H5.out⟩
     case measure=>simp [intOf];omega
    ·have HJ:Hid (j=8):=ae (by omega);have hz:7 - (j:Int)<0:=by omega
     have HN8:Hid (n3=n+9+p):=ae (by have:=HN3.out;have:=HN5.out;have:=HJ.out;omega);go_wp2_with fail;go_ret;have hq:ps=nz bs:=by
      rw [HPS.out,HJ.out,←HP.out,Oe];unfold nz Ja;rw [HL.out];rfl
     rw [←hq];exact ⟨A4,n3,c4,Dn.out,rfl,HB.out.own,HB.out.keep⟩
  ·have hne:((q:Int) !=56)=true:=by rw [bne_iff_ne];omega
   have hkp2:=hkp hqe;clear hkp;obtain ⟨pre,hpre⟩:∃l:List UInt8,bs++ [128]++List.replicate k 0=l:=⟨_,rfl⟩;have DC:=ae hpre;rw [hpre] at HB;clear hpre;have Ny:=ae (World.ownsRow.alloc HB.out.own (.cells #[Value.int .u8 0] 5));go_wp2_with (at_builtin;go_must (refine wpList_append_own_at _ rfl _ _ 32 rfl w.heap.size 5 i0 (.int .u8 0) 1 1 Tryz.underlying32 HI.out HZ0.out HZ1.out HZ2.out rfl (by decide) _ n2 ((pre).map Extern.Stop.cell) rfl Ny.out _ 1 1 [Value.int .u8 0] rfl rfl (cell_one_new _ _ _) (wO _) (by unfold maxLen;omega) (by omega) (by simp;omega) ?_));intro v' w3 hown hg _ hat;obtain ⟨A',c',rfl⟩:=eG hown;have H3:=ae (HB.out.grown (bs':=bs++ [128]++List.replicate (k+1) 0) (n':=n2+1) (by unfold nJ;rw [List.replicate_succ',←List.append_assoc,DC.out,List.map_append];exact hown) (by have:=YA.out;simp [HL.out];omega) hg hat);clear hown hg hat;go_wp2_with fail;go_roundw
   case rel=>exact ⟨k+1,n2+1,c',A',by omega,by have:=YA.out;omega,rfl,H3.out⟩
   case measure=>have:=YA.out;simp [lenV];omega
end Go.Proofs.YtdibbemgpikgjaaGreatDoor
