/- The texts Eb, Ec, Ed, in this order. -/
import Derived.Test.YtdibbemgpikgjaaGreatDoorY00
import Derived.Test.YtdibbemgpikgjaaGreatDoorY28
import Derived.Test.YtdibbemgpikgjaaGreatDoorY32
import Derived.Test.YtdibbemgpikgjaaGreatDoorY33
import Derived.Test.YtdibbemgpikgjaaGreatDoorY35
set_option maxRecDepth 10000
set_option maxHeartbeats 8000000
namespace Go.Proofs.YtdibbemgpikgjaaGreatDoor
open Go Go.RowKit
theorem JY.to {w W:World} {zs zs':List Int} (h:JY w zs W) (e:zs=zs'):JY w zs' W:=e▸h
theorem sch_in {xs:List UInt8} {zs:List Int} {k:Nat} {x0 x1 x2 x3:Int} (h:zs=gz xs k) (hk:k<16) (e0:((xs[4*k]?.getD 0).toNat:Int)=x0) (e1:((xs[4*k+1]?.getD 0).toNat:Int)=x1) (e2:((xs[4*k+2]?.getD 0).toNat:Int)=x2) (e3:((xs[4*k+3]?.getD 0).toNat:Int)=x3):
  zs.set k ((x0%4294967296*16777216+x1%4294967296*65536+x2%4294967296*256+x3)%4294967296)=gz xs (k+1):=by
 show _=(gz xs k).set k (if k<16 then wIn xs k else Ff (gz xs k) k);have b0:=eu (xs[4*k]?.getD 0);have b1:=eu (xs[4*k+1]?.getD 0);have b2:=eu (xs[4*k+2]?.getD 0);have b3:=eu (xs[4*k+3]?.getD 0);rw [if_pos hk,h];unfold wIn;rw [UC _ _ _ _ (by omega) (by omega) (by omega) (by omega) (by omega) (by omega) (by omega) (by omega),e0,e1,e2,e3];congr 1;omega
theorem Uf {xs:List UInt8} {zs:List Int} {k:Nat} {za zx zb zy:Int} (h:zs=gz xs k) (hk:16≤k) (e0:zs[k - 16]?.getD 0=za) (e1:zs[k - 15]?.getD 0=zx) (e2:zs[k - 7]?.getD 0=zb) (e3:zs[k - 2]?.getD 0=zy):
  zs.set k ((((za+bits BinOp.xor IntKind.u32 (bits BinOp.xor IntKind.u32 (dY zx 7) (dY zx 18)) (zx / 8))%4294967296+zb)%4294967296+bits BinOp.xor IntKind.u32 (bits BinOp.xor IntKind.u32 (dY zy 17) (dY zy 19)) (zy / 1024))%4294967296)=gz xs (k+1):=by
 show _=(gz xs k).set k (if k<16 then wIn xs k else Ff (gz xs k) k);rw [if_neg (by omega),←h];unfold Ff CY;rw [e0,e1,e2,e3,tr7,tr18,tr17,tr19];congr 1;generalize bits BinOp.xor IntKind.u32 (bits BinOp.xor IntKind.u32 (kX zx (amt (-7))) (kX zx (amt (-18)))) (zx / 8)=X;generalize bits BinOp.xor IntKind.u32 (bits BinOp.xor IntKind.u32 (kX zy (amt (-17))) (kX zy (amt (-19)))) (zy / 1024)=Y;omega
theorem SC (w:World) (bb off c:Nat) (xs:List UInt8) (hx:xs.length=64) (hb:bb<w.heap.size) (hA:∀j,j<64→w.cell? ⟨bb,off+j,none⟩=some (Extern.Stop.cell (xs[j]?.getD 0))):
  Calls Tryz.prog 99 #[.slice (some ⟨bb,off,none⟩) 64 c] w fun e w'=>e= .returned (.agg (au (gz xs 64)))∧Below w.heap.size w w':=by
 have HX:=ae hx;have HA:=ae hA;clear hx hA;have hi0:=iR;obtain ⟨z64,vZ⟩:∃l:List Int,List.replicate 64 0=l:=⟨_,rfl⟩;rw [vZ] at hi0;have HI0:=ae hi0;have HZ:=ae vZ;have HZL:Hid (z64.length=64):=ae (by rw [←vZ];rfl);have dR:Hid ((Tryz.prog.info? 170).map (·.size)=some (au z64).size):=ae (by rw [aV,HZL.out];kernel_rfl);have HLIT:Hid (Value.agg (au z64)= .agg #[.int .u32 0, .int .u32 0, .int .u32 0, .int .u32 0, .int .u32 0, .int .u32 0, .int .u32 0, .int .u32 0, .int .u32 0, .int .u32 0, .int .u32 0, .int .u32 0, .int .u32 0, .int .u32 0, .int .u32 0, .int .u32 0, .int .u32 0, .int .u32 0, .int .u32 0, .int .u32 0, .int .u32 0, .int .u32 0, .int .u32 0, .int .u32 0, .int .u32 0, .int .u32 0, .int .u32 0, .int .u32 0, .int .u32 0, .int .u32 0, .int .u32 0, .int .u32 0, .int .u32 0, .int .u32 0, .int .u32 0, .int .u32 0, .int .u32 0, .int .u32 0, .int .u32 0, .int .u32 0, .int .u32 0, .int .u32 0, .int .u32 0, .int .u32 0, .int .u32 0, .int .u32 0, .int .u32 0, .int .u32 0, .int .u32 0, .int .u32 0, .int .u32 0, .int .u32 0, .int .u32 0, .int .u32 0, .int .u32 0, .int .u32 0, .int .u32 0, .int .u32 0, .int .u32 0, .int .u32 0, .int .u32 0, .int .u32 0, .int .u32 0, .int .u32 0]):=ae (by rw [←vZ];rfl);clear hi0 vZ;go_enter Tryz.func99,Tryz.ntmps99;go_wp2_with (first
  |(refine aH rfl _ rfl (au z64) HI0.out ?_)
  |((with_reducible refine eF 170 ?_);go_must (refine wpList_store_row rfl _ _ _ rfl (w.alloc (.cells (au z64) 170)).heap.size (au z64) rfl HLIT.out.symm 170 (au z64) (heap_alloc_last _ _) dR.out rfl (bJ _) ?_)))
 have H0:Hid (JY w z64 (((w.alloc (.cells (au z64) 170)).alloc (.cells (au z64) 170)).setRow (w.heap.size+1) (au z64))):=ae ⟨⟨setRow_heap _ _ _ _ _ _ (heap_alloc2_new w _ _)⟩,⟨by rw [HZ.out];exact (setRow_other _ _ _ _ (by omega)).trans (heap_alloc2_old w _ _)⟩,below_setRow (ah (ag w _) (ag _ _)) (by omega) _⟩
 go_loopw [4] (fun i wr=>∃(k:Nat) (zs:List Int),k≤16∧i=I k∧zs.length=64∧zs=gz xs k∧JY w zs wr) (fun i _=>16 - (intOf i).toNat)
 case atStart=>exact ⟨0,z64,Nat.zero_le _,rfl,HZL.out,HZ.out.symm,H0.out⟩
 case round=>
  obtain ⟨k,zs,hk,rfl,hzl,hzs,hs⟩:=hrel;have Pq:=ae hzs;have HS:=ae hs;have HL:=ae hzl;clear H0 hs hzl hzs;by_cases hlt:(k:Int)<16
  ·obtain ⟨p,hp⟩:∃p:Nat,4*k=p:=⟨_,rfl⟩;obtain ⟨p1,hp1⟩:∃q:Nat,p+1=q:=⟨_,rfl⟩;obtain ⟨p2,hp2⟩:∃q:Nat,p+2=q:=⟨_,rfl⟩;obtain ⟨p3,hp3⟩:∃q:Nat,p+3=q:=⟨_,rfl⟩;have c0:wr.cell? ⟨bb,off+p,none⟩=some (Extern.Stop.cell (xs[p]?.getD 0)):=(HS.out.lo.cell (p:=⟨bb,off+p,none⟩) hb).trans (HA.out p (by omega));have c1:wr.cell? ⟨bb,off+p1,none⟩=some (Extern.Stop.cell (xs[p1]?.getD 0)):=(HS.out.lo.cell (p:=⟨bb,off+p1,none⟩) hb).trans (HA.out p1 (by omega));have c2:wr.cell? ⟨bb,off+p2,none⟩=some (Extern.Stop.cell (xs[p2]?.getD 0)):=(HS.out.lo.cell (p:=⟨bb,off+p2,none⟩) hb).trans (HA.out p2 (by omega));have c3:wr.cell? ⟨bb,off+p3,none⟩=some (Extern.Stop.cell (xs[p3]?.getD 0)):=(HS.out.lo.cell (p:=⟨bb,off+p3,none⟩) hb).trans (HA.out p3 (by omega));obtain ⟨x0,e0⟩:∃x:Int,((xs[p]?.getD 0).toNat:Int)=x:=⟨_,rfl⟩;obtain ⟨x1,e1⟩:∃x:Int,((xs[p1]?.getD 0).toNat:Int)=x:=⟨_,rfl⟩;obtain ⟨x2,e2⟩:∃x:Int,((xs[p2]?.getD 0).toNat:Int)=x:=⟨_,rfl⟩;obtain ⟨x3,e3⟩:∃x:Int,((xs[p3]?.getD 0).toNat:Int)=x:=⟨_,rfl⟩;replace c0:wr.cell? ⟨bb,off+p,none⟩=some (.int .u8 x0):=c0.trans (by rw [←e0];rfl);replace c1:wr.cell? ⟨bb,off+p1,none⟩=some (.int .u8 x1):=c1.trans (by rw [←e1];rfl);replace c2:wr.cell? ⟨bb,off+p2,none⟩=some (.int .u8 x2):=c2.trans (by rw [←e2];rfl);replace c3:wr.cell? ⟨bb,off+p3,none⟩=some (.int .u8 x3):=c3.trans (by rw [←e3];rfl);have g0:4*(k:Int)=(p:Int):=by omega
   have g1:(p:Int)+1=(p1:Int):=by omega
   have g2:(p:Int)+2=(p2:Int):=by omega
   have g3:(p:Int)+3=(p3:Int):=by omega
   have w0:IntKind.i64.wrap (p:Int)=(p:Int):=by rw [IntKind.wrap_i64];omega
   have w1:IntKind.i64.wrap (p1:Int)=(p1:Int):=by rw [IntKind.wrap_i64];omega
   have w2:IntKind.i64.wrap (p2:Int)=(p2:Int):=by rw [IntKind.wrap_i64];omega
   have w3:IntKind.i64.wrap (p3:Int)=(p3:Int):=by rw [IntKind.wrap_i64];omega
   have b0:(p:Int)<64:=by omega
   have b1:(p1:Int)<64:=by omega
   have b2:(p2:Int)<64:=by omega
   have b3:(p3:Int)<64:=by omega
   have HE:=ae (And.intro (And.intro e0 e1) (And.intro e2 e3));have HP:=ae (And.intro hp (And.intro hp1 (And.intro hp2 hp3)));clear e0 e1 e2 e3 hp hp1 hp2 hp3;obtain ⟨z0,hz0⟩:∃z,zs[k]?.getD 0=z:=⟨_,rfl⟩;have hv:wr.cell? ⟨w.heap.size+1,k,none⟩=some (.int .u32 z0):=(HS.out.var.cell k).trans (by rw [bY _ _ (by rw [HL.out];omega),hz0]);have hf:=HS.out.var.dZ k;have Ls:(k:Int)<64:=by omega
   go_wp2_with fail;go_still_tail 35,(by kernel_rfl);change wpList _ _ _ _ _ wr.drew;go_wp2_with fail;go_roundw
   case rel=>exact ⟨k+1,gz xs (k+1),by omega,by go_num,nz _ _,rfl,(HS.out.drew.put k _).to (sch_in Pq.out (by omega) (by rw [HP.out.1];exact HE.out.1.1) (by rw [HP.out.1,HP.out.2.1];exact HE.out.1.2) (by rw [HP.out.1,HP.out.2.2.1];exact HE.out.2.1) (by rw [HP.out.1,HP.out.2.2.2];exact HE.out.2.2))⟩
   case measure=>simp [intOf];omega
  ·have H1:Hid (∃zs:List Int,zs.length=64∧zs=gz xs 16∧JY w zs wr):=ae ⟨zs,HL.out,by rw [Pq.out,show k=16 by omega],HS.out⟩;go_wp2_with fail
   go_loopw [5] (fun i wr=>∃(k:Nat) (zs:List Int),16≤k∧k≤64∧i=I k∧zs.length=64∧zs=gz xs k∧JY w zs wr) (fun i _=>64 - (intOf i).toNat)
   case atStart=>exact H1.out.elim fun zs h=>⟨16,zs,by omega,by omega,rfl,h.1,h.2.1,h.2.2⟩
   case round=>
    clear hlt HS HL Pq;obtain ⟨k,zs,hk0,hk,rfl,hzl,hzs,hs⟩:=hrel;have Pq:=ae hzs;have HS:=ae hs;have HL:=ae hzl;clear hs hzl hzs;by_cases hlt:(k:Int)<64
    ·obtain ⟨q16,Tv⟩:∃q:Nat,k - 16=q:=⟨_,rfl⟩;obtain ⟨MH,Tu⟩:∃q:Nat,k - 15=q:=⟨_,rfl⟩;obtain ⟨q7,hq7⟩:∃q:Nat,k - 7=q:=⟨_,rfl⟩;obtain ⟨q2,hq2⟩:∃q:Nat,k - 2=q:=⟨_,rfl⟩;obtain ⟨za,hza⟩:∃z,zs[q16]?.getD 0=z:=⟨_,rfl⟩;obtain ⟨zx,hzx⟩:∃z,zs[MH]?.getD 0=z:=⟨_,rfl⟩;obtain ⟨zb,hzb⟩:∃z,zs[q7]?.getD 0=z:=⟨_,rfl⟩;obtain ⟨zy,hzy⟩:∃z,zs[q2]?.getD 0=z:=⟨_,rfl⟩;have va:∀n,(wr.drewN n).cell? ⟨w.heap.size+1,q16,none⟩=some (.int .u32 za):=fun n=>(HS.out.var.cell q16).trans (by rw [bY _ _ (by rw [HL.out];omega),hza]);have vx:wr.cell? ⟨w.heap.size+1,MH,none⟩=some (.int .u32 zx):=(HS.out.var.cell MH).trans (by rw [bY _ _ (by rw [HL.out];omega),hzx]);have vb:∀n,(wr.drewN n).cell? ⟨w.heap.size+1,q7,none⟩=some (.int .u32 zb):=fun n=>(HS.out.var.cell q7).trans (by rw [bY _ _ (by rw [HL.out];omega),hzb]);have vy:wr.cell? ⟨w.heap.size+1,q2,none⟩=some (.int .u32 zy):=(HS.out.var.cell q2).trans (by rw [bY _ _ (by rw [HL.out];omega),hzy]);have g16:(k:Int) - 16=(q16:Int):=by omega
     have g15:(k:Int) - 15=(MH:Int):=by omega
     have g7:(k:Int) - 7=(q7:Int):=by omega
     have g2:(k:Int) - 2=(q2:Int):=by omega
     obtain ⟨z0,hz0⟩:∃z,zs[k]?.getD 0=z:=⟨_,rfl⟩;have v0:∀n,(wr.drewN n).cell? ⟨w.heap.size+1,k,none⟩=some (.int .u32 z0):=fun n=>(HS.out.var.cell k).trans (by rw [bY _ _ (by rw [HL.out];omega),hz0]);have hf:∀n,(wr.drewN n).frozen? ⟨w.heap.size+1,k,none⟩=false:=fun n=>HS.out.var.dZ k;have HQ:=ae (show zs[k - 16]?.getD 0=za∧zs[k - 15]?.getD 0=zx∧zs[k - 7]?.getD 0=zb∧zs[k - 2]?.getD 0=zy from ⟨by rw [Tv];exact hza,by rw [Tu];exact hzx,by rw [hq7];exact hzb,by rw [hq2];exact hzy⟩);clear hza hzx hzb hzy Tv Tu hq7 hq2 hz0;have wq16:IntKind.i64.wrap (q16:Int)=(q16:Int):=by rw [IntKind.wrap_i64];omega
     have wq15:IntKind.i64.wrap (MH:Int)=(MH:Int):=by rw [IntKind.wrap_i64];omega
     have wq7:IntKind.i64.wrap (q7:Int)=(q7:Int):=by rw [IntKind.wrap_i64];omega
     have wq2:IntKind.i64.wrap (q2:Int)=(q2:Int):=by rw [IntKind.wrap_i64];omega
     have b16:(q16:Int)<64:=by omega
     have b15:(MH:Int)<64:=by omega
     have b7:(q7:Int)<64:=by omega
     have b2:(q2:Int)<64:=by omega
     go_wp2_with fail;go_quiet (fail);go_wp2_with fail;have n16:(⟨w.heap.size+1,k,none⟩:Addr)≠⟨w.heap.size+1,q16,none⟩:=fun e=>by have:=congrArg Addr.off e;simp at this;omega
     have n7:(⟨w.heap.size+1,k,none⟩:Addr)≠⟨w.heap.size+1,q7,none⟩:=fun e=>by have:=congrArg Addr.off e;simp at this;omega
     go_region_held3 (fun W=>W.cell? ⟨w.heap.size+1,q16,none⟩=some (.int .u32 za)∧W.cell? ⟨w.heap.size+1,q7,none⟩=some (.int .u32 zb))
      (first|exact ⟨va 0,vb 0⟩|exact ⟨(World.cell?_setCell_other _ _ _ _ n16).trans (va 0),(World.cell?_setCell_other _ _ _ _ n7).trans (vb 0)⟩)
      (first|(go_at_call 101;refine (Uw _ _ _ (by omega) (by omega)).mono ?_;rintro e wf ⟨rfl,m,rfl⟩))
     all_goals
      go_wp2_with fail;go_roundw
      case rel=>exact ⟨k+1,gz xs (k+1),by omega,by omega,by go_num,nz _ _,rfl,((HS.out.drewN _).put k _).to (Uf Pq.out hk0 HQ.out.1 HQ.out.2.1 HQ.out.2.2.1 HQ.out.2.2.2)⟩
      case measure=>simp [intOf];omega
    ·have hke:k=64:=by omega
     have mZ:Hid ((Tryz.prog.info? 170).map (·.size)=some (au zs).size):=ae (by rw [aV,HL.out];kernel_rfl);have HRW:Hid (fD wr (w.heap.size+1) (au zs)):=ae ⟨HS.out.var.lt,HS.out.var.cell⟩;have iq:Hid ((au (List.replicate 64 0)).size=(au zs).size):=ae (by rw [aV,aV,HL.out];simp);go_wp2_with (first
      |((with_reducible refine fU 170 ?_);go_must (refine aT rfl _ _ rfl (w.heap.size+1) rfl (au zs) HRW.out _ Tryz.underlying170 rfl mZ.out ?_))
      |((with_reducible refine eF 170 ?_);go_must (refine wpList_store_row rfl _ _ _ rfl w.heap.size (au zs) rfl rfl 170 (au (List.replicate 64 0)) HS.out.res.var mZ.out iq.out (bJ _) ?_)))
     refine bodyPost_ret (v:= .agg (au zs)) (results_cell_row rfl _ _ w.heap.size _ (au zs) (0,0) _ rfl (setRow_heap _ _ _ _ _ _ HS.out.res.var) Tryz.underlying170 rfl mZ.out) rfl ?_;exact ⟨by rw [Pq.out,hke],aB HS.out.lo (Nat.le_refl _) _⟩
theorem Bi.tto {w W:World} {wb:Nat} {cs ws ks:Array Value} {zs zs':List Int} (h:Bi w wb cs (au zs) ws ks W) (e:zs=zs'):Bi w wb cs (au zs') ws ks W:=e▸h
theorem Jb {ks ws ss:List Int} (h:∀z∈ss,0≤z∧z<4294967296):∀k,∀z∈rT ks ws ss k,0≤z∧z<4294967296
 |0=>h
 |k+1=>by
  have ih:=Jb (ks:=ks) (ws:=ws) h k;show∀z∈Cj _ _ (rT ks ws ss k),_;unfold Cj;split
  ·rename_i a b c d e f g i he;rw [he] at ih;intro z hz;simp only [List.mem_cons,List.not_mem_nil,or_false] at hz ih;rcases hz with rfl|rfl|rfl|rfl|rfl|rfl|rfl|rfl
   ·omega
   ·exact ih _ (by simp)
   ·exact ih _ (by simp)
   ·exact ih _ (by simp)
   ·omega
   ·exact ih _ (by simp)
   ·exact ih _ (by simp)
   ·exact ih _ (by simp)
  ·exact ih
theorem Xc {ks ws ss:List Int} {k:Nat} {t0 t1 t2 t3 t4 t5 t6 t7 wk kk X Y:Int} (h: [t0,t1,t2,t3,t4,t5,t6,t7]=rT ks ws ss k) (hb:0≤t4∧t4<4294967296) (hw:ws[k]?.getD 0=wk) (hk:ks[k]?.getD 0=kk)
  (hX:(((t7+bits BinOp.xor IntKind.u32 (bits BinOp.xor IntKind.u32 (dY t4 6) (dY t4 11)) (dY t4 25)+bits BinOp.xor IntKind.u32 (bits BinOp.and IntKind.u32 t4 t5) (bits BinOp.and IntKind.u32 ((4294967295 - t4)%4294967296) t6)+kk)%4294967296+wk)%4294967296)=X)
  (hY:((bits BinOp.xor IntKind.u32 (bits BinOp.xor IntKind.u32 (dY t0 2) (dY t0 13)) (dY t0 22)+bits BinOp.xor IntKind.u32 (bits BinOp.xor IntKind.u32 (bits BinOp.and IntKind.u32 t0 t1) (bits BinOp.and IntKind.u32 t0 t2)) (bits BinOp.and IntKind.u32 t1 t2))%4294967296)=Y):
  [(X+Y)%4294967296,t0,t1,t2,(t3+X)%4294967296,t4,t5,t6]=rT ks ws ss (k+1):=by
 have e1:X=xF t4 t5 t6 t7 kk wk:=by
  rw [←hX,tr6,tr11,tr25,show (4294967295 - t4)%4294967296=4294967295 - t4 by omega];unfold xF;rw [Xx t4 hb.1 hb.2];simp only [IntKind.wrap_u32'];generalize bits BinOp.xor IntKind.u32 (bits BinOp.xor IntKind.u32 (kX t4 (amt (-6))) (kX t4 (amt (-11)))) (kX t4 (amt (-25)))=A;generalize bits BinOp.xor IntKind.u32 (bits BinOp.and IntKind.u32 t4 t5) (bits BinOp.and IntKind.u32 (4294967295 - t4) t6)=B;omega
 have e2:Y=yF t0 t1 t2:=by
  rw [←hY,tr2,tr13,tr22];unfold yF;rw [IntKind.wrap_u32']
 show _=Cj (ks[k]?.getD 0) (ws[k]?.getD 0) (rT ks ws ss k);rw [←h,hw,hk,e1,e2];rfl
theorem Qk {ts ss zs:List Int} {j:Nat} {sj tj:Int} (h:zs=sumT ts ss j) (hs:ss[j]?.getD 0=sj) (ht:zs[j]?.getD 0=tj):zs.set j ((tj+sj)%4294967296)=sumT ts ss (j+1):=by
 show _=(sumT ts ss j).set j (((ts[j]?.getD 0)+(ss[j]?.getD 0))%4294967296);rw [←h,←hs,←ht,h,Jn ts ss j j (Nat.le_refl _)]
theorem Qj {ts ss:List Int} (ht:ts.length=8) (hs:ss.length=8):sumT ts ss 8=sumT ss ts 8:=by
 obtain ⟨a0,a1,a2,a3,a4,a5,a6,a7,rfl⟩:=BO ht;obtain ⟨b0,b1,b2,b3,b4,b5,b6,b7,rfl⟩:=BO hs;simp [sumT,Int.add_comm]
theorem step_x (w:World) (bb off c:Nat) (ss:List Int) (hs:ss.length=8) (hsb:∀z∈ss,0≤z∧z<4294967296) (xs:List UInt8) (hx:xs.length=64) (hb:bb<w.heap.size) (hA:∀j,j<64→w.cell? ⟨bb,off+j,none⟩=some (Extern.Stop.cell (xs[j]?.getD 0))):
  Calls Tryz.prog 82 #[.agg (au ss), .slice (some ⟨bb,off,none⟩) 64 c] w fun e w'=>e= .returned (.agg (au (Bq um ss xs)))∧Below w.heap.size w w':=by
 have sZ:=ae hsb;clear hsb;obtain ⟨cs,hcs⟩:∃a,au ss=a:=⟨_,rfl⟩;rw [hcs];have hz:cs.size=8:=by rw [←hcs,aV,hs]
 have QH:=ae hcs;have rW:=ae hs;have H0:=ae (VG.start w cs);have HEX:Hid (∀W,Below w.heap.size w W→Calls Tryz.prog 99 #[.slice (some ⟨bb,off,none⟩) 64 c] W fun e w'=>e= .returned (.agg (au (gz xs 64)))∧Below W.heap.size W w'):=
  ae fun W h=>SC W bb off c xs hx (dP hb h.size) fun j hj=>(h.cell (p:=⟨bb,off+j,none⟩) hb).trans (hA j hj)
 have O5:Hid ((Tryz.prog.info? 117).map (·.size)=some cs.size):=ae (by rw [hz];kernel_rfl);have vk:Hid ((au (List.replicate 8 0)).size=cs.size):=ae (by rw [aV,hz];simp);have lV:Hid (cs.all (·.oneCell')=true):=ae (by rw [←hcs];exact bJ _);clear hx hA hcs hs hz;go_enter Tryz.func82,Tryz.ntmps82;go_upto_region 1 with (first
  |((with_reducible refine bC 117 ?_);go_must (refine aH rfl _ rfl (au (List.replicate 8 0)) uz ?_)))
 generalize (w.alloc (.cells cs 117)).alloc (.cells (au (List.replicate 8 0)) 117)=W0 at H0 ⊢;go_wp2_with fail;refine (HEX.out _ H0.out.lo).mono ?_;rintro e w1 ⟨rfl,hb1⟩;obtain ⟨ws,hws⟩:∃l,gz xs 64=l:=⟨_,rfl⟩;rw [hws];have hwl:ws.length=64:=by rw [←hws];exact nz _ _
 have HWS:=ae hws;clear hws;have H1:=ae (H0.out.grow hb1);have HWL:=ae hwl;clear hb1 H0 HEX hwl;go_wp2_with fail;refine (Uc w1).mono ?_;rintro e w2 ⟨rfl,hb2⟩;have H2:=ae (H1.out.grow hb2);clear hb2 H1;rw [Xy];obtain ⟨ks,hks⟩:∃l,um=l:=⟨_,rfl⟩;rw [hks];have oJ:Hid (ks.length=64):=ae (by rw [←hks];rfl);have HKS:=ae hks;clear hks;have H3:=ae (Bi.start H2.out (au ws) (au ks) (au (List.replicate 64 0)));have HI4:Hid ((Tryz.prog.info? 170).map (·.size)=some (au ws).size):=ae (by rw [aV,HWL.out];kernel_rfl);have QI:Hid ((Tryz.prog.info? 170).map (·.size)=some (au ks).size):=ae (by rw [aV,oJ.out];kernel_rfl);have KH:Hid ((au (List.replicate 64 0)).size=(au ws).size):=ae (by rw [aV,aV,HWL.out];simp);have Pn:Hid ((au (List.replicate 64 0)).size=(au ks).size):=ae (by rw [aV,aV,oJ.out];simp);obtain ⟨u64,hu64⟩:∃l:List Int,List.replicate 64 0=l:=⟨_,rfl⟩;rw [hu64] at H3 KH Pn;have HUI:Hid ((Tryz.prog.info? 170).map (fun i=>(i.zero,i.size))=some (some (.agg (au u64)),(au u64).size)):=ae (by rw [←hu64];exact iR);clear hu64;obtain ⟨u8,YE⟩:∃l:List Int,List.replicate 8 0=l:=⟨_,rfl⟩;rw [YE] at H3 vk;have HU8:Hid ((Tryz.prog.info? 117).map (fun i=>(i.zero,i.size))=some (some (.agg (au u8)),(au u8).size)):=ae (by rw [←YE];exact uz);clear YE;go_upto_region 2 with (first
  |((with_reducible refine bC 170 ?_);go_must (refine aH rfl _ rfl (au u64) HUI.out ?_))
  |((with_reducible refine eF 170 ?_);go_must (first
    |(refine wpList_store_row rfl _ _ _ rfl w2.heap.size (au ws) rfl rfl 170 (au u64) (heap_alloc2_old w2 _ _) HI4.out KH.out (bJ _) ?_)
    |(refine wpList_store_row rfl _ _ _ rfl (w2.heap.size+1) (au ks) (congrArg (fun b=>Value.pointer (some ⟨b,0,none⟩)) (oL w2 _)) rfl 170 (au u64) ((setRow_other _ _ _ _ (by omega)).trans (heap_alloc2_new w2 _ _)) QI.out Pn.out (bJ _) ?_))))
 have HR4:=ae (Xp H2.out (au u64) (au ws) (au ks));have HV5:=ae (Xq w2 (au u64) (au ws) (au ks) (au u8));have Ad:=ae (Jm w2 (au u64) (au ws) (au ks));generalize ((((w2.alloc (.cells (au u64) 170)).alloc (.cells (au u64) 170)).setRow w2.heap.size (au ws)).setRow (w2.heap.size+1) (au ks))=W4 at H3 HR4 HV5 Ad ⊢;obtain ⟨wb,hwb⟩:∃b,w2.heap.size=b:=⟨_,rfl⟩;rw [hwb] at H3 HV5 Ad;rw [oL w2,hwb];clear hwb H2 KH Pn HUI;go_wp2_with (first
  |((with_reducible refine fU 117 ?_);go_must (refine aT rfl _ _ rfl w.heap.size rfl cs HR4.out _ Tryz.underlying117 rfl O5.out ?_))
  |((with_reducible refine bC 117 ?_);go_must (refine aH rfl _ rfl (au u8) HU8.out ?_))
  |((with_reducible refine eF 117 ?_);go_must (refine wpList_store_row rfl _ _ _ rfl (wb+2) cs (congrArg (fun b=>Value.pointer (some ⟨b,0,none⟩)) Ad.out) rfl 117 (au u8) HV5.out O5.out vk.out lV.out ?_)))
 generalize (W4.alloc (.cells (au u8) 117)).setRow (wb+2) cs=W6 at H3 ⊢;rw [Ad.out];clear HR4 HV5 Ad vk HU8
 go_loopw [8] (fun i wr=>∃(k:Nat) (ts:List Int),k≤64∧i=I k∧ts.length=8∧ts=rT ks ws ss k∧(∀z∈ts,0≤z∧z<4294967296)∧Bi w wb cs (au ts) (au ws) (au ks) wr) (fun i _=>64 - (intOf i).toNat)
 case atStart=>exact ⟨0,ss,Nat.zero_le _,rfl,rW.out,rfl,sZ.out,by rw [QH.out];exact H3.out⟩
 case round=>
  obtain ⟨k,ts,hk,rfl,htl,hts,hbd,hs⟩:=hrel;have Ag:=ae hts;have NI:=ae hbd;have HS:=ae hs;clear H3 hs hts hbd;by_cases hlt:(k:Int)<64
  ·obtain ⟨t0,t1,t2,t3,t4,t5,t6,t7,rfl⟩:=BO htl;clear htl;have HB4:Hid (0≤t4∧t4<4294967296):=ae (NI.out t4 (by simp));have c0:wr.cell? ⟨wb+2,0,none⟩=some (.int .u32 t0):=HS.out.t.cell 0;have c4:wr.cell? ⟨wb+2,4,none⟩=some (.int .u32 t4):=HS.out.t.cell 4;go_wp2_with fail;go_quiet (fail);obtain ⟨W7,SY⟩:∃W,wr.drewN nq=W:=⟨_,rfl⟩;rw [SY];have QM:Hid (Bi w wb cs (au [t0,t1,t2,t3,t4,t5,t6,t7]) (au ws) (au ks) W7):=ae (by rw [←SY];exact HS.out.drewN nq);clear SY c0 c4 HS;obtain ⟨wk,hwk⟩:∃z,ws[k]?.getD 0=z:=⟨_,rfl⟩;obtain ⟨kk,hkk⟩:∃z,ks[k]?.getD 0=z:=⟨_,rfl⟩;have cw:W7.cell? ⟨wb,k,none⟩=some (.int .u32 wk):=(QM.out.w.cell k).trans (by rw [bY _ _ (by rw [HWL.out];omega),hwk]);have ck:W7.cell? ⟨wb+1,k,none⟩=some (.int .u32 kk):=(QM.out.k.cell k).trans (by rw [bY _ _ (by rw [oJ.out];omega),hkk]);have HWK:Hid (ws[k]?.getD 0=wk∧ks[k]?.getD 0=kk):=ae ⟨hwk,hkk⟩;clear hwk hkk;have c0:W7.cell? ⟨wb+2,0,none⟩=some (.int .u32 t0):=QM.out.t.cell 0;have c1:W7.cell? ⟨wb+2,1,none⟩=some (.int .u32 t1):=QM.out.t.cell 1;have c2:W7.cell? ⟨wb+2,2,none⟩=some (.int .u32 t2):=QM.out.t.cell 2;have c3:W7.cell? ⟨wb+2,3,none⟩=some (.int .u32 t3):=QM.out.t.cell 3;have c4:W7.cell? ⟨wb+2,4,none⟩=some (.int .u32 t4):=QM.out.t.cell 4;have c5:W7.cell? ⟨wb+2,5,none⟩=some (.int .u32 t5):=QM.out.t.cell 5;have c6:W7.cell? ⟨wb+2,6,none⟩=some (.int .u32 t6):=QM.out.t.cell 6;have c7:W7.cell? ⟨wb+2,7,none⟩=some (.int .u32 t7):=QM.out.t.cell 7;go_wp2_with fail;go_quiet ((go_at_call 101;exact CW _ _ _ _ (by omega) (by omega)));generalize hX:(((t7+bits BinOp.xor IntKind.u32 (bits BinOp.xor IntKind.u32 (dY t4 6) (dY t4 11)) (dY t4 25)+bits BinOp.xor IntKind.u32 (bits BinOp.and IntKind.u32 t4 t5) (bits BinOp.and IntKind.u32 ((4294967295 - t4)%4294967296) t6)+kk)%4294967296+wk)%4294967296)=X;have HX:=ae hX;clear hX;obtain ⟨W8,hW8⟩:∃W,W7.drewN nq=W:=⟨_,rfl⟩;rw [hW8];have HS8:Hid (Bi w wb cs (au [t0,t1,t2,t3,t4,t5,t6,t7]) (au ws) (au ks) W8):=ae (by rw [←hW8];exact QM.out.drewN nq);clear hW8 c0 c1 c2 c3 c4 c5 c6 c7 cw ck QM;have c1:W8.cell? ⟨wb+2,1,none⟩=some (.int .u32 t1):=HS8.out.t.cell 1;have c2:W8.cell? ⟨wb+2,2,none⟩=some (.int .u32 t2):=HS8.out.t.cell 2;go_wp2_with fail;go_quiet ((go_at_call 101;exact CW _ _ _ _ (by omega) (by omega)));generalize hY:((bits BinOp.xor IntKind.u32 (bits BinOp.xor IntKind.u32 (dY t0 2) (dY t0 13)) (dY t0 22)+bits BinOp.xor IntKind.u32 (bits BinOp.xor IntKind.u32 (bits BinOp.and IntKind.u32 t0 t1) (bits BinOp.and IntKind.u32 t0 t2)) (bits BinOp.and IntKind.u32 t1 t2))%4294967296)=Y;have HY:=ae hY;clear hY;obtain ⟨W9,hW9⟩:∃W,W8.drewN nq=W:=⟨_,rfl⟩;rw [hW9];have UU:Hid (Bi w wb cs (au [t0,t1,t2,t3,t4,t5,t6,t7]) (au ws) (au ks) W9):=ae (by rw [←hW9];exact HS8.out.drewN nq);clear hW9 c1 c2 HS8;have c0:W9.cell? ⟨wb+2,0,none⟩=some (.int .u32 t0):=UU.out.t.cell 0;have c1:W9.cell? ⟨wb+2,1,none⟩=some (.int .u32 t1):=UU.out.t.cell 1;have c2:W9.cell? ⟨wb+2,2,none⟩=some (.int .u32 t2):=UU.out.t.cell 2;have c3:W9.cell? ⟨wb+2,3,none⟩=some (.int .u32 t3):=UU.out.t.cell 3;have c4:W9.cell? ⟨wb+2,4,none⟩=some (.int .u32 t4):=UU.out.t.cell 4;have c5:W9.cell? ⟨wb+2,5,none⟩=some (.int .u32 t5):=UU.out.t.cell 5;have c6:W9.cell? ⟨wb+2,6,none⟩=some (.int .u32 t6):=UU.out.t.cell 6;have c7:W9.cell? ⟨wb+2,7,none⟩=some (.int .u32 t7):=UU.out.t.cell 7;have HI9:Hid ((Tryz.prog.info? 117).map (·.size)=some (au [(X+Y)%4294967296,t0,t1,t2,(t3+X)%4294967296,t4,t5,t6]).size):=ae (by kernel_rfl);go_wp2_with ((with_reducible refine eF 117 ?_);go_must (refine wpList_store_row rfl _ _ _ rfl (wb+2) (au [(X+Y)%4294967296,t0,t1,t2,(t3+X)%4294967296,t4,t5,t6]) rfl rfl 117 (au [t0,t1,t2,t3,t4,t5,t6,t7]) UU.out.t.var HI9.out rfl (bJ _) ?_));go_roundw
   case rel=>exact ⟨k+1,rT ks ws ss (k+1),by omega,by go_num,yA _ _ _ rW.out _,rfl,Jb sZ.out _,(UU.out.row _).tto (Xc Ag.out HB4.out HWK.out.1 HWK.out.2 HX.out HY.out)⟩
   case measure=>simp [intOf];omega
  ·have wP:=ae htl;clear htl;go_wp2_with fail
   go_loopw [13] (fun i wr=>∃(k:Nat) (zs:List Int),k≤8∧i=I k∧zs.length=8∧zs=sumT ts ss k∧Bi w wb cs (au zs) (au ws) (au ks) wr) (fun i _=>8 - (intOf i).toNat)
   case atStart=>exact ⟨0,ts,Nat.zero_le _,rfl,wP.out,rfl,HS.out⟩
   case round=>
    clear HS;have Ls:k=64:=by omega
    have HK64:=ae Ls;clear hlt Ls;obtain ⟨j,zs,hj,rfl,hzl,hzs,hs⟩:=hrel;have Pq:=ae hzs;clear hzs;have HS:=ae hs;have HL:=ae hzl;clear hs hzl;by_cases hlt:(j:Int)<8
    ·obtain ⟨sj,hsj⟩:∃z,ss[j]?.getD 0=z:=⟨_,rfl⟩;obtain ⟨tj,htj⟩:∃z,zs[j]?.getD 0=z:=⟨_,rfl⟩;have cS:wr.cell? ⟨w.heap.size,j,none⟩=some (.int .u32 sj):=(HS.out.b.s.cell j).trans (by rw [←QH.out,bY _ _ (by rw [rW.out];omega),hsj]);have cT:wr.cell? ⟨wb+2,j,none⟩=some (.int .u32 tj):=(HS.out.t.cell j).trans (by rw [bY _ _ (by rw [HL.out];omega),htj]);have cf:=HS.out.t.dZ j;have HSJ:Hid (ss[j]?.getD 0=sj∧zs[j]?.getD 0=tj):=ae ⟨hsj,htj⟩;clear hsj htj;go_wp2_with fail;go_still_tail 9,(by kernel_rfl);change wpList _ _ _ _ _ wr.drew;go_wp2_with fail;go_roundw
     case rel=>exact ⟨j+1,sumT ts ss (j+1),by omega,by go_num,by rw [uq];exact wP.out,rfl,(HS.out.drew.put j _).tto (Qk Pq.out HSJ.out.1 HSJ.out.2)⟩
     case measure=>simp [intOf];omega
    ·have mZ:Hid ((Tryz.prog.info? 117).map (·.size)=some (au zs).size):=ae (by rw [aV,HL.out];kernel_rfl);have HRW:Hid (fD wr (wb+2) (au zs)):=ae HS.out.t.iY;have iq:Hid ((au (List.replicate 8 0)).size=(au zs).size):=ae (by rw [aV,aV,HL.out];simp);go_wp2_with (first
      |((with_reducible refine fU 117 ?_);go_must (refine aT rfl _ _ rfl (wb+2) rfl (au zs) HRW.out _ Tryz.underlying117 rfl mZ.out ?_))
      |((with_reducible refine eF 117 ?_);go_must (refine wpList_store_row rfl _ _ _ rfl (w.heap.size+1) (au zs) rfl rfl 117 (au (List.replicate 8 0)) HS.out.b.r.var mZ.out iq.out (bJ _) ?_)))
     refine bodyPost_ret (v:= .agg (au zs)) (results_cell_row rfl _ _ (w.heap.size+1) _ (au zs) (0,0) _ rfl (setRow_heap _ _ _ _ _ _ HS.out.b.r.var) Tryz.underlying117 rfl mZ.out) rfl ?_;have hj8:j=8:=by omega
     exact ⟨by rw [Pq.out,hj8,Qj wP.out rW.out,Ag.out,HK64.out,←HWS.out,←HKS.out];rfl,aB HS.out.b.lo (Nat.le_succ _) _⟩
def szF (n j:Nat):UInt8:=byteOf (8*(n:Int) / 2 ^ (56 - 8*j))
theorem szF_at {n j:Nat} {i:Int} (h:7 - (j:Int)=i) (h0:0≤i):byteOf (8*(n:Int) / 2 ^ (8*i).toNat)=szF n j:=by
 unfold szF;rw [show (8*i).toNat=56 - 8*j by omega]
theorem Oy (n:Nat):Gt n=nT n:=by unfold Gt nT;omega
theorem TZ (n c:Nat) (A:Option Addr) (bs:List UInt8) (w:World) (hl:bs.length=n) (h0:0<n) (hn:n≤200000) (hb:aA w w.heap.size A (bs.map Extern.Stop.cell)):
  Calls Tryz.prog 81 #[.slice A n c] w (XQ w.heap.size (.slice none 0 0) w (ng bs)):=by
 obtain ⟨i0,hi,hz0,hz1,hz2⟩:=info_parts kF;have HI:=ae hi;have HZ0:=ae hz0;have HZ1:=ae hz1;have HZ2:=ae hz2;clear hi hz0 hz1 hz2;obtain ⟨b,off,rfl,nN,hcl⟩:=hb.there (by rw [List.length_map];omega);have hb0:∀j u,(bs.map Extern.Stop.cell)[j]? =some u→(w.alloc (.cells #[] 5)).cell? ((⟨b,off,none⟩:Addr).add j)=some u:=mg hb;have HB0:=ae hb0;have HE:=ae (gm w 5 1);have HL:=ae hl;have HNL:Hid ((bs.map Extern.Stop.cell).length=n*1):=ae (by rw [List.length_map,hl,Nat.mul_one]);have Ko:Hid (∀u∈bs.map Extern.Stop.cell,u.oneCell'=true):=ae (fun u hu=>by obtain ⟨x,_,rfl⟩:=List.mem_map.1 hu;rfl);clear hb0 hcl hb hl;go_enter Tryz.func81,Tryz.ntmps81;go_wp2_with (at_builtin;go_must (refine wpList_append_own_at _ rfl _ _ 32 rfl w.heap.size 5 i0 (.int .u8 0) 1 1 Tryz.underlying32 HI.out HZ0.out HZ1.out HZ2.out rfl (by decide) _ 0 [] rfl HE.out ⟨b,off,none⟩ n c (bs.map Extern.Stop.cell) rfl HNL.out HB0.out Ko.out (by unfold maxLen;omega) (by omega) (by simp) ?_));intro v' w1 hown hg _ hat;obtain ⟨A1,c1,rfl⟩:=dG hown;have H1:Hid (PB (.slice none 0 0) w bs A1 n c1 w1):=ae (PB.fresh (by unfold nH;simpa using hown) HL.out hg hat);have hsz:w.heap.size≤w1.heap.size:=H1.out.keep.size;clear hown hg hat;have NP:=ae (World.ownsRow.alloc H1.out.own (.cells #[Value.int .u8 128] 5));go_wp2_with (at_builtin;go_must (refine wpList_append_own_at _ rfl _ _ 32 rfl w.heap.size 5 i0 (.int .u8 0) 1 1 Tryz.underlying32 HI.out HZ0.out HZ1.out HZ2.out rfl (by decide) _ n ((bs).map Extern.Stop.cell) rfl NP.out _ 1 1 [Value.int .u8 128] rfl rfl (cell_one_new _ _ _) (wF _) (by unfold maxLen;omega) (by omega) (by simp;omega) ?_));intro v' w2 hown hg _ hat;obtain ⟨A2,c2,rfl⟩:=dG hown;have H2:=ae (H1.out.grown (bs':=bs++ [128]) (by unfold nH;rw [List.map_append];exact hown) (by rw [aZ,HL.out];rfl) hg hat);clear hown hg hat;have hpl:=Oz n;have NR:=ae (I7 n);obtain ⟨p,hp⟩:∃p,Gt n=p:=⟨_,rfl⟩;have HP:=ae hp;rw [hp] at hpl NR;clear hp hsz;go_wp2_with fail
 go_loopw [3] (fun b wr=>∃k n2 c A,k≤p∧n2=n+1+k∧b= .slice A n2 c∧PB (.slice none 0 0) w (bs++ [128]++List.replicate k 0) A n2 c wr) (fun b _=>n+1+p - lenV b)
 case atStart=>exact ⟨0,n+1,c2,A2,Nat.zero_le _,rfl,rfl,by simpa using H2.out⟩
 case round=>
  obtain ⟨k,n2,c3,A3,hk,hn2,rfl,hb⟩:=hrel;have HB:=ae hb;have hsz:w.heap.size≤wr.heap.size:=hb.keep.size;clear hb;have ht:((n2:Int)).tmod 64=((n2%64:Nat):Int):=by rw [Int.tmod_eq_emod_of_nonneg (by omega)];rfl
  obtain ⟨q,hq⟩:∃q,n2%64=q:=⟨_,rfl⟩;rw [hq] at ht;have ht2:((n2:Int))%64=(q:Int):=by omega
  have hkp:q≠56→k<p:=by
   intro hqe;have:=NR.out;rcases Nat.lt_or_ge k p with h|h
   ·exact h
   ·have e:k=p:=by omega
    subst e;subst hn2;omega
  have QJ:=ae hn2;have hn2b:n2≤n+64:=by omega
  clear hn2 hq;by_cases hqe:q=56
  ·subst hqe;go_wp2_with fail;have H4:=ae HB.out;have HQE:Hid (n2%64=56):=ae (by omega);have HN5:Hid (n2=n+1+p):=ae (by
    have h1:=QJ.out;have h2:=NR.out;have h3:=HQE.out;omega)
   have X8:Hid (k=p):=ae (by have:=QJ.out;have:=HN5.out;omega);clear HB hkp hsz ht ht2 hk
   go_loopw [3,5] (fun b i wr=>∃(j n3 c:Nat) (A:Option Addr) (ps:List UInt8),j≤8∧n3=n2+j∧b= .slice A n3 c∧i= .int .i64 (7 - (j:Int))∧ps.length=n3∧ps=iD bs p++upto (szF n) j∧PB (.slice none 0 0) w ps A n3 c wr) (fun _ i _=>(intOf i+1).toNat)
   case atStart=>exact ⟨0,n2,c3,A3,_,Nat.zero_le _,rfl,rfl,by go_num,H4.out.len,by rw [X8.out];simp [iD,upto],H4.out⟩
   case round=>
    obtain ⟨j,n3,c4,A4,ps,hj,hn3,rfl,rfl,hpl2,hps,hb⟩:=hrel;have HPS:=ae hps;clear hps;have HB:=ae hb;have HN3:=ae hn3;have Dw:=ae hpl2;have hsz:w.heap.size≤wr.heap.size:=hb.keep.size;have hn3b:n3≤n+80:=by omega
    clear hb hn3 hpl2;by_cases hlt:j<8
    ·obtain ⟨i,hi⟩:∃i:Int,7 - (j:Int)=i:=⟨_,rfl⟩;have hi0:0≤i:=by omega
     have hi1:i≤7:=by omega
     have HIJ:=ae hi;rw [hi];clear hi;have UN:=ae (dF (8*(n:Int) / 2 ^ (8*i).toNat));have NP:=ae (World.ownsRow.alloc HB.out.own (.cells #[Value.int .u8 (8*(n:Int) / 2 ^ (8*i).toNat%256)] 5));go_wp2_with (at_builtin;go_must (refine wpList_append_own_at _ rfl _ _ 32 rfl w.heap.size 5 i0 (.int .u8 0) 1 1 Tryz.underlying32 HI.out HZ0.out HZ1.out HZ2.out rfl (by decide) _ n3 ((ps).map Extern.Stop.cell) rfl NP.out _ 1 1 [Value.int .u8 (8*(n:Int) / 2 ^ (8*i).toNat%256)] rfl rfl (cell_one_new _ _ _) (wF _) (by unfold maxLen;omega) (by omega) (by simp;omega) ?_));intro v' w3 hown hg _ hat;obtain ⟨A',c',rfl⟩:=dG hown;have H5:=ae (HB.out.grown (bs':=ps++ [byteOf (8*(n:Int) / 2 ^ (8*i).toNat)]) (n':=n3+1) (by unfold nH;rw [List.map_append];show World.ownsRow _ _ _ _ _ _ (_++ [Extern.Stop.cell _]);rw [UN.out];exact hown) (by rw [aZ,Dw.out];rfl) hg hat);clear hown hg hat;go_wp2_with fail;go_roundw
     case rel=>exact ⟨j+1,n3+1,c',A',_,by omega,by have:=HN3.out;omega,rfl,by have:=HIJ.out;congr 1;omega,H5.out.len,by rw [HPS.out,upto_succ,List.append_assoc,szF_at HIJ.out hi0],H5.out⟩
     case measure=>simp [intOf];omega
    ·have HJ:Hid (j=8):=ae (by omega);have hz:7 - (j:Int)<0:=by omega
     have Zh:Hid (n3=n+9+p):=ae (by have:=HN3.out;have:=HN5.out;have:=HJ.out;omega);go_wp2_with fail;go_ret;have hq:ps=ng bs:=by
      rw [HPS.out,HJ.out,←HP.out,Oy];unfold ng Jl;rw [HL.out];rfl
     rw [←hq];exact ⟨A4,n3,c4,Dw.out,rfl,HB.out.own,HB.out.keep⟩
  ·have hne:((q:Int) !=56)=true:=by rw [bne_iff_ne];omega
   have hkp2:=hkp hqe;clear hkp;obtain ⟨pre,hpre⟩:∃l:List UInt8,bs++ [128]++List.replicate k 0=l:=⟨_,rfl⟩;have DJ:=ae hpre;rw [hpre] at HB;clear hpre;have NP:=ae (World.ownsRow.alloc HB.out.own (.cells #[Value.int .u8 0] 5));go_wp2_with (at_builtin;go_must (refine wpList_append_own_at _ rfl _ _ 32 rfl w.heap.size 5 i0 (.int .u8 0) 1 1 Tryz.underlying32 HI.out HZ0.out HZ1.out HZ2.out rfl (by decide) _ n2 ((pre).map Extern.Stop.cell) rfl NP.out _ 1 1 [Value.int .u8 0] rfl rfl (cell_one_new _ _ _) (wF _) (by unfold maxLen;omega) (by omega) (by simp;omega) ?_));intro v' w3 hown hg _ hat;obtain ⟨A',c',rfl⟩:=dG hown;have H3:=ae (HB.out.grown (bs':=bs++ [128]++List.replicate (k+1) 0) (n':=n2+1) (by unfold nH;rw [List.replicate_succ',←List.append_assoc,DJ.out,List.map_append];exact hown) (by have:=QJ.out;simp [HL.out];omega) hg hat);clear hown hg hat;go_wp2_with fail;go_roundw
   case rel=>exact ⟨k+1,n2+1,c',A',by omega,by have:=QJ.out;omega,rfl,H3.out⟩
   case measure=>have:=QJ.out;simp [lenV];omega
end Go.Proofs.YtdibbemgpikgjaaGreatDoor
