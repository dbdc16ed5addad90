/- The texts Ec, Ed, Ee, Ef, in this order. -/
import Derived.Test.YtbaehbbonkljpaaGreatDoorS00
import Derived.Test.YtbaehbbonkljpaaGreatDoorS27
import Derived.Test.YtbaehbbonkljpaaGreatDoorS30
import Derived.Test.YtbaehbbonkljpaaGreatDoorS31
set_option maxRecDepth 10000
set_option maxHeartbeats 8000000
namespace Go.Proofs.YtbaehbbonkljpaaGreatDoor
open Go Go.RowKit
theorem Bo.tto {w W:World} {wb:Nat} {cs ws ks:Array Value} {zs zs':List Int} (h:Bo w wb cs (aj zs) ws ks W) (e:zs=zs'):Bo w wb cs (aj zs') ws ks W:=e▸h
theorem Jt {ks ws ss:List Int} (h:∀z∈ss,0<=z/\z<4294967296):∀k,∀z∈rT ks ws ss k,0<=z/\z<4294967296
 |0=>h
 |k+1=>by
  have ih:=Jt (ks:=ks) (ws:=ws) h k;show∀z∈CE _ _ (rT ks ws ss k),_;unfold CE;split
  ·rename_i a b c d e f g i he;rw [he] at ih;intro z hz;simp only [List.mem_cons,List.not_mem_nil,or_false] at hz ih;rcases hz with rfl|rfl|rfl|rfl|rfl|rfl|rfl|rfl
   ·omega
   ·exact ih _ (by simp)
   ·exact ih _ (by simp)
   ·exact ih _ (by simp)
   ·omega
   ·exact ih _ (by simp)
   ·exact ih _ (by simp)
   ·exact ih _ (by simp)
  ·exact ih
theorem Yq {ks ws ss:List Int} {k:Nat} {t0 t1 t2 t3 t4 t5 t6 t7 wk kk X Y:Int} (h: [t0,t1,t2,t3,t4,t5,t6,t7]=rT ks ws ss k) (hb:0<=t4/\t4<4294967296) (hw:ws[k]?.getD 0=wk) (hk:ks[k]?.getD 0=kk)
  (hX:(((t7+bits BinOp.xor IntKind.u32 (bits BinOp.xor IntKind.u32 (eU t4 6) (eU t4 11)) (eU t4 25)+bits BinOp.xor IntKind.u32 (bits BinOp.and IntKind.u32 t4 t5) (bits BinOp.and IntKind.u32 ((4294967295 - t4)%4294967296) t6)+kk)%4294967296+wk)%4294967296)=X)
  (hY:((bits BinOp.xor IntKind.u32 (bits BinOp.xor IntKind.u32 (eU t0 2) (eU t0 13)) (eU t0 22)+bits BinOp.xor IntKind.u32 (bits BinOp.xor IntKind.u32 (bits BinOp.and IntKind.u32 t0 t1) (bits BinOp.and IntKind.u32 t0 t2)) (bits BinOp.and IntKind.u32 t1 t2))%4294967296)=Y):
  [(X+Y)%4294967296,t0,t1,t2,(t3+X)%4294967296,t4,t5,t6]=rT ks ws ss (k+1):=by
 have e1:X=xF t4 t5 t6 t7 kk wk:=by
  rw [<-hX,tr6,tr11,tr25,show (4294967295 - t4)%4294967296=4294967295 - t4 by omega];unfold xF;rw [YP t4 hb.1 hb.2];simp only [IntKind.wrap_u32'];generalize bits BinOp.xor IntKind.u32 (bits BinOp.xor IntKind.u32 (kX t4 (amt (-6))) (kX t4 (amt (-11)))) (kX t4 (amt (-25)))=A;generalize bits BinOp.xor IntKind.u32 (bits BinOp.and IntKind.u32 t4 t5) (bits BinOp.and IntKind.u32 (4294967295 - t4) t6)=B;omega
 have e2:Y=yF t0 t1 t2:=by
  rw [<-hY,tr2,tr13,tr22];unfold yF;rw [IntKind.wrap_u32']
 show _=CE (ks[k]?.getD 0) (ws[k]?.getD 0) (rT ks ws ss k);rw [<-h,hw,hk,e1,e2];rfl
theorem QM {ts ss zs:List Int} {j:Nat} {sj tj:Int} (h:zs=sumT ts ss j) (hs:ss[j]?.getD 0=sj) (ht:zs[j]?.getD 0=tj):zs.set j ((tj+sj)%4294967296)=sumT ts ss (j+1):=by
 show _=(sumT ts ss j).set j (((ts[j]?.getD 0)+(ss[j]?.getD 0))%4294967296);rw [<-h,<-hs,<-ht,h,JI ts ss j j (Nat.le_refl _)]
theorem QL {ts ss:List Int} (ht:ts.length=8) (hs:ss.length=8):sumT ts ss 8=sumT ss ts 8:=by
 obtain ⟨a0,a1,a2,a3,a4,a5,a6,a7,rfl⟩:=BO ht;obtain ⟨b0,b1,b2,b3,b4,b5,b6,b7,rfl⟩:=BO hs;simp [sumT,Int.add_comm]
theorem step_x (w:World) (bb off c:Nat) (ss:List Int) (hs:ss.length=8) (hsb:∀z∈ss,0<=z/\z<4294967296) (xs:List UInt8) (hx:xs.length=64) (hb:bb<w.heap.size) (hA:∀j,j<64->w.cell? ⟨bb,off+j,none⟩=some (Extern.Stop.cell (xs[j]?.getD 0))):
  Calls Tryz.prog 81 #[.agg (aj ss), .slice (some ⟨bb,off,none⟩) 64 c] w fun e w'=>e= .returned (.agg (aj (DZ qx ss xs)))/\Below w.heap.size w w':=by
 have oO:=ae hsb;clear hsb;obtain ⟨cs,hcs⟩:∃a,aj ss=a:=⟨_,rfl⟩;rw [hcs];have hz:cs.size=8:=by rw [<-hcs,aW,hs]
 have HCS:=ae hcs;have oD:=ae hs;have H0:=ae (Xr.start w cs);have HEX:Hid (∀W,Below w.heap.size w W->Calls Tryz.prog 100 #[.slice (some ⟨bb,off,none⟩) 64 c] W fun e w'=>e= .returned (.agg (aj (gW xs 64)))/\Below W.heap.size W w'):=
  ae fun W h=>TC W bb off c xs hx (dP hb h.size) fun j hj=>(h.cell (p:=⟨bb,off+j,none⟩) hb).trans (hA j hj)
 have PL:Hid ((Tryz.prog.info? 155).map (·.size)=some cs.size):=ae (by rw [hz];kernel_rfl);have Bi:Hid ((aj (List.replicate 8 0)).size=cs.size):=ae (by rw [aW,hz];simp);have mG:Hid (cs.all (·.oneCell')=true):=ae (by rw [<-hcs];exact bQ _);clear hx hA hcs hs hz;go_enter Tryz.func81,Tryz.ntmps81;go_upto_region 1 with (first
  |((with_reducible refine aZ 155 ?_);go_must (refine aG rfl _ rfl (aj (List.replicate 8 0)) uM ?_)))
 generalize (w.alloc (.cells cs 155)).alloc (.cells (aj (List.replicate 8 0)) 155)=W0 at H0 ⊢;go_wp2_with fail;refine (HEX.out _ H0.out.lo).mono ?_;rintro e w1 ⟨rfl,hb1⟩;obtain ⟨ws,hws⟩:∃l,gW xs 64=l:=⟨_,rfl⟩;rw [hws];have hwl:ws.length=64:=by rw [<-hws];exact nT _ _
 have HWS:=ae hws;clear hws;have H1:=ae (H0.out.grow hb1);have HWL:=ae hwl;clear hb1 H0 HEX hwl;go_wp2_with fail;refine (UT w1).mono ?_;rintro e w2 ⟨rfl,hb2⟩;have H2:=ae (H1.out.grow hb2);clear hb2 H1;rw [YQ];obtain ⟨ks,hks⟩:∃l,qx=l:=⟨_,rfl⟩;rw [hks];have nX:Hid (ks.length=64):=ae (by rw [<-hks];rfl);have HKS:=ae hks;clear hks;have H3:=ae (Bo.start H2.out (aj ws) (aj ks) (aj (List.replicate 64 0)));have HI4:Hid ((Tryz.prog.info? 190).map (·.size)=some (aj ws).size):=ae (by rw [aW,HWL.out];kernel_rfl);have Ro:Hid ((Tryz.prog.info? 190).map (·.size)=some (aj ks).size):=ae (by rw [aW,nX.out];kernel_rfl);have Bh:Hid ((aj (List.replicate 64 0)).size=(aj ws).size):=ae (by rw [aW,aW,HWL.out];simp);have HZ5:Hid ((aj (List.replicate 64 0)).size=(aj ks).size):=ae (by rw [aW,aW,nX.out];simp);obtain ⟨u64,hu64⟩:∃l:List Int,List.replicate 64 0=l:=⟨_,rfl⟩;rw [hu64] at H3 Bh HZ5;have HUI:Hid ((Tryz.prog.info? 190).map (fun i=>(i.zero,i.size))=some (some (.agg (aj u64)),(aj u64).size)):=ae (by rw [<-hu64];exact iV);clear hu64;obtain ⟨u8,hu8⟩:∃l:List Int,List.replicate 8 0=l:=⟨_,rfl⟩;rw [hu8] at H3 Bi;have HU8:Hid ((Tryz.prog.info? 155).map (fun i=>(i.zero,i.size))=some (some (.agg (aj u8)),(aj u8).size)):=ae (by rw [<-hu8];exact uM);clear hu8;go_upto_region 2 with (first
  |((with_reducible refine aZ 190 ?_);go_must (refine aG rfl _ rfl (aj u64) HUI.out ?_))
  |((with_reducible refine dW 190 ?_);go_must (first
    |(refine wpList_store_row rfl _ _ _ rfl w2.heap.size (aj ws) rfl rfl 190 (aj u64) (heap_alloc2_old w2 _ _) HI4.out Bh.out (bQ _) ?_)
    |(refine wpList_store_row rfl _ _ _ rfl (w2.heap.size+1) (aj ks) (congrArg (fun b=>Value.pointer (some ⟨b,0,none⟩)) (oU w2 _)) rfl 190 (aj u64) ((setRow_other _ _ _ _ (by omega)).trans (heap_alloc2_new w2 _ _)) Ro.out HZ5.out (bQ _) ?_))))
 have HR4:=ae (YF H2.out (aj u64) (aj ws) (aj ks));have HV5:=ae (YG w2 (aj u64) (aj ws) (aj ks) (aj u8));have DT:=ae (JH w2 (aj u64) (aj ws) (aj ks));generalize ((((w2.alloc (.cells (aj u64) 190)).alloc (.cells (aj u64) 190)).setRow w2.heap.size (aj ws)).setRow (w2.heap.size+1) (aj ks))=W4 at H3 HR4 HV5 DT ⊢;obtain ⟨wb,hwb⟩:∃b,w2.heap.size=b:=⟨_,rfl⟩;rw [hwb] at H3 HV5 DT;rw [oU w2,hwb];clear hwb H2 Bh HZ5 HUI;go_wp2_with (first
  |((with_reducible refine eF 155 ?_);go_must (refine aP rfl _ _ rfl w.heap.size rfl cs HR4.out _ Tryz.underlying155 rfl PL.out ?_))
  |((with_reducible refine aZ 155 ?_);go_must (refine aG rfl _ rfl (aj u8) HU8.out ?_))
  |((with_reducible refine dW 155 ?_);go_must (refine wpList_store_row rfl _ _ _ rfl (wb+2) cs (congrArg (fun b=>Value.pointer (some ⟨b,0,none⟩)) DT.out) rfl 155 (aj u8) HV5.out PL.out Bi.out mG.out ?_)))
 generalize (W4.alloc (.cells (aj u8) 155)).setRow (wb+2) cs=W6 at H3 ⊢;rw [DT.out];clear HR4 HV5 DT Bi HU8
 go_loopw [8] (fun i wr=>∃(k:Nat) (ts:List Int),k<=64/\i=I k/\ts.length=8/\ts=rT ks ws ss k/\(∀z∈ts,0<=z/\z<4294967296)/\Bo w wb cs (aj ts) (aj ws) (aj ks) wr) (fun i _=>64 - (intOf i).toNat)
 case atStart=>exact ⟨0,ss,Nat.zero_le _,rfl,oD.out,rfl,oO.out,by rw [HCS.out];exact H3.out⟩
 case round=>
  obtain ⟨k,ts,hk,rfl,htl,hts,hbd,hs⟩:=hrel;have ZJ:=ae hts;have HBD:=ae hbd;have HS:=ae hs;clear H3 hs hts hbd;by_cases hlt:(k:Int)<64
  ·obtain ⟨t0,t1,t2,t3,t4,t5,t6,t7,rfl⟩:=BO htl;clear htl;have HB4:Hid (0<=t4/\t4<4294967296):=ae (HBD.out t4 (by simp));have c0:wr.cell? ⟨wb+2,0,none⟩=some (.int .u32 t0):=HS.out.t.cell 0;have c4:wr.cell? ⟨wb+2,4,none⟩=some (.int .u32 t4):=HS.out.t.cell 4;go_wp2_with fail;go_quiet (fail);obtain ⟨W7,TP⟩:∃W,wr.drewN nq=W:=⟨_,rfl⟩;rw [TP];have Rq:Hid (Bo w wb cs (aj [t0,t1,t2,t3,t4,t5,t6,t7]) (aj ws) (aj ks) W7):=ae (by rw [<-TP];exact HS.out.drewN nq);clear TP c0 c4 HS;obtain ⟨wk,hwk⟩:∃z,ws[k]?.getD 0=z:=⟨_,rfl⟩;obtain ⟨kk,hkk⟩:∃z,ks[k]?.getD 0=z:=⟨_,rfl⟩;have cw:W7.cell? ⟨wb,k,none⟩=some (.int .u32 wk):=(Rq.out.w.cell k).trans (by rw [bU _ _ (by rw [HWL.out];omega),hwk]);have ck:W7.cell? ⟨wb+1,k,none⟩=some (.int .u32 kk):=(Rq.out.k.cell k).trans (by rw [bU _ _ (by rw [nX.out];omega),hkk]);have HWK:Hid (ws[k]?.getD 0=wk/\ks[k]?.getD 0=kk):=ae ⟨hwk,hkk⟩;clear hwk hkk;have c0:W7.cell? ⟨wb+2,0,none⟩=some (.int .u32 t0):=Rq.out.t.cell 0;have c1:W7.cell? ⟨wb+2,1,none⟩=some (.int .u32 t1):=Rq.out.t.cell 1;have c2:W7.cell? ⟨wb+2,2,none⟩=some (.int .u32 t2):=Rq.out.t.cell 2;have c3:W7.cell? ⟨wb+2,3,none⟩=some (.int .u32 t3):=Rq.out.t.cell 3;have c4:W7.cell? ⟨wb+2,4,none⟩=some (.int .u32 t4):=Rq.out.t.cell 4;have c5:W7.cell? ⟨wb+2,5,none⟩=some (.int .u32 t5):=Rq.out.t.cell 5;have c6:W7.cell? ⟨wb+2,6,none⟩=some (.int .u32 t6):=Rq.out.t.cell 6;have c7:W7.cell? ⟨wb+2,7,none⟩=some (.int .u32 t7):=Rq.out.t.cell 7;go_wp2_with fail;go_quiet ((go_at_call 102;exact CY _ _ _ _ (by omega) (by omega)));generalize hX:(((t7+bits BinOp.xor IntKind.u32 (bits BinOp.xor IntKind.u32 (eU t4 6) (eU t4 11)) (eU t4 25)+bits BinOp.xor IntKind.u32 (bits BinOp.and IntKind.u32 t4 t5) (bits BinOp.and IntKind.u32 ((4294967295 - t4)%4294967296) t6)+kk)%4294967296+wk)%4294967296)=X;have HX:=ae hX;clear hX;obtain ⟨W8,hW8⟩:∃W,W7.drewN nq=W:=⟨_,rfl⟩;rw [hW8];have HS8:Hid (Bo w wb cs (aj [t0,t1,t2,t3,t4,t5,t6,t7]) (aj ws) (aj ks) W8):=ae (by rw [<-hW8];exact Rq.out.drewN nq);clear hW8 c0 c1 c2 c3 c4 c5 c6 c7 cw ck Rq;have c1:W8.cell? ⟨wb+2,1,none⟩=some (.int .u32 t1):=HS8.out.t.cell 1;have c2:W8.cell? ⟨wb+2,2,none⟩=some (.int .u32 t2):=HS8.out.t.cell 2;go_wp2_with fail;go_quiet ((go_at_call 102;exact CY _ _ _ _ (by omega) (by omega)));generalize hY:((bits BinOp.xor IntKind.u32 (bits BinOp.xor IntKind.u32 (eU t0 2) (eU t0 13)) (eU t0 22)+bits BinOp.xor IntKind.u32 (bits BinOp.xor IntKind.u32 (bits BinOp.and IntKind.u32 t0 t1) (bits BinOp.and IntKind.u32 t0 t2)) (bits BinOp.and IntKind.u32 t1 t2))%4294967296)=Y;have HY:=ae hY;clear hY;obtain ⟨W9,hW9⟩:∃W,W8.drewN nq=W:=⟨_,rfl⟩;rw [hW9];have V4:Hid (Bo w wb cs (aj [t0,t1,t2,t3,t4,t5,t6,t7]) (aj ws) (aj ks) W9):=ae (by rw [<-hW9];exact HS8.out.drewN nq);clear hW9 c1 c2 HS8;have c0:W9.cell? ⟨wb+2,0,none⟩=some (.int .u32 t0):=V4.out.t.cell 0;have c1:W9.cell? ⟨wb+2,1,none⟩=some (.int .u32 t1):=V4.out.t.cell 1;have c2:W9.cell? ⟨wb+2,2,none⟩=some (.int .u32 t2):=V4.out.t.cell 2;have c3:W9.cell? ⟨wb+2,3,none⟩=some (.int .u32 t3):=V4.out.t.cell 3;have c4:W9.cell? ⟨wb+2,4,none⟩=some (.int .u32 t4):=V4.out.t.cell 4;have c5:W9.cell? ⟨wb+2,5,none⟩=some (.int .u32 t5):=V4.out.t.cell 5;have c6:W9.cell? ⟨wb+2,6,none⟩=some (.int .u32 t6):=V4.out.t.cell 6;have c7:W9.cell? ⟨wb+2,7,none⟩=some (.int .u32 t7):=V4.out.t.cell 7;have HI9:Hid ((Tryz.prog.info? 155).map (·.size)=some (aj [(X+Y)%4294967296,t0,t1,t2,(t3+X)%4294967296,t4,t5,t6]).size):=ae (by kernel_rfl);go_wp2_with ((with_reducible refine dW 155 ?_);go_must (refine wpList_store_row rfl _ _ _ rfl (wb+2) (aj [(X+Y)%4294967296,t0,t1,t2,(t3+X)%4294967296,t4,t5,t6]) rfl rfl 155 (aj [t0,t1,t2,t3,t4,t5,t6,t7]) V4.out.t.var HI9.out rfl (bQ _) ?_));go_roundw
   case rel=>exact ⟨k+1,rT ks ws ss (k+1),by omega,by go_num,yJ _ _ _ oD.out _,rfl,Jt oO.out _,(V4.out.row _).tto (Yq ZJ.out HB4.out HWK.out.1 HWK.out.2 HX.out HY.out)⟩
   case measure=>simp [intOf];omega
  ·have xY:=ae htl;clear htl;go_wp2_with fail
   go_loopw [13] (fun i wr=>∃(k:Nat) (zs:List Int),k<=8/\i=I k/\zs.length=8/\zs=sumT ts ss k/\Bo w wb cs (aj zs) (aj ws) (aj ks) wr) (fun i _=>8 - (intOf i).toNat)
   case atStart=>exact ⟨0,ts,Nat.zero_le _,rfl,xY.out,rfl,HS.out⟩
   case round=>
    clear HS;have MH:k=64:=by omega
    have HK64:=ae MH;clear hlt MH;obtain ⟨j,zs,hj,rfl,hzl,hzs,hs⟩:=hrel;have P5:=ae hzs;clear hzs;have HS:=ae hs;have HL:=ae hzl;clear hs hzl;by_cases hlt:(j:Int)<8
    ·obtain ⟨sj,hsj⟩:∃z,ss[j]?.getD 0=z:=⟨_,rfl⟩;obtain ⟨tj,htj⟩:∃z,zs[j]?.getD 0=z:=⟨_,rfl⟩;have cS:wr.cell? ⟨w.heap.size,j,none⟩=some (.int .u32 sj):=(HS.out.b.s.cell j).trans (by rw [<-HCS.out,bU _ _ (by rw [oD.out];omega),hsj]);have cT:wr.cell? ⟨wb+2,j,none⟩=some (.int .u32 tj):=(HS.out.t.cell j).trans (by rw [bU _ _ (by rw [HL.out];omega),htj]);have cf:=HS.out.t.fZ j;have HSJ:Hid (ss[j]?.getD 0=sj/\zs[j]?.getD 0=tj):=ae ⟨hsj,htj⟩;clear hsj htj;go_wp2_with fail;go_still_tail 9,(by kernel_rfl);change wpList _ _ _ _ _ wr.drew;go_wp2_with fail;go_roundw
     case rel=>exact ⟨j+1,sumT ts ss (j+1),by omega,by go_num,by rw [uF];exact xY.out,rfl,(HS.out.drew.put j _).tto (QM P5.out HSJ.out.1 HSJ.out.2)⟩
     case measure=>simp [intOf];omega
    ·have qm:Hid ((Tryz.prog.info? 155).map (·.size)=some (aj zs).size):=ae (by rw [aW,HL.out];kernel_rfl);have HRW:Hid (gK wr (wb+2) (aj zs)):=ae HS.out.t.jw;have lg:Hid ((aj (List.replicate 8 0)).size=(aj zs).size):=ae (by rw [aW,aW,HL.out];simp);go_wp2_with (first
      |((with_reducible refine eF 155 ?_);go_must (refine aP rfl _ _ rfl (wb+2) rfl (aj zs) HRW.out _ Tryz.underlying155 rfl qm.out ?_))
      |((with_reducible refine dW 155 ?_);go_must (refine wpList_store_row rfl _ _ _ rfl (w.heap.size+1) (aj zs) rfl rfl 155 (aj (List.replicate 8 0)) HS.out.b.r.var qm.out lg.out (bQ _) ?_)))
     refine bodyPost_ret (v:= .agg (aj zs)) (results_cell_row rfl _ _ (w.heap.size+1) _ (aj zs) (0,0) _ rfl (setRow_heap _ _ _ _ _ _ HS.out.b.r.var) Tryz.underlying155 rfl qm.out) rfl ?_;have hj8:j=8:=by omega
     exact ⟨by rw [P5.out,hj8,QL xY.out oD.out,ZJ.out,HK64.out,<-HWS.out,<-HKS.out];rfl,aB HS.out.b.lo (Nat.le_succ _) _⟩
def szF (n j:Nat):UInt8:=byteOf (8*(n:Int) / 2 ^ (56 - 8*j))
theorem szF_at {n j:Nat} {i:Int} (h:7 - (j:Int)=i) (h0:0<=i):byteOf (8*(n:Int) / 2 ^ (8*i).toNat)=szF n j:=by
 unfold szF;rw [show (8*i).toNat=56 - 8*j by omega]
theorem OM (n:Nat):GH n=uN n:=by unfold GH uN;omega
theorem UJ (n c:Nat) (A:Option Addr) (bs:List UInt8) (w:World) (hl:bs.length=n) (h0:0<n) (hn:n<=200000) (hb:aA w w.heap.size A (bs.map Extern.Stop.cell)):
  Calls Tryz.prog 80 #[.slice A n c] w (Zc w.heap.size (.slice none 0 0) w (tC bs)):=by
 obtain ⟨i0,hi,hz0,hz1,hz2⟩:=info_parts lN;have HI:=ae hi;have HZ0:=ae hz0;have HZ1:=ae hz1;have HZ2:=ae hz2;clear hi hz0 hz1 hz2;obtain ⟨b,off,rfl,nZ,hcl⟩:=hb.there (by rw [List.length_map];omega);have hb0:∀j u,(bs.map Extern.Stop.cell)[j]? =some u->(w.alloc (.cells #[] 5)).cell? ((⟨b,off,none⟩:Addr).add j)=some u:=mX hb;have HB0:=ae hb0;have HE:=ae (iZ w 5 1);have HL:=ae hl;have yg:Hid ((bs.map Extern.Stop.cell).length=n*1):=ae (by rw [List.length_map,hl,Nat.mul_one]);have AU:Hid (∀u∈bs.map Extern.Stop.cell,u.oneCell'=true):=ae (fun u hu=>by obtain ⟨x,_,rfl⟩:=List.mem_map.1 hu;rfl);clear hb0 hcl hb hl;go_enter Tryz.func80,Tryz.ntmps80;go_wp2_with (at_builtin;go_must (refine wpList_append_own_at _ rfl _ _ 55 rfl w.heap.size 5 i0 (.int .u8 0) 1 1 Tryz.underlying55 HI.out HZ0.out HZ1.out HZ2.out rfl (by decide) _ 0 [] rfl HE.out ⟨b,off,none⟩ n c (bs.map Extern.Stop.cell) rfl yg.out HB0.out AU.out (by unfold maxLen;omega) (by omega) (by simp) ?_));intro v' w1 hown hg _ hat;obtain ⟨A1,c1,rfl⟩:=fD hown;have H1:Hid (PB (.slice none 0 0) w bs A1 n c1 w1):=ae (PB.fresh (by unfold ou;simpa using hown) HL.out hg hat);have hsz:w.heap.size<=w1.heap.size:=H1.out.keep.size;clear hown hg hat;have N9:=ae (World.ownsRow.alloc H1.out.own (.cells #[Value.int .u8 128] 5));go_wp2_with (at_builtin;go_must (refine wpList_append_own_at _ rfl _ _ 55 rfl w.heap.size 5 i0 (.int .u8 0) 1 1 Tryz.underlying55 HI.out HZ0.out HZ1.out HZ2.out rfl (by decide) _ n ((bs).map Extern.Stop.cell) rfl N9.out _ 1 1 [Value.int .u8 128] rfl rfl (cell_one_new _ _ _) (wV _) (by unfold maxLen;omega) (by omega) (by simp;omega) ?_));intro v' w2 hown hg _ hat;obtain ⟨A2,c2,rfl⟩:=fD hown;have H2:=ae (H1.out.grown (bs':=bs++ [128]) (by unfold ou;rw [List.map_append];exact hown) (by rw [bF,HL.out];rfl) hg hat);clear hown hg hat;have hpl:=OO n;have PQ:=ae (Jn n);obtain ⟨p,hp⟩:∃p,GH n=p:=⟨_,rfl⟩;have HP:=ae hp;rw [hp] at hpl PQ;clear hp hsz;go_wp2_with fail
 go_loopw [3] (fun b wr=>∃k n2 c A,k<=p/\n2=n+1+k/\b= .slice A n2 c/\PB (.slice none 0 0) w (bs++ [128]++List.replicate k 0) A n2 c wr) (fun b _=>n+1+p - lenV b)
 case atStart=>exact ⟨0,n+1,c2,A2,Nat.zero_le _,rfl,rfl,by simpa using H2.out⟩
 case round=>
  obtain ⟨k,n2,c3,A3,hk,hn2,rfl,hb⟩:=hrel;have HB:=ae hb;have hsz:w.heap.size<=wr.heap.size:=hb.keep.size;clear hb;have ht:((n2:Int)).tmod 64=((n2%64:Nat):Int):=by rw [Int.tmod_eq_emod_of_nonneg (by omega)];rfl
  obtain ⟨q,hq⟩:∃q,n2%64=q:=⟨_,rfl⟩;rw [hq] at ht;have ht2:((n2:Int))%64=(q:Int):=by omega
  have hkp:q≠56->k<p:=by
   intro hqe;have:=PQ.out;rcases Nat.lt_or_ge k p with h|h
   ·exact h
   ·have e:k=p:=by omega
    subst e;subst hn2;omega
  have HN2:=ae hn2;have hn2b:n2<=n+64:=by omega
  clear hn2 hq;by_cases hqe:q=56
  ·subst hqe;go_wp2_with fail;have H4:=ae HB.out;have HQE:Hid (n2%64=56):=ae (by omega);have HN5:Hid (n2=n+1+p):=ae (by
    have h1:=HN2.out;have h2:=PQ.out;have h3:=HQE.out;omega)
   have ZA:Hid (k=p):=ae (by have:=HN2.out;have:=HN5.out;omega);clear HB hkp hsz ht ht2 hk
   go_loopw [3,5] (fun b i wr=>∃(j n3 c:Nat) (A:Option Addr) (ps:List UInt8),j<=8/\n3=n2+j/\b= .slice A n3 c/\i= .int .i64 (7 - (j:Int))/\ps.length=n3/\ps=mO bs p++upto (szF n) j/\PB (.slice none 0 0) w ps A n3 c wr) (fun _ i _=>(intOf i+1).toNat)
   case atStart=>exact ⟨0,n2,c3,A3,_,Nat.zero_le _,rfl,rfl,by go_num,H4.out.len,by rw [ZA.out];simp [mO,upto],H4.out⟩
   case round=>
    obtain ⟨j,n3,c4,A4,ps,hj,hn3,rfl,rfl,hpl2,hps,hb⟩:=hrel;have ZE:=ae hps;clear hps;have HB:=ae hb;have HN3:=ae hn3;have Ez:=ae hpl2;have hsz:w.heap.size<=wr.heap.size:=hb.keep.size;have hn3b:n3<=n+80:=by omega
    clear hb hn3 hpl2;by_cases hlt:j<8
    ·obtain ⟨i,hi⟩:∃i:Int,7 - (j:Int)=i:=⟨_,rfl⟩;have hi0:0<=i:=by omega
     have hi1:i<=7:=by omega
     have HIJ:=ae hi;rw [hi];clear hi;have HBC:=ae (fF (8*(n:Int) / 2 ^ (8*i).toNat));have N9:=ae (World.ownsRow.alloc HB.out.own (.cells #[Value.int .u8 (8*(n:Int) / 2 ^ (8*i).toNat%256)] 5));go_wp2_with (at_builtin;go_must (refine wpList_append_own_at _ rfl _ _ 55 rfl w.heap.size 5 i0 (.int .u8 0) 1 1 Tryz.underlying55 HI.out HZ0.out HZ1.out HZ2.out rfl (by decide) _ n3 ((ps).map Extern.Stop.cell) rfl N9.out _ 1 1 [Value.int .u8 (8*(n:Int) / 2 ^ (8*i).toNat%256)] rfl rfl (cell_one_new _ _ _) (wV _) (by unfold maxLen;omega) (by omega) (by simp;omega) ?_));intro v' w3 hown hg _ hat;obtain ⟨A',c',rfl⟩:=fD hown;have H5:=ae (HB.out.grown (bs':=ps++ [byteOf (8*(n:Int) / 2 ^ (8*i).toNat)]) (n':=n3+1) (by unfold ou;rw [List.map_append];show World.ownsRow _ _ _ _ _ _ (_++ [Extern.Stop.cell _]);rw [HBC.out];exact hown) (by rw [bF,Ez.out];rfl) hg hat);clear hown hg hat;go_wp2_with fail;go_roundw
     case rel=>exact ⟨j+1,n3+1,c',A',_,by omega,by have:=HN3.out;omega,rfl,by have:=HIJ.out;congr 1;omega,H5.out.len,by rw [ZE.out,upto_succ,List.append_assoc,szF_at HIJ.out hi0],H5.out⟩
     case measure=>simp [intOf];omega
    ·have HJ:Hid (j=8):=ae (by omega);have hz:7 - (j:Int)<0:=by omega
     have HN8:Hid (n3=n+9+p):=ae (by have:=HN3.out;have:=HN5.out;have:=HJ.out;omega);go_wp2_with fail;go_ret;have hq:ps=tC bs:=by
      rw [ZE.out,HJ.out,<-HP.out,OM];unfold tC O7;rw [HL.out];rfl
     rw [<-hq];exact ⟨A4,n3,c4,Ez.out,rfl,HB.out.own,HB.out.keep⟩
  ·have hne:((q:Int) !=56)=true:=by rw [bne_iff_ne];omega
   have hkp2:=hkp hqe;clear hkp;obtain ⟨pre,hpre⟩:∃l:List UInt8,bs++ [128]++List.replicate k 0=l:=⟨_,rfl⟩;have DR:=ae hpre;rw [hpre] at HB;clear hpre;have N9:=ae (World.ownsRow.alloc HB.out.own (.cells #[Value.int .u8 0] 5));go_wp2_with (at_builtin;go_must (refine wpList_append_own_at _ rfl _ _ 55 rfl w.heap.size 5 i0 (.int .u8 0) 1 1 Tryz.underlying55 HI.out HZ0.out HZ1.out HZ2.out rfl (by decide) _ n2 ((pre).map Extern.Stop.cell) rfl N9.out _ 1 1 [Value.int .u8 0] rfl rfl (cell_one_new _ _ _) (wV _) (by unfold maxLen;omega) (by omega) (by simp;omega) ?_));intro v' w3 hown hg _ hat;obtain ⟨A',c',rfl⟩:=fD hown;have H3:=ae (HB.out.grown (bs':=bs++ [128]++List.replicate (k+1) 0) (n':=n2+1) (by unfold ou;rw [List.replicate_succ',<-List.append_assoc,DR.out,List.map_append];exact hown) (by have:=HN2.out;simp [HL.out];omega) hg hat);clear hown hg hat;go_wp2_with fail;go_roundw
   case rel=>exact ⟨k+1,n2+1,c',A',by omega,by have:=HN2.out;omega,rfl,H3.out⟩
   case measure=>have:=HN2.out;simp [lenV];omega
theorem UI (bs:List UInt8):(tC bs).length=bs.length+9+GH bs.length:=by
 unfold tC O7;rw [bF,rU,upto_length,OM];omega
theorem LD {ks ss:List Int} {xs:List UInt8} (h:ss.length=8):∀z∈DZ ks ss xs,0<=z/\z<4294967296:=by
 unfold DZ;have hl:=yJ ks (gW xs 64) ss h 64;generalize rT ks (gW xs 64) ss 64=ts at hl;obtain ⟨a0,a1,a2,a3,a4,a5,a6,a7,rfl⟩:=BO h;obtain ⟨b0,b1,b2,b3,b4,b5,b6,b7,rfl⟩:=BO hl;intro z hz;simp [sumT] at hz;rcases hz with rfl|rfl|rfl|rfl|rfl|rfl|rfl|rfl<;>omega
theorem U3 (n c:Nat) (A:Option Addr) (bs:List UInt8) (w:World) (hl:bs.length=n) (h0:0<n) (hn:n<=200000) (hb:aA w w.heap.size A (bs.map Extern.Stop.cell)):
  Calls Tryz.prog 61 #[.slice A n c] w (Gives (.agg (cD (qN qx bs))) w):=by
 have H0:=ae (DY.start w (List.replicate 8 0));have HB:=ae hb;have HL:=ae hl;obtain ⟨u8,hu8⟩:∃l:List Int,List.replicate 8 0=l:=⟨_,rfl⟩;have HU8:Hid ((Tryz.prog.info? 155).map (fun i=>(i.zero,i.size))=some (some (.agg (aj u8)),(aj u8).size)):=ae (by rw [<-hu8];exact uM);have HU9:Hid ((aj u8).size=(aj iv3).size):=ae (by rw [<-hu8,aW,aW];simp [iv3]);have PL:Hid ((Tryz.prog.info? 155).map (·.size)=some (aj iv3).size):=ae (by kernel_rfl);rw [hu8] at H0;have HP:Hid (∀W,Below w.heap.size w W->Calls Tryz.prog 80 #[.slice A n c] W (Zc W.heap.size (.slice none 0 0) W (tC bs))):=ae fun W h=>UJ n c A bs W hl h0 hn ((hb.keep h).more h.size);clear hb hl hu8;have HPB:Hid ((tC bs).length=n+9+GH n):=ae (by rw [UI,HL.out]);have hpl:=OO n;have hpm:=Jn n;obtain ⟨N,hN⟩:∃N,n+9+GH n=N:=⟨_,rfl⟩;have HN:=ae hN;have hNm:N%64=0:=by omega
 have hNb:N<=200100:=by omega
 have hN0:0<N:=by omega
 clear hpl hpm hN;go_enter Tryz.func61,Tryz.ntmps61;go_upto_region 2 with (first
  |((with_reducible refine aZ 24 ?_);go_must (refine aG rfl _ rfl (cD d32) uo ?_))
  |((with_reducible refine aZ 155 ?_);go_must (refine aG rfl _ rfl (aj u8) HU8.out ?_))
  |((with_reducible refine dW 155 ?_);go_must (refine wpList_store_row rfl _ _ _ rfl (w.heap.size+1) (aj iv3) (congrArg (fun b=>Value.pointer (some ⟨b,0,none⟩)) (oU w _)) rfl 155 (aj u8) (heap_alloc2_new w _ _) PL.out HU9.out (bQ _) ?_)))
 rw [oU w];generalize ((w.alloc (.cells (cD d32) 24)).alloc (.cells (aj u8) 155)).setRow (w.heap.size+1) (aj iv3)=W1 at H0 ⊢;clear HU8 HU9 PL;go_wp2_with fail;refine (HP.out _ H0.out.lo).mono ?_;rintro e w2 ⟨A2,n2,c2,hn2,rfl,hown,hk⟩;have hpl:=HPB.out;obtain ⟨ps,hps⟩:∃l,tC bs=l:=⟨_,rfl⟩;rw [hps] at hpl hn2 hown;have ZE:=ae hps;clear hps;have hw1:=H0.out.s.lt;have hb2:Below W1.heap.size W1 w2:=hk.jf;have H2:=ae (H0.out.grow hb2);rw [HN.out] at hpl;obtain rfl:n2=N:=by omega
 obtain ⟨pb,cur,rfl,hlo,hnc,hcm,hav,TS⟩:=E5 hown hN0;have HAV:=ae hav;have HCU:=ae TS;have hpb:w.heap.size+1<pb:=by omega
 have Ez:Hid (ps.length=n2):=ae hpl;have hcI:(c2:Int)<=9223372036854775807:=by unfold maxLen at hcm;omega
 clear hav TS hcm hb2 hown hk H0 HP hn2 hpl;go_wp2_with fail
 go_loopw [5] (fun i wr=>∃(k:Nat) (zs:List Int),k%64=0/\k<=n2/\i=I k/\zs.length=8/\zs=vV qx uD (upto (chunk ps) (k / 64))/\(∀z∈zs,0<=z/\z<4294967296)/\DY w zs wr/\AV pb 5 cur wr) (fun i _=>n2 - (intOf i).toNat)
 case atStart=>exact ⟨0,iv3,rfl,Nat.zero_le _,rfl,rfl,rfl,by decide,H2.out,HAV.out⟩
 case round=>
  obtain ⟨k,zs,XW,hk,rfl,hzl,hzf,hzb,hs,hav⟩:=hrel;have HZF:=ae hzf;have HZB:=ae hzb;clear hzf hzb;have HS:=ae hs;have HA:=ae hav;have HZ:=ae hzl;clear hs hav hzl H2 HAV;by_cases hlt:(k:Int)<(n2:Int)
  ·have MH:k+64<=n2:=by omega
   obtain ⟨k2,hk2⟩:∃q:Nat,k+64=q:=⟨_,rfl⟩;have g1:(k:Int)+64=(k2:Int):=by omega
   have g2:(k:Int)<=(k2:Int):=by omega
   have g3:(k2:Int)<=(c2:Int):=by omega
   have g4:IntKind.i64.wrap (k2:Int)=(k2:Int):=by rw [IntKind.wrap_i64];omega
   have g5:(k2:Int) - (k:Int)=64:=by omega
   have jA:=ae hk2;have hck:¬c2=k:=by omega
   have WY:Hid (gK wr.drew (w.heap.size+1) (aj zs)):=ae HS.out.drew.s.jw;have dU:Hid ((Tryz.prog.info? 155).map (·.size)=some (aj zs).size):=ae (by rw [aW,HZ.out];kernel_rfl);go_wp2_with fail;refine wp_region_still_tail 6 (by kernel_rfl) (by kernel_rfl) ?_;simp only [List.take_succ_cons,List.take_zero,List.drop_succ_cons,List.drop_zero];refine zY rfl _ _ rfl (w.heap.size+1) rfl (aj zs) WY.out _ Tryz.underlying155 rfl dU.out ?_;repeat still_step
   refine wpStill_nil ?_;change wpList _ _ _ _ _ wr.drew;go_wp2_with fail;rw [show k2 - k=64 by omega];have Rx:Hid (((ps.drop k).take 64).length=64):=ae (by have:=Ez.out;rw [List.length_take,List.length_drop];omega);have HXC:Hid (∀j,j<64->wr.drew.cell? ⟨pb,k+j,none⟩=some (Extern.Stop.cell (((ps.drop k).take 64)[j]?.getD 0))):=ae (fun j hj=>(HA.out.cell (k+j)).trans ((HCU.out (k+j) (by omega)).trans (by rw [List.getElem?_take_of_lt hj,List.getElem?_drop])));obtain ⟨xs,hxs⟩:∃l,(ps.drop k).take 64=l:=⟨_,rfl⟩;rw [hxs] at Rx HXC;have KA:=ae hxs;clear hxs;refine (step_x wr.drew pb k (c2 - k) zs HZ.out HZB.out xs Rx.out HA.out.lt HXC.out).mono ?_;rintro e w4 ⟨rfl,hb4⟩;obtain ⟨zs2,X4⟩:∃l,DZ qx zs xs=l:=⟨_,rfl⟩;rw [X4];have hz2:zs2.length=8:=by rw [<-X4];exact y8 _ _ _ HZ.out
   have HZQ:=ae X4;clear X4;have DT:=ae (HS.out.drew.grow hb4);have HA4:=ae (HA.out.drew.below hb4);have HZ2:=ae hz2;have qm:Hid ((Tryz.prog.info? 155).map (·.size)=some (aj zs2).size):=ae (by rw [aW,HZ2.out];kernel_rfl);have wF:Hid ((aj zs).size=(aj zs2).size):=ae (by rw [aW,aW,HZ.out,HZ2.out]);clear hb4 hz2 HS HA WY;go_wp2_with ((with_reducible refine dW 155 ?_);go_must (refine wpList_store_row rfl _ _ _ rfl (w.heap.size+1) (aj zs2) rfl rfl 155 (aj zs) DT.out.s.var qm.out wF.out (bQ _) ?_));go_roundw
   case rel=>exact ⟨k2,zs2,by have:=jA.out;omega,by have:=jA.out;omega,rfl,HZ2.out,by rw [<-HZQ.out,HZF.out,show k2 / 64=k / 64+1 by have:=jA.out;omega,upto_succ,BP,<-KA.out];unfold chunk;rw [show 64*(k / 64)=k by omega],by rw [<-HZQ.out];exact LD HZ.out,DT.out.row _,HA4.out.rW (by omega) _⟩
   case measure=>simp [intOf];omega
  ·have HZER:Hid (Value.agg (cD d32)= .agg #[.int .u8 0, .int .u8 0, .int .u8 0, .int .u8 0, .int .u8 0, .int .u8 0, .int .u8 0, .int .u8 0, .int .u8 0, .int .u8 0, .int .u8 0, .int .u8 0, .int .u8 0, .int .u8 0, .int .u8 0, .int .u8 0, .int .u8 0, .int .u8 0, .int .u8 0, .int .u8 0, .int .u8 0, .int .u8 0, .int .u8 0, .int .u8 0, .int .u8 0, .int .u8 0, .int .u8 0, .int .u8 0, .int .u8 0, .int .u8 0, .int .u8 0, .int .u8 0]):=ae rfl;have HID:Hid ((Tryz.prog.info? 24).map (·.size)=some (cD d32).size):=ae (by kernel_rfl);clear HA;have hwr:=HS.out.s.lt;go_upto_region 8 with (first
    |((with_reducible refine aZ 24 ?_);go_must (refine aG rfl _ rfl (cD d32) uo ?_))
    |((with_reducible refine dW 24 ?_);go_must (refine wpList_store_row rfl _ _ _ rfl wr.heap.size (cD d32) rfl HZER.out.symm 24 (cD d32) (heap_alloc_last _ _) HID.out rfl (uk _) ?_)))
   have HO:Hid (AV wr.heap.size 24 (cD d32) ((wr.alloc (.cells (cD d32) 24)).setRow wr.heap.size (cD d32))):=ae ((AV.new wr _ _).qy _);have ED:Hid (DY w zs ((wr.alloc (.cells (cD d32) 24)).setRow wr.heap.size (cD d32))):=ae ((HS.out.grow (ag wr _)).farRow _ hwr _);generalize (wr.alloc (.cells (cD d32) 24)).setRow wr.heap.size (cD d32)=W5 at HO ED ⊢;obtain ⟨ob,hob⟩:∃b,wr.heap.size=b:=⟨_,rfl⟩;rw [hob] at HO hwr ⊢;have Hw:Hid (k=n2):=ae (by omega);clear hob HZER HS hlt;go_wp2_with fail
   go_loopw [7] (fun i wx=>∃(k:Nat) (ds:List UInt8),k<=32/\i=I k/\ds.length=32/\ds=jK zs k/\DY w zs wx/\AV ob 24 (cD ds) wx) (fun i _=>32 - (intOf i).toNat)
   case atStart=>exact ⟨0,d32,Nat.zero_le _,rfl,Ah,rfl,ED.out,HO.out⟩
   case round=>
    clear ED HO;obtain ⟨j,ds,hj,rfl,hdl,hds,hs,ho⟩:=hrel;have HDS:=ae hds;clear hds;have HS:=ae hs;have HO:=ae ho;have VU:=ae hdl;clear hs ho hdl;by_cases hlt:(j:Int)<32
    ·obtain ⟨q,hq⟩:∃q:Nat,j / 4=q:=⟨_,rfl⟩;obtain ⟨r,hr⟩:∃r:Nat,j%4=r:=⟨_,rfl⟩;have XV:Int.tdiv (j:Int) 4=(q:Int):=by rw [Int.tdiv_eq_ediv_of_nonneg (by omega)];omega
     have hmr:Int.tmod (j:Int) 4=(r:Int):=by rw [Int.tmod_eq_emod_of_nonneg (by omega)];omega
     have hdq2:(j:Int) / 4=(q:Int):=by omega
     have hmr2:(j:Int)%4=(r:Int):=by omega
     have hq8:(q:Int)<8:=by omega
     have hr4:(r:Int)<4:=by omega
     obtain ⟨s,hs⟩:∃s:Int,24 - 8*(r:Int)=s:=⟨_,rfl⟩;have hs0:0<=s:=by omega
     have hs1:s<=24:=by omega
     obtain ⟨z,hz⟩:∃z,zs[q]?.getD 0=z:=⟨_,rfl⟩;have cS:wr.cell? ⟨w.heap.size+1,q,none⟩=some (.int .u32 z):=(HS.out.s.cell q).trans (by rw [bU _ _ (by rw [HZ.out];omega),hz]);obtain ⟨o0,ho0⟩:∃x:UInt8,ds[j]?.getD 0=x:=⟨_,rfl⟩;have cO:wr.cell? ⟨ob,j,none⟩=some (Extern.Stop.cell o0):=(HO.out.cell j).trans (by rw [cD_get _ _ (by rw [VU.out];omega),ho0]);have cf:=HO.out.fZ j;have HOE:Hid (ds.set j (byteOf (z / 2 ^ s.toNat))=jK zs (j+1)):=ae (by
      show _=(jK zs j).set j (byteOf ((zs[j / 4]?.getD 0) / 2 ^ (24 - 8*(j%4))));rw [HDS.out,hq,hz,hr,show s.toNat=24 - 8*r by omega])
     clear hq hr hz ho0;go_wp2_with fail;go_roundw
     case rel=>exact ⟨j+1,ds.set j (byteOf (z / 2 ^ s.toNat)),by omega,by go_num,by rw [List.length_set,VU.out],HOE.out,HS.out.far ob hwr _ _,by have h:=HO.out.put j (Extern.Stop.cell (byteOf (z / 2 ^ s.toNat)));rw [cD_set,fF] at h;exact h⟩
     case measure=>simp [intOf];omega
    ·have HRW:Hid (gK wr ob (cD ds)):=ae HO.out.jw;have qm:Hid ((Tryz.prog.info? 24).map (·.size)=some (cD ds).size):=ae (by rw [kL,VU.out];kernel_rfl);have lg:Hid ((cD d32).size=(cD ds).size):=ae (by rw [kL,kL,VU.out,Ah]);go_wp2_with (first
      |((with_reducible refine eF 24 ?_);go_must (refine aP rfl _ _ rfl ob rfl (cD ds) HRW.out _ Tryz.underlying24 rfl qm.out ?_))
      |((with_reducible refine dW 24 ?_);go_must (refine wpList_store_row rfl _ _ _ rfl w.heap.size (cD ds) rfl rfl 24 (cD d32) HS.out.r.var qm.out lg.out (uk _) ?_)))
     refine bodyPost_ret (v:= .agg (cD ds)) (results_cell_row rfl _ _ w.heap.size _ (cD ds) (0,0) _ rfl (setRow_heap _ _ _ _ _ _ HS.out.r.var) Tryz.underlying24 rfl qm.out) rfl ?_;have hj32:j=32:=by omega
     have hds:ds=qN qx bs:=by
      rw [HDS.out,hj32,HZF.out,Hw.out];unfold qN;rw [ZE.out,Ez.out]
     exact ⟨by rw [hds],aB HS.out.lo (Nat.le_refl _) _⟩
theorem Fz (m:Int) (bs:List UInt8):∀k,k<=bs.length->jk m bs k=(bs.take k).map (xb m)++bs.drop k
 |0,_=>by simp [jk]
 |k+1,h=>by
  have ih:=Fz m bs k (by omega);show (jk m bs k).set k (xb m (bs[k]?.getD 0))=_;have hl:((bs.take k).map (xb m)).length=k:=by rw [List.length_map,List.length_take];omega
  rw [ih,List.set_append_right _ _ (by omega),hl,Nat.sub_self,List.drop_eq_getElem_cons (by omega:k<bs.length),List.set_cons_zero];rw [List.take_succ_eq_append_getElem (by omega:k<bs.length),List.map_append,bK (by omega),List.append_assoc];rfl
theorem EM (m:Int) (key:List UInt8) (hk:key.length=32):rG m key=jk m (gq key) 64:=by
 have hl:(gq key).length=64:=by unfold gq;simp [hk]
 rw [Fz m _ 64 (by omega),List.take_of_length_le (by omega),List.drop_of_length_le (by omega),List.append_nil];unfold rG gq;rw [List.map_append];have h:(List.replicate 32 (0:UInt8)).map (xb m)=List.replicate 32 (byteOf m):=by
  rw [List.map_replicate];unfold xb;congr 1;have:bits BinOp.xor IntKind.u8 ((0:UInt8).toNat:Int) m=IntKind.u8.wrap m:=by
   show bits BinOp.xor IntKind.u8 0 m=_;simp [bits];rw [IntKind.wrap_u8',IntKind.wrap_u8',show (2:Int) ^ IntKind.u8.bits=256 from rfl];omega
  rw [this];unfold byteOf;rw [IntKind.wrap_u8'];simp
 rw [h];rfl
theorem OG (key:List UInt8) (hk:key.length=32) (n c:Nat) (A:Option Addr) (bs:List UInt8) (w:World) (hl:bs.length=n) (h0:0<n) (hn:n<=100000) (hb:aA w w.heap.size A (bs.map Extern.Stop.cell)):
  Calls Tryz.prog 38 #[.agg (cD key), .slice A n c] w (Gives (.agg (cD (oh qx key bs))) w):=by
 have HB:=ae hb;have HL:=ae hl;have nX:=ae hk;have H0:=ae (V2.start w 24 (cD key) 24 (cD d32));have dU:Hid (∀d:List UInt8,d.length=32->(Tryz.prog.info? 24).map (·.size)=some (cD d).size):=ae (fun d h=>by rw [kL,h];kernel_rfl);have wF:Hid (∀d:List UInt8,d.length=32->(cD d32).size=(cD d).size):=ae (fun d h=>by rw [kL,kL,h,Ah]);clear hb hl hk;go_enter Tryz.func38,Tryz.ntmps38;go_upto_region 1 with (first
  |((with_reducible refine aZ 24 ?_);go_must (refine aG rfl _ rfl (cD d32) uo ?_)))
 generalize (w.alloc (.cells (cD key) 24)).alloc (.cells (cD d32) 24)=W0 at H0 ⊢;have hw0:=H0.out.r.lt;go_wp2_with ((with_reducible refine eF 24 ?_);go_must (refine aP rfl _ _ rfl w.heap.size rfl (cD key) H0.out.s.jw _ Tryz.underlying24 rfl (dU.out _ nX.out) ?_));refine (EL 54 key W0 nX.out (by omega) (by omega)).mono ?_;rintro e w1 ⟨A1,n1,c1,l1,rfl,o1,k1⟩;have hn1:n1=64:=by rw [<-l1,uj _ _ nX.out]
 subst hn1;obtain ⟨b1,hb1⟩:∃l,rG 54 key=l:=⟨_,rfl⟩;rw [hb1] at o1 l1;have HB1:=ae hb1;have H1:=ae (H0.out.grow k1.jf);have FQ:=ae o1;have DD:=ae l1;have hs1:W0.heap.size<=w1.heap.size:=k1.size;have HBW1:Hid (aA w1 w1.heap.size A (bs.map Extern.Stop.cell)):=ae ((HB.out.keep H1.out.lo).more H1.out.lo.size);clear o1 k1 l1 hb1 H0;go_wp2_with (at_builtin;go_must (refine nK rfl _ _ rfl W0.heap.size 64 c1 A1 b1 rfl FQ.out _ A n c bs rfl HL.out h0 HBW1.out (by omega) hs1 ?_));intro A2 c2 w2 o2 k2;have H2:=ae (H1.out.OB (k2.xA FQ.out.base hs1) hw0);have hs2:W0.heap.size<=w2.heap.size:=Nat.le_trans hs1 k2.size;have rD:=ae o2;clear o2 k2 H1 FQ HBW1;go_wp2_with fail;refine (U3 (64+n) c2 A2 (b1++bs) w2 (by rw [bF,DD.out,HL.out]) (by omega) (by omega) (aA.dR rD.out)).mono ?_;rintro e w3 ⟨rfl,hb3⟩;obtain ⟨d,hdd⟩:∃d,qN qx (b1++bs)=d:=⟨_,rfl⟩;rw [hdd];have hd:d.length=32:=by rw [<-hdd];exact nM _ _
 have RY:=ae hdd;clear hdd;have H3:=ae (H2.out.grow hb3);have HD:=ae hd;have hw3:=H3.out.r.lt;clear H2 rD hb3 hd DD;go_upto_region 3 with (first
  |((with_reducible refine aZ 24 ?_);go_must (refine aG rfl _ rfl (cD d32) uo ?_))
  |((with_reducible refine dW 24 ?_);go_must (refine wpList_store_row rfl _ _ _ rfl w3.heap.size (cD d) rfl rfl 24 (cD d32) (heap_alloc_last _ _) (dU.out _ HD.out) (wF.out _ HD.out) (uk _) ?_)))
 have H4:Hid (V2 w 24 (cD key) 24 (cD d32) ((w3.alloc (.cells (cD d32) 24)).setRow w3.heap.size (cD d))):=ae (H3.out.grow (aB (ag w3 _) (Nat.le_refl _) _));have HI4:Hid (AV w3.heap.size 24 (cD d) ((w3.alloc (.cells (cD d32) 24)).setRow w3.heap.size (cD d))):=ae ((AV.new w3 _ _).qy _);generalize (w3.alloc (.cells (cD d32) 24)).setRow w3.heap.size (cD d)=W4 at H4 HI4 ⊢;obtain ⟨ib,hib⟩:∃b,w3.heap.size=b:=⟨_,rfl⟩;rw [hib] at HI4 hw3 ⊢;clear hib H3;have hw4:=H4.out.r.lt;go_wp2_with ((with_reducible refine eF 24 ?_);go_must (refine aP rfl _ _ rfl w.heap.size rfl (cD key) H4.out.s.jw _ Tryz.underlying24 rfl (dU.out _ nX.out) ?_));refine (EL 92 key W4 nX.out (by omega) (by omega)).mono ?_;rintro e w5 ⟨A5,n5,c5,l5,rfl,o5,k5⟩;have hn5:n5=64:=by rw [<-l5,uj _ _ nX.out]
 subst hn5;obtain ⟨b5,hb5⟩:∃l,rG 92 key=l:=⟨_,rfl⟩;rw [hb5] at o5 l5;have qU:=ae hb5;have H5:=ae (H4.out.grow k5.jf);have Ro:=ae (HI4.out.below k5.jf);have sQ:=ae o5;have ZB:=ae l5;have hs5:W4.heap.size<=w5.heap.size:=k5.size;clear o5 k5 l5 hb5 H4 HI4;go_wp2_with ((with_reducible refine eF 24 ?_);go_must (refine aP rfl _ _ rfl ib rfl (cD d) Ro.out.jw _ Tryz.underlying24 rfl (dU.out _ HD.out) ?_));refine (yC d w5 HD.out).mono ?_;rintro e w6 ⟨A6,n6,c6,l6,rfl,o6,k6⟩;have hn6:n6=32:=by rw [<-l6,HD.out]
 subst hn6;have H6:=ae (H5.out.grow k6.jf);have zU:=ae (sQ.out.below k6.jf);have xe:=ae (aA.dR o6);have hs6:W4.heap.size<=w6.heap.size:=Nat.le_trans hs5 k6.size;clear o6 k6 l6 H5 sQ Ro;go_wp2_with (at_builtin;go_must (refine nK rfl _ _ rfl W4.heap.size 64 c5 A5 b5 rfl zU.out _ A6 32 c6 d rfl HD.out (by omega) xe.out (by omega) hs6 ?_));intro A7 c7 w7 o7 k7;have H7:=ae (H6.out.OB (k7.xA zU.out.base hs6) hw4);have VZ:=ae o7;clear o7 k7 H6 zU xe;go_wp2_with fail;refine (U3 (64+32) c7 A7 (b5++d) w7 (by rw [bF,ZB.out,HD.out]) (by omega) (by omega) (aA.dR VZ.out)).mono ?_;rintro e w8 ⟨rfl,hb8⟩;obtain ⟨d2,hdd⟩:∃q,qN qx (b5++d)=q:=⟨_,rfl⟩;rw [hdd];have hd2:d2.length=32:=by rw [<-hdd];exact nM _ _
 have HDQ:=ae hdd;clear hdd;have H8:=ae (H7.out.grow hb8);have HD2:=ae hd2;clear H7 VZ hb8 hd2 ZB;go_wp2_with ((with_reducible refine dW 24 ?_);go_must (refine wpList_store_row rfl _ _ _ rfl (w.heap.size+1) (cD d2) rfl rfl 24 (cD d32) H8.out.r.var (dU.out _ HD2.out) (wF.out _ HD2.out) (uk _) ?_));refine bodyPost_ret (v:= .agg (cD d2)) (results_cell_row rfl _ _ (w.heap.size+1) _ (cD d2) (0,0) _ rfl (setRow_heap _ _ _ _ _ _ H8.out.r.var) Tryz.underlying24 rfl (dU.out _ HD2.out)) rfl ?_;have hq:d2=oh qx key bs:=by
  rw [<-HDQ.out,<-qU.out,<-RY.out,<-HB1.out,EM _ _ nX.out,EM _ _ nX.out];rfl
 exact ⟨by rw [hq],aB H8.out.lo (Nat.le_succ _) _⟩
end Go.Proofs.YtbaehbbonkljpaaGreatDoor
