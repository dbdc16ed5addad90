/- The texts Ln, in this order. -/
import Derived.Test.YtdibbemgpikgjaaGreatDoorV00
import Derived.Test.YtdibbemgpikgjaaGreatDoorVA0
import Derived.Test.YtdibbemgpikgjaaGreatDoorV41
namespace Go.Proofs.YtdibbemgpikgjaaGreatDoor
open Go Go.RowKit
theorem Dl (ys:List cZ) (h:ys.map (·.e)= [yO]):fV ys:=by
 intro k x hx
 have hl:ys.length=1:=by have:=congrArg List.length h;simpa using this
 have hk:k=0:=by have:=(List.getElem?_eq_some_iff.1 hx).1;omega
 subst hk
 have he:x.e=yO:=by
  have h2:(ys.map (·.e))[0]? =some x.e:=by rw [List.getElem?_map,hx];rfl
  rw [h] at h2
  injection h2 with h2
  exact h2.symm
 rw [he]
 exact ⟨(by decide+kernel:Op.bytesLess yO.name.toList (⟨#[]⟩:ByteArray).toList=false),(by decide+kernel:(yO.name.toList==(⟨#[]⟩:ByteArray).toList)=false)⟩
def sO:List UInt8:=([2,1,0]++List.replicate 32 0)++ [1,1,97,0,0,0,0,1,3,0,0,60,0,0,0]++List.replicate 9 0
theorem J9:dR (vt 1 0 true)=sO:=by decide+kernel
theorem vW:sO.length=59:=by decide+kernel
theorem Ko:oP (vt 1 0 true) yO=sO.take 58:=by decide+kernel
theorem LU {ys:List cZ} (h:ys.map (·.e)= [yO]):ys.length=1:=by have:=congrArg List.length h;simpa using this
theorem Xg {w:World} (cs:Array Value) (bs:List UInt8) (n:Nat) (hl:bs.length=n) (hn:n≤1000) (h:cs.toList=bs.map Extern.Stop.cell):uY w.heap.size (w.alloc (.cells cs 5)) (some ⟨w.heap.size,0,none⟩) n n bs:=by
 have hs:cs.size=n:=by rw [←Array.length_toList,h,List.length_map,hl]
 exact ⟨by rw [List.length_map,hl,Nat.mul_one], .inr ⟨w.heap.size,n,cs,rfl,Nat.le_refl _,heap_alloc_last w _,Nat.le_refl _,by unfold maxLen;omega,by rw [hs,Nat.mul_one],by rw [h,Nat.mul_one,List.take_of_length_le (by rw [List.length_map,hl];omega)]⟩⟩
theorem MS {w:World} (cs:Array Value) (bs:List UInt8) (t:TypeId) (h:cs.toList=bs.map Extern.Stop.cell):az (w.alloc (.cells cs t)) (w.alloc (.cells cs t)).heap.size (some ⟨w.heap.size,0,none⟩) (bs.map Extern.Stop.cell):=by
 refine .inr ⟨w.heap.size,0,rfl,by simp,fun j u hu=>?_⟩
 rw [Nat.zero_add,cell_of_row _ _ j _ _ _ (heap_alloc_last w _),←Array.getElem?_toList,h]
 exact hu
set_option maxRecDepth 10000 in
set_option maxHeartbeats 4000000 in
theorem JU (w:World):Calls Tryz.prog 6 #[] w (Gives (.bool true) w):=by
 obtain ⟨T,hT⟩:∃T,vt 1 0 true=T:=⟨_,rfl⟩
 have HT:=ae hT
 have Oo:Hid (jU T):=ae (by rw [←hT];exact Uz 1 0 true (by decide) (by decide) (by decide) (by decide))
 have HTZ:Hid (T.aS= [yO]):=ae (by rw [←hT];rfl)
 have HTM:Hid ({T with bG:=aY}=T):=ae (by rw [←hT];rfl)
 have OV:Hid (dR T=sO):=ae (by rw [←hT];exact J9)
 have FI:Hid (oP T yO=sO.take 58):=ae (by rw [←hT];exact Ko)
 have HVT:Hid (∀W,Calls Tryz.prog 19 #[I 1,I 0, .bool true] W fun e w'=>∃A c ys,e= .returned (.agg (ai T (.slice A 1 c)))∧fK W.heap.size w' (.slice A 1 c) ys∧ys.map (·.e)= [yO]∧ys.length=1∧Below W.heap.size W w'):=ae (fun W=>(Dy 1 0 W).mono (fun e w' ⟨A,c,ys,h1,h2,h3,h4⟩=>by
  have hl:=LU h3
  rw [hl,hT] at h1
  rw [hl] at h2
  exact ⟨A,c,ys,h1,h2,h3,hl,h4⟩))
 have eX:Hid (∀v,(Tryz.prog.info? 37).map (·.size)=some (ai T v).size):=ae fun v=>bV T v Oo.out.prev Oo.out.bG
 have CE:Hid (∀v,(ai bJ (.slice none 0 0)).size=(ai T v).size):=ae fun v=>(bn bJ _ rfl rfl).trans (bn T v Oo.out.prev Oo.out.bG).symm
 clear hT
 go_enter Tryz.func6,Tryz.ntmps6
 go_wp2_with fail
 refine (HVT.out w).mono ?_
 rintro e w1 ⟨A1,c1,Yi,rfl,hz1,he1,hl1,hb1⟩
 go_wp2_with fail
 refine (qP T A1 1 c1 w.heap.size Yi w1 Oo.out (by rw [HTZ.out,he1]) hl1 hz1 (Dl Yi he1)).mono ?_
 rintro e w2 ⟨⟨g2,cb,rfl,ho2⟩,hb2⟩
 rw [OV.out] at ho2 ⊢
 rw [vW] at ho2 ⊢
 have HB2:=ae (ah hb1 hb2)
 have HC2:=ae (az.dW ho2)
 clear hz1 he1 hl1 hb1 hb2 ho2
 have HW0:=ae (Xg (w:=w2) #[Value.int .u8 2,Value.int .u8 1,Value.int .u8 0] [2,1,0] 3 rfl (by omega) rfl)
 have HBv:=ae (ag w2 (.cells #[Value.int .u8 2,Value.int .u8 1,Value.int .u8 0] 5))
 go_wp2_with (at_builtin;go_must (refine qg rfl _ _ rfl w2.heap.size 3 3 32 _ [2,1,0] rfl rfl HW0.out (by omega) (by omega) (by omega) HBv.out.size ?_))
 intro A3 c3 w3 o3 k3
 have lV:Hid (Below w2.heap.size w2 w3):=ae (HBv.out.trans (k3.yC HW0.out.base HBv.out.size))
 have wL:=ae o3
 clear o3 k3 HW0 HBv
 have qX:=ae (MS (w:=w3) #[Value.int .u8 1,Value.int .u8 1,Value.int .u8 97,Value.int .u8 0,Value.int .u8 0,Value.int .u8 0,Value.int .u8 0,Value.int .u8 1,Value.int .u8 3,Value.int .u8 0,Value.int .u8 0,Value.int .u8 60,Value.int .u8 0,Value.int .u8 0,Value.int .u8 0] [1,1,97,0,0,0,0,1,3,0,0,60,0,0,0] 5 rfl)
 have Fb:=ae (wL.out.below (ag w3 (.cells #[Value.int .u8 1,Value.int .u8 1,Value.int .u8 97,Value.int .u8 0,Value.int .u8 0,Value.int .u8 0,Value.int .u8 0,Value.int .u8 1,Value.int .u8 3,Value.int .u8 0,Value.int .u8 0,Value.int .u8 60,Value.int .u8 0,Value.int .u8 0,Value.int .u8 0] 5)))
 have HB4:Hid (Below w2.heap.size w2 (w3.alloc (.cells #[Value.int .u8 1,Value.int .u8 1,Value.int .u8 97,Value.int .u8 0,Value.int .u8 0,Value.int .u8 0,Value.int .u8 0,Value.int .u8 1,Value.int .u8 3,Value.int .u8 0,Value.int .u8 0,Value.int .u8 60,Value.int .u8 0,Value.int .u8 0,Value.int .u8 0] 5))):=ae (ah lV.out (ag w3 _))
 clear wL
 go_wp2_with (at_builtin;go_must (refine pF rfl _ _ rfl w2.heap.size 35 c3 A3 ([2,1,0]++List.replicate 32 0) rfl Fb.out _ (some ⟨w3.heap.size,0,none⟩) 15 15 [1,1,97,0,0,0,0,1,3,0,0,60,0,0,0] rfl rfl (by omega) qX.out (by omega) HB4.out.size ?_))
 intro A5 c5 w5 o5 k5
 have wC:Hid (Below w2.heap.size w2 w5):=ae (HB4.out.trans (k5.yC Fb.out.base HB4.out.size))
 have kT:=ae o5
 clear o5 k5 Fb HB4 qX lV
 go_wp2_with (at_builtin;go_must (refine qg rfl _ _ rfl w2.heap.size 50 c5 9 A5 _ rfl rfl kT.out (by omega) (by omega) (by omega) wC.out.size ?_))
 intro A6 c6 w6 o6 k6
 have VZ:Hid (Below w2.heap.size w2 w6):=ae (wC.out.trans (k6.yC kT.out.base wC.out.size))
 have ho6:uY w2.heap.size w6 A6 59 c6 sO:=o6
 clear o6 k6 kT wC
 obtain ⟨g,cur,rfl,hg,hnc,hcm,hav,hcur⟩:=Nu ho6 (by omega)
 have OA:=ae hav
 have HCU:=ae hcur
 have hcm2:c6≤9223372036854775807:=by unfold maxLen at hcm;omega
 have Fp:Hid (az w6 w6.heap.size (some ⟨g,0,none⟩) (sO.map Extern.Stop.cell)):=ae (az.dW ho6)
 have Zi:=ae (HC2.out.grow VZ.out)
 have Ii:=ae (HB2.out.trans (VZ.out.mono HB2.out.size))
 clear ho6 hav hcur hcm HC2 HB2 VZ
 have BC:Hid (∀j,j<59→w6.cell? ⟨g,0+j,none⟩=some (Extern.Stop.cell (sO[j]?.getD 0))):=ae (fun j hj=>by rw [Nat.zero_add];exact (OA.out.cell j).trans (HCU.out j hj))
 have hgl:g<w6.heap.size:=OA.out.lt
 go_wp2_with fail
 refine (Aw w6 T 1 59 g 0 c6 Oo.out (by rw [HTZ.out];rfl) (by rw [OV.out,vW]) (fun ys h=>Dl ys (by rw [h,HTZ.out])) hgl hnc hcm2 (by rw [OV.out];exact BC.out)).mono ?_
 rintro e w7 ⟨A7,c7,ys7,rfl,hz7,he7,hb7⟩
 rw [HTM.out]
 rw [HTZ.out] at he7
 have Bj:=ae (EP (n:=1) (wd:=0) (b:=true) (c:=c7) (by rw [LU he7];exact hz7) he7).aS
 have HE7:=ae he7
 have Oh:=ae (AV.new w7 (ai bJ (.slice none 0 0)) 37)
 have hl7:w6.heap.size≤w7.heap.size:=hb7.size
 have VK:Hid (Below w7.heap.size w7 ((w7.alloc (.cells (ai bJ (.slice none 0 0)) 37)).setRow w7.heap.size (ai T (.slice A7 1 c7)))):=ae (aF (ag w7 _) (Nat.le_refl _) _)
 have UW:=ae hb7
 clear hz7 he7 hb7
 go_upto_region 7 with (first
  |((with_reducible refine bP 37 ?_);go_must (refine aJ rfl _ rfl (ai bJ (.slice none 0 0)) fC ?_))
  |((with_reducible refine gV 37 ?_);go_must (refine wpList_store_row rfl _ _ _ rfl w7.heap.size (ai T (.slice A7 1 c7)) rfl rfl 37 (ai bJ (.slice none 0 0)) Oh.out.var (eX.out _) (CE.out _) (bf _ _ _ _) ?_)))
 have HV8:=ae (Oh.out.qE (ai T (.slice A7 1 c7)))
 generalize (w7.alloc (.cells (ai bJ (.slice none 0 0)) 37)).setRow w7.heap.size (ai T (.slice A7 1 c7))=W8 at VK HV8 ⊢
 refine ax ?_
 have U3:Hid (Below w6.heap.size w6 W8):=ae (ah UW.out VK.out)
 have wG:=ae (Bj.out.grow VK.out)
 obtain ⟨bb,hbb⟩:∃b,w7.heap.size=b:=⟨_,rfl⟩
 rw [hbb] at HV8 ⊢
 clear hbb Oh UW VK Bj hl7
 have n58:(58:Int)≤(c6:Int):=by omega
 go_wp2_with fail
 refine (EH W8 T yO 58 g 0 c6 Oo.out ⟨L6,by decide⟩ (by rw [FI.out,List.length_take,vW];rfl) (Nat.lt_of_lt_of_le hgl U3.out.size) (by omega) hcm2 (fun j hj=>by rw [FI.out,List.getElem?_take_of_lt hj];exact (U3.out.cell (p:=⟨g,0+j,none⟩) hgl).trans (BC.out j (by omega)))).mono ?_
 rintro e w9 ⟨rfl,Gv⟩
 have HK9:Hid (Below w6.heap.size w6 w9):=ae (ah U3.out Gv)
 have HV9:=ae (HV8.out.below Gv)
 have HZ9:=ae (wG.out.grow Gv)
 clear Gv U3 HV8 wG
 have Ol:=ae (AV.new w9 (ai bJ (.slice none 0 0)) 37)
 have DI:Hid (Below w9.heap.size w9 ((w9.alloc (.cells (ai bJ (.slice none 0 0)) 37)).setRow w9.heap.size (ai bJ (.slice none 0 0)))):=ae (aF (ag w9 _) (Nat.le_refl _) _)
 go_upto_region 8 with (first
  |((with_reducible refine bP 37 ?_);go_must (refine aJ rfl _ rfl (ai bJ (.slice none 0 0)) fC ?_))
  |((with_reducible refine gV 37 ?_);go_must (refine wpList_store_row rfl _ _ _ rfl w9.heap.size (ai bJ (.slice none 0 0)) rfl rfl 37 (ai bJ (.slice none 0 0)) Ol.out.var (bV bJ _ rfl rfl) rfl (bf _ _ _ _) ?_)))
 generalize (w9.alloc (.cells (ai bJ (.slice none 0 0)) 37)).setRow w9.heap.size (ai bJ (.slice none 0 0))=FU at DI ⊢
 refine ax ?_
 have RX:Hid (Below w6.heap.size w6 FU):=ae (ah HK9.out DI.out)
 have HV10:=ae (HV9.out.below DI.out)
 have O0:=ae (HZ9.out.grow DI.out)
 have Zg:=ae (Fp.out.grow RX.out)
 have Zh:=ae (Zi.out.grow RX.out)
 clear HK9 HV9 HZ9 Ol DI Fp Zi BC OA HCU
 have HKD:Hid (Below w6.heap.size w6 FU.drew):=ae RX.out.drew
 have HVD:Hid (AV bb 37 (ai T (.slice A7 1 c7)) FU.drew):=ae HV10.out.drew
 have HZD:Hid (kU FU.drew FU.drew.heap.size A7 ys7):=ae (O0.out.grow ((Below.refl _ FU).drew))
 have HCD:Hid (az FU.drew FU.drew.heap.size (some ⟨g,0,none⟩) (sO.map Extern.Stop.cell)):=ae Zg.out
 have HCE:Hid (az FU.drew FU.drew.heap.size (some ⟨g2,0,none⟩) (sO.map Extern.Stop.cell)):=ae Zh.out
 have hS0:fA FU.drew bb (ai T (.slice A7 1 c7)):=HVD.out.jB
 refine wp_region_held_drew (S:=fun W=>fA W bb (ai T (.slice A7 1 c7))) (by kernel_rfl) hS0 (fun _=>?_)
 generalize FU.drew=V at HKD HVD HZD HCD HCE hS0 ⊢
 clear RX HV10 O0 Zg Zh
 refine aC 0 (I 0) 45 hS0 (fun w' hSw=>?_) ?_
 ·clear hSw
  first|(go_simp;done)|(go_simp;with_reducible rfl)
 refine ax ?_
 refine aC 1 (.bool false) 46 hS0 (fun w' hSw=>?_) ?_
 ·clear hSw
  first|(go_simp;done)|(go_simp;with_reducible rfl)
 refine ax ?_
 refine aC 2 (.bool false) 47 hS0 (fun w' hSw=>?_) ?_
 ·clear hSw
  first|(go_simp;done)|(go_simp;with_reducible rfl)
 refine ax ?_
 refine aC 3 (I 0) 48 hS0 (fun w' hSw=>?_) ?_
 ·clear hSw
  first|(go_simp;done)|(go_simp;with_reducible rfl)
 refine ax ?_
 refine aC 4 (.bool false) 49 hS0 (fun w' hSw=>?_) ?_
 ·clear hSw
  first|(go_simp;done)|(go_simp;with_reducible rfl)
 refine ax ?_
 refine aC 5 (.bool false) 50 hS0 (fun w' hSw=>?_) ?_
 ·clear hSw
  first|(go_simp;done)|(go_simp;with_reducible rfl)
 refine ax ?_
 refine aC 6 (.bool false) 51 hS0 (fun w' hSw=>?_) ?_
 ·clear hSw
  first|(go_simp;done)|(go_simp;with_reducible rfl)
 refine ax ?_
 refine aC 7 (I 3) 52 hS0 (fun w' hSw=>?_) ?_
 ·clear hSw
  first|(go_simp;done)|(go_simp;with_reducible rfl)
 refine ax ?_
 refine aC 8 (.bool false) 53 hS0 (fun w' hSw=>?_) ?_
 ·clear hSw
  first|(go_simp;done)|(go_simp;with_reducible rfl)
 refine ax ?_
 refine aC 9 (.bool false) 54 hS0 (fun w' hSw=>?_) ?_
 ·clear hSw
  first|(go_simp;done)|(go_simp;with_reducible rfl)
 refine ax ?_
 refine aC 10 (.bool false) 55 hS0 (fun w' hSw=>?_) ?_
 ·clear hSw
  first|(go_simp;done)|(go_simp;with_reducible rfl)
 refine ax ?_
 refine aC 11 (.slice (some ⟨g,0,none⟩) 59 c6) 56 hS0 (fun w' hSw=>?_) ?_
 ·clear hSw
  first|(go_simp;done)|(go_simp;with_reducible rfl)
 refine ax ?_
 refine aC 12 (.int .i64 59) 57 hS0 (fun w' hSw=>?_) ?_
 ·clear hSw
  first|(go_simp;done)|(go_simp;with_reducible rfl)
 refine ax ?_
 refine aC 13 (.bool false) 58 hS0 (fun w' hSw=>?_) ?_
 ·clear hSw
  first|(go_simp;done)|(go_simp;with_reducible rfl)
 refine ax ?_
 refine aC 14 (.bool false) 59 hS0 (fun w' hSw=>?_) ?_
 ·clear hSw
  first|(go_simp;done)|(go_simp;with_reducible rfl)
 refine ax ?_
 refine aC 15 (.bool false) 60 hS0 (fun w' hSw=>?_) ?_
 ·clear hSw
  first|(go_simp;done)|(go_simp;with_reducible rfl)
 refine ax ?_
 refine aC 16 (.slice (some ⟨g2,0,none⟩) 59 cb) 61 hS0 (fun w' hSw=>?_) ?_
 ·clear hSw
  first|(go_simp;done)|(go_simp;with_reducible rfl)
 refine ax ?_
 refine aC 17 (.slice (some ⟨g,0,none⟩) 59 c6) 62 hS0 (fun w' hSw=>?_) ?_
 ·clear hSw
  first|(go_simp;done)|(go_simp;with_reducible rfl)
 refine ax ?_
 refine aV 18 (fun K hK=>?_)
 go_simp
 refine (BR (some ⟨g2,0,none⟩) (some ⟨g,0,none⟩) 59 cb c6 sO V vW (by omega) HCE.out HCD.out).mono ?_
 rintro e w11 ⟨rfl,TF⟩
 have ZE:Hid (Below w6.heap.size w6 w11):=ae (ah HKD.out TF)
 have WB:=ae (HVD.out.below TF)
 have HZ11:=ae (HZD.out.grow TF)
 have hS1:fA w11 bb (ai T (.slice A7 1 c7)):=WB.out.jB
 clear TF
 refine hK.out _ _ hS1 (fun _=>?_)
 clear hK K HKD HVD HZD HCD HCE
 refine ax ?_
 refine aC 19 (.bool false) 64 hS1 (fun w' hSw=>?_) ?_
 ·clear hSw
  first|(go_simp;done)|(go_simp;with_reducible rfl)
 refine ax ?_
 refine aC 20 (.bool false) 65 hS1 (fun w' hSw=>?_) ?_
 ·clear hSw
  first|(go_simp;done)|(go_simp;with_reducible rfl)
 refine ax ?_
 refine aC 21 (.bool false) 66 hS1 (fun w' hSw=>?_) ?_
 ·clear hSw
  first|(go_simp;done)|(go_simp;with_reducible rfl)
 refine ax ?_
 refine aag 22 ( .agg (ai T (.slice A7 1 c7))) 67 rfl rfl hS1 (yieldsIf_load_mid (by rfl) 37 _ rfl bb 0 rfl (ai T (.slice A7 1 c7)).toList _ (fun W hW j v hv=>by rw [Nat.zero_add,hW.2 j];simpa using hv) Tryz.underlying37 rfl (by rw [eX.out,Array.length_toList])) ?_
 refine ax ?_
 refine aV 23 (fun K hK=>?_)
 go_simp
 refine (HVT.out w11).mono ?_
 rintro e w12 ⟨A12,c12,ys12,rfl,hz12,XG,hl12,Nb⟩
 have ZF:Hid (Below w6.heap.size w6 w12):=ae (ah ZE.out Nb)
 have WC:=ae (WB.out.below Nb)
 have HZ12:=ae (HZ11.out.grow Nb)
 have HY12:=ae (EP (n:=1) (wd:=0) (b:=true) (c:=c12) (by rw [hl12];exact hz12) XG).aS
 have Zv:=ae XG
 have hS2:fA w12 bb (ai T (.slice A7 1 c7)):=WC.out.jB
 clear Nb hz12 XG hl12
 refine hK.out _ _ hS2 (fun _=>?_)
 clear hK K ZE WB HZ11 hS1
 refine ax ?_
 refine aV 24 (fun K hK=>?_)
 go_simp
 refine (QE T A7 A12 c7 c12 1 ys7 ys12 [yO] w12 Oo.out.prev Oo.out.bG HE7.out Zv.out rfl (by omega) (fun e he=>by rw [List.mem_singleton.1 he];exact Q7) HZ12.out HY12.out).mono ?_
 rintro e w13 ⟨rfl,Xy⟩
 have rC:Hid (Below w.heap.size w w13):=ae (Ii.out.trans ((ah ZF.out Xy).mono Ii.out.size))
 have hS3:fA w13 bb (ai T (.slice A7 1 c7)):=(WC.out.below Xy).jB
 clear Xy
 refine hK.out _ _ hS3 (fun _=>?_)
 clear hK K ZF WC HZ12 HY12 Zv hS2
 refine ax ?_
 refine aC 25 (.bool false) 70 hS3 (fun w' hSw=>?_) ?_
 ·clear hSw
  first|(go_simp;done)|(go_simp;with_reducible rfl)
 refine ax ?_
 refine aC 26 (.bool false) 71 hS3 (fun w' hSw=>?_) ?_
 ·clear hSw
  first|(go_simp;done)|(go_simp;with_reducible rfl)
 refine ax ?_
 refine wpAnyH_done (by kernel_rfl) ?_ _
 clear hS3 HE7 Ii Oo HTZ HTM OV FI eX CE HVT HT
 go_wp2_with fail
 refine (N7 1 0 w13).mono ?_
 rintro e u1 ⟨a1,k1,s1,rfl,t1,b1⟩
 have HT1:=ae t1
 have Y4:Hid (Below w.heap.size w u1):=ae (ah rC.out b1)
 clear rC t1 b1
 go_wp2_with fail
 refine (N7 2 0 u1).mono ?_
 rintro e u2 ⟨a2,k2,s2,rfl,t2,b2⟩
 have HT2:=ae t2
 have Y5:Hid (Below w.heap.size w u2):=ae (ah Y4.out b2)
 replace HT1:=ae (HT1.out.grow b2)
 clear Y4 t2 b2
 go_wp2_with fail
 refine (QZ 3 2 u2).mono ?_
 rintro e u3 ⟨a3,k3,rfl,t3,b3⟩
 have HT3:=ae t3
 have Y6:Hid (Below w.heap.size w u3):=ae (ah Y5.out b3)
 replace HT1:=ae (HT1.out.grow b3)
 replace HT2:=ae (HT2.out.grow b3)
 clear Y5 t3 b3
 go_wp2_with fail
 refine (QZ 4 3 u3).mono ?_
 rintro e u4 ⟨a4,k4,rfl,t4,b4⟩
 have HT4:=ae t4
 have Y7:Hid (Below w.heap.size w u4):=ae (ah Y6.out b4)
 replace HT1:=ae (HT1.out.grow b4)
 replace HT2:=ae (HT2.out.grow b4)
 replace HT3:=ae (HT3.out.grow b4)
 clear Y6 t4 b4
 go_wp2_with ((with_reducible refine uK 28 ?_);go_must (refine vZ rfl _ _ _ _ rfl (yT 1 0 a1 k1 s1) (yT 2 0 a2 k2 s2) (fF 3 2 a3 k3) (fF 4 3 a4 k4) rfl rfl rfl rfl rfl rfl rfl rfl ?_))
 have jE:Hid (gW (u4.alloc (.cells (kJ [(yT 1 0 a1 k1 s1),(yT 2 0 a2 k2 s2),(fF 3 2 a3 k3),(fF 4 3 a4 k4)]) 37)) (u4.alloc (.cells (kJ [(yT 1 0 a1 k1 s1),(yT 2 0 a2 k2 s2),(fF 3 2 a3 k3),(fF 4 3 a4 k4)]) 37)).heap.size (some ⟨u4.heap.size,0,none⟩) [(yT 1 0 a1 k1 s1),(yT 2 0 a2 k2 s2),(fF 3 2 a3 k3),(fF 4 3 a4 k4)]):=ae (wQ _ u4 (fun y hy=>by simp only [List.mem_cons,List.not_mem_nil,or_false] at hy;rcases hy with rfl|rfl|rfl|rfl<;>first|exact HT1.out|exact HT2.out|exact HT3.out|exact HT4.out))
 have HXL:Hid (Below w.heap.size w (u4.alloc (.cells (kJ [(yT 1 0 a1 k1 s1),(yT 2 0 a2 k2 s2),(fF 3 2 a3 k3),(fF 4 3 a4 k4)]) 37))):=ae (ah Y7.out (ag u4 _))
 generalize (u4.alloc (.cells (kJ [(yT 1 0 a1 k1 s1),(yT 2 0 a2 k2 s2),(fF 3 2 a3 k3),(fF 4 3 a4 k4)]) 37))=WL at jE HXL ⊢
 obtain ⟨bL,hbL⟩:∃b,u4.heap.size=b:=⟨_,rfl⟩
 rw [hbL] at jE ⊢
 clear hbL Y7 HT1 HT2 HT3 HT4
 refine (N7 1 0 WL).mono ?_
 rintro e u5 ⟨a5,k5,s5,rfl,t5,b5⟩
 have Om:=ae t5
 have Y8:Hid (Below w.heap.size w u5):=ae (ah HXL.out b5)
 replace jE:=ae (jE.out.grow b5)
 clear HXL t5 b5
 go_wp2_with fail
 refine (N7 2 0 u5).mono ?_
 rintro e u6 ⟨a6,k6,s6,rfl,t6,b6⟩
 have Yz:=ae t6
 have Y9:Hid (Below w.heap.size w u6):=ae (ah Y8.out b6)
 replace Om:=ae (Om.out.grow b6)
 replace jE:=ae (jE.out.grow b6)
 clear Y8 t6 b6
 go_wp2_with fail
 refine (QZ 3 2 u6).mono ?_
 rintro e u7 ⟨a7,k7,rfl,t7,b7⟩
 have HT7:=ae t7
 have Za:Hid (Below w.heap.size w u7):=ae (ah Y9.out b7)
 replace Om:=ae (Om.out.grow b7)
 replace Yz:=ae (Yz.out.grow b7)
 replace jE:=ae (jE.out.grow b7)
 clear Y9 t7 b7
 go_wp2_with fail
 refine (N7 4 0 u7).mono ?_
 rintro e u8 ⟨a8,k8,s8,rfl,t8,b8⟩
 have HT8:=ae t8
 have Zb:Hid (Below w.heap.size w u8):=ae (ah Za.out b8)
 replace Om:=ae (Om.out.grow b8)
 replace Yz:=ae (Yz.out.grow b8)
 replace HT7:=ae (HT7.out.grow b8)
 replace jE:=ae (jE.out.grow b8)
 clear Za t8 b8
 go_wp2_with ((with_reducible refine uK 28 ?_);go_must (refine vZ rfl _ _ _ _ rfl (yT 1 0 a5 k5 s5) (yT 2 0 a6 k6 s6) (fF 3 2 a7 k7) (yT 4 0 a8 k8 s8) rfl rfl rfl rfl rfl rfl rfl rfl ?_))
 have HCM:Hid (gW (u8.alloc (.cells (kJ [(yT 1 0 a5 k5 s5),(yT 2 0 a6 k6 s6),(fF 3 2 a7 k7),(yT 4 0 a8 k8 s8)]) 37)) (u8.alloc (.cells (kJ [(yT 1 0 a5 k5 s5),(yT 2 0 a6 k6 s6),(fF 3 2 a7 k7),(yT 4 0 a8 k8 s8)]) 37)).heap.size (some ⟨u8.heap.size,0,none⟩) [(yT 1 0 a5 k5 s5),(yT 2 0 a6 k6 s6),(fF 3 2 a7 k7),(yT 4 0 a8 k8 s8)]):=ae (wQ _ u8 (fun y hy=>by simp only [List.mem_cons,List.not_mem_nil,or_false] at hy;rcases hy with rfl|rfl|rfl|rfl<;>first|exact Om.out|exact Yz.out|exact HT7.out|exact HT8.out))
 replace jE:=ae (jE.out.grow (ag u8 (.cells (kJ [(yT 1 0 a5 k5 s5),(yT 2 0 a6 k6 s6),(fF 3 2 a7 k7),(yT 4 0 a8 k8 s8)]) 37)))
 have HXM:Hid (Below w.heap.size w (u8.alloc (.cells (kJ [(yT 1 0 a5 k5 s5),(yT 2 0 a6 k6 s6),(fF 3 2 a7 k7),(yT 4 0 a8 k8 s8)]) 37))):=ae (ah Zb.out (ag u8 _))
 generalize (u8.alloc (.cells (kJ [(yT 1 0 a5 k5 s5),(yT 2 0 a6 k6 s6),(fF 3 2 a7 k7),(yT 4 0 a8 k8 s8)]) 37))=WM at jE HCM HXM ⊢
 obtain ⟨bM,YH⟩:∃b,u8.heap.size=b:=⟨_,rfl⟩
 rw [YH] at HCM ⊢
 clear YH Zb Om Yz HT7 HT8
 refine (QZ 1 0 WM).mono ?_
 rintro e u9 ⟨a9,k9,rfl,t9,b9⟩
 have Ru:=ae t9
 have Zc:Hid (Below w.heap.size w u9):=ae (ah HXM.out b9)
 replace jE:=ae (jE.out.grow b9)
 replace HCM:=ae (HCM.out.grow b9)
 clear HXM t9 b9
 go_wp2_with fail
 refine (QZ 2 1 u9).mono ?_
 rintro e u10 ⟨a10,k10,rfl,t10,b10⟩
 have aad:=ae t10
 have UX:Hid (Below w.heap.size w u10):=ae (ah Zc.out b10)
 replace Ru:=ae (Ru.out.grow b10)
 replace jE:=ae (jE.out.grow b10)
 replace HCM:=ae (HCM.out.grow b10)
 clear Zc t10 b10
 go_upto_region 13 with ((with_reducible refine uK 28 ?_);go_must (refine EY rfl _ _ rfl (fF 1 0 a9 k9) (fF 2 1 a10 k10) rfl rfl rfl rfl ?_))
 refine ax ?_
 have Ce:Hid (gW (u10.alloc (.cells (kJ [(fF 1 0 a9 k9),(fF 2 1 a10 k10)]) 37)) (u10.alloc (.cells (kJ [(fF 1 0 a9 k9),(fF 2 1 a10 k10)]) 37)).heap.size (some ⟨u10.heap.size,0,none⟩) [(fF 1 0 a9 k9),(fF 2 1 a10 k10)]):=ae (wQ _ u10 (fun y hy=>by simp only [List.mem_cons,List.not_mem_nil,or_false] at hy;rcases hy with rfl|rfl<;>first|exact Ru.out|exact aad.out))
 replace jE:=ae (jE.out.grow (ag u10 (.cells (kJ [(fF 1 0 a9 k9),(fF 2 1 a10 k10)]) 37)))
 replace HCM:=ae (HCM.out.grow (ag u10 (.cells (kJ [(fF 1 0 a9 k9),(fF 2 1 a10 k10)]) 37)))
 have HXN:Hid (Below w.heap.size w (u10.alloc (.cells (kJ [(fF 1 0 a9 k9),(fF 2 1 a10 k10)]) 37))):=ae (ah UX.out (ag u10 _))
 generalize (u10.alloc (.cells (kJ [(fF 1 0 a9 k9),(fF 2 1 a10 k10)]) 37))=WN at jE HCM Ce HXN ⊢
 obtain ⟨bN,hbN⟩:∃b,u10.heap.size=b:=⟨_,rfl⟩
 rw [hbN] at Ce ⊢
 clear hbN UX Ru aad
 have ZK:Hid (xx [(yT 1 0 a1 k1 s1),(yT 2 0 a2 k2 s2),(fF 3 2 a3 k3),(fF 4 3 a4 k4)]):=ae (fun x hx=>by simp only [List.mem_cons,List.not_mem_nil,or_false] at hx;rcases hx with rfl|rfl|rfl|rfl<;>first|exact xu _ _ _ _ _|exact A8 _ _ _ _)
 have ZX:Hid (∀x∈ [(yT 1 0 a1 k1 s1),(yT 2 0 a2 k2 s2),(fF 3 2 a3 k3),(fF 4 3 a4 k4)],x.t.prev.length=32∧x.t.bG.length=32):=ae (fun x hx=>by simp only [List.mem_cons,List.not_mem_nil,or_false] at hx;rcases hx with rfl|rfl|rfl|rfl<;>exact ⟨rfl,rfl⟩)
 have ZL:Hid (xx [(yT 1 0 a1 k1 s1),(yT 2 0 a2 k2 s2),(fF 3 2 a3 k3)]):=ae (fun x hx=>by simp only [List.mem_cons,List.not_mem_nil,or_false] at hx;rcases hx with rfl|rfl|rfl<;>first|exact xu _ _ _ _ _|exact A8 _ _ _ _)
 have ZY:Hid (∀x∈ [(yT 1 0 a1 k1 s1),(yT 2 0 a2 k2 s2),(fF 3 2 a3 k3)],x.t.prev.length=32∧x.t.bG.length=32):=ae (fun x hx=>by simp only [List.mem_cons,List.not_mem_nil,or_false] at hx;rcases hx with rfl|rfl|rfl<;>exact ⟨rfl,rfl⟩)
 have ZM:Hid (xx [(yT 2 0 a2 k2 s2),(fF 3 2 a3 k3),(fF 4 3 a4 k4)]):=ae (fun x hx=>by simp only [List.mem_cons,List.not_mem_nil,or_false] at hx;rcases hx with rfl|rfl|rfl<;>first|exact xu _ _ _ _ _|exact A8 _ _ _ _)
 have ZZ:Hid (∀x∈ [(yT 2 0 a2 k2 s2),(fF 3 2 a3 k3),(fF 4 3 a4 k4)],x.t.prev.length=32∧x.t.bG.length=32):=ae (fun x hx=>by simp only [List.mem_cons,List.not_mem_nil,or_false] at hx;rcases hx with rfl|rfl|rfl<;>exact ⟨rfl,rfl⟩)
 have ZN:Hid (xx [(yT 1 0 a5 k5 s5),(yT 2 0 a6 k6 s6),(fF 3 2 a7 k7),(yT 4 0 a8 k8 s8)]):=ae (fun x hx=>by simp only [List.mem_cons,List.not_mem_nil,or_false] at hx;rcases hx with rfl|rfl|rfl|rfl<;>first|exact xu _ _ _ _ _|exact A8 _ _ _ _)
 have Z4:Hid (∀x∈ [(yT 1 0 a5 k5 s5),(yT 2 0 a6 k6 s6),(fF 3 2 a7 k7),(yT 4 0 a8 k8 s8)],x.t.prev.length=32∧x.t.bG.length=32):=ae (fun x hx=>by simp only [List.mem_cons,List.not_mem_nil,or_false] at hx;rcases hx with rfl|rfl|rfl|rfl<;>exact ⟨rfl,rfl⟩)
 have ZP:Hid (xx [(fF 1 0 a9 k9),(fF 2 1 a10 k10)]):=ae (fun x hx=>by simp only [List.mem_cons,List.not_mem_nil,or_false] at hx;rcases hx with rfl|rfl<;>first|exact xu _ _ _ _ _|exact A8 _ _ _ _)
 have Z5:Hid (∀x∈ [(fF 1 0 a9 k9),(fF 2 1 a10 k10)],x.t.prev.length=32∧x.t.bG.length=32):=ae (fun x hx=>by simp only [List.mem_cons,List.not_mem_nil,or_false] at hx;rcases hx with rfl|rfl<;>exact ⟨rfl,rfl⟩)
 go_wp2_with fail
 refine (sZ (some ⟨bL,0,none⟩) 4 3 [(yT 1 0 a1 k1 s1),(yT 2 0 a2 k2 s2),(fF 3 2 a3 k3)] WN rfl (by omega) ZL.out (jE.out.takeL 3) ZY.out).mono ?_
 rintro e v1 ⟨rfl,b1⟩
 rw [PM]
 have qj:Hid (Below w.heap.size w v1):=ae (ah HXN.out b1)
 replace jE:=ae (jE.out.grow b1)
 replace HCM:=ae (HCM.out.grow b1)
 replace Ce:=ae (Ce.out.grow b1)
 clear b1 HXN
 go_wp2_with fail
 refine (sZ (some ⟨bL,0,none⟩) 4 4 [(yT 1 0 a1 k1 s1),(yT 2 0 a2 k2 s2),(fF 3 2 a3 k3),(fF 4 3 a4 k4)] v1 rfl (by omega) ZK.out jE.out ZX.out).mono ?_
 rintro e v2 ⟨rfl,b2⟩
 rw [PN]
 have nK:Hid (Below w.heap.size w v2):=ae (ah qj.out b2)
 replace jE:=ae (jE.out.grow b2)
 replace HCM:=ae (HCM.out.grow b2)
 replace Ce:=ae (Ce.out.grow b2)
 clear b2 qj
 go_wp2_with fail
 refine (sZ (some ⟨bM,0,none⟩) 4 4 [(yT 1 0 a5 k5 s5),(yT 2 0 a6 k6 s6),(fF 3 2 a7 k7),(yT 4 0 a8 k8 s8)] v2 rfl (by omega) ZN.out HCM.out Z4.out).mono ?_
 rintro e v3 ⟨rfl,b3⟩
 rw [PO]
 have uZ:Hid (Below w.heap.size w v3):=ae (ah nK.out b3)
 replace jE:=ae (jE.out.grow b3)
 replace HCM:=ae (HCM.out.grow b3)
 replace Ce:=ae (Ce.out.grow b3)
 clear b3 nK
 go_wp2_with fail
 refine (sZ (some ⟨bN,0,none⟩) 2 2 [(fF 1 0 a9 k9),(fF 2 1 a10 k10)] v3 rfl (by omega) ZP.out Ce.out Z5.out).mono ?_
 rintro e v4 ⟨rfl,b4⟩
 rw [PQ]
 have SC:Hid (Below w.heap.size w v4):=ae (ah uZ.out b4)
 replace jE:=ae (jE.out.grow b4)
 replace HCM:=ae (HCM.out.grow b4)
 replace Ce:=ae (Ce.out.grow b4)
 clear b4 uZ
 go_wp2_with fail
 refine (sZ (some ⟨bL,68,none⟩) 3 3 [(yT 2 0 a2 k2 s2),(fF 3 2 a3 k3),(fF 4 3 a4 k4)] v4 rfl (by omega) ZM.out (jE.out.tail rfl) ZZ.out).mono ?_
 rintro e v5 ⟨rfl,b5⟩
 rw [PR]
 have HV5:Hid (Below w.heap.size w v5):=ae (ah SC.out b5)
 replace jE:=ae (jE.out.grow b5)
 replace HCM:=ae (HCM.out.grow b5)
 replace Ce:=ae (Ce.out.grow b5)
 clear b5 SC
 go_wp2_with fail
 refine (sZ none 0 0 [] v5 rfl (by omega) (fun _ h=>nomatch h) gW.nil (fun _ h=>nomatch h)).mono ?_
 rintro e v6 ⟨rfl,b6⟩
 rw [Tq]
 have Rw:Hid (Below w.heap.size w v6):=ae (ah HV5.out b6)
 replace jE:=ae (jE.out.grow b6)
 replace Ce:=ae (Ce.out.grow b6)
 clear b6 HV5 HCM ZL ZM ZN ZX ZY ZZ Z4 Z5
 have HVN:Hid (v6.heap.size≤v6.heap.size):=ae (Nat.le_refl _)
 have oJ:=ae (PE v6 [(⟨some ⟨bL,0,none⟩,4,[(yT 1 0 a1 k1 s1),(yT 2 0 a2 k2 s2),(fF 3 2 a3 k3),(fF 4 3 a4 k4)]⟩:zk),⟨some ⟨bN,0,none⟩,2,[(fF 1 0 a9 k9),(fF 2 1 a10 k10)]⟩] #[.slice (some ⟨bL,0,none⟩) 4 4, .slice (some ⟨bN,0,none⟩) 2 2] 28 rfl (fun x hx=>by simp only [List.mem_cons,List.not_mem_nil,or_false] at hx;rcases hx with rfl|rfl<;>first|exact jE.out|exact Ce.out))
 have HB1:=ae (ah Rw.out (ag v6 (.cells #[.slice (some ⟨bL,0,none⟩) 4 4, .slice (some ⟨bN,0,none⟩) 2 2] 28)))
 have Zl:=ae (jE.out.grow (ag v6 (.cells #[.slice (some ⟨bL,0,none⟩) 4 4, .slice (some ⟨bN,0,none⟩) 2 2] 28)))
 have Zp:=ae (Ce.out.grow (ag v6 (.cells #[.slice (some ⟨bL,0,none⟩) 4 4, .slice (some ⟨bN,0,none⟩) 2 2] 28)))
 have HI1:=ae (GG (v6.alloc (.cells #[.slice (some ⟨bL,0,none⟩) 4 4, .slice (some ⟨bN,0,none⟩) 2 2] 28)) [1,0] #[I 1,I 0] 3 rfl)
 clear Rw jE Ce HVN
 have lH:=ae (oJ.out.grow (ag (v6.alloc (.cells #[.slice (some ⟨bL,0,none⟩) 4 4, .slice (some ⟨bN,0,none⟩) 2 2] 28)) (.cells #[I 1,I 0] 3)))
 have HB2:=ae (ah HB1.out (ag _ (.cells #[I 1,I 0] 3)))
 have VM:=ae (Zl.out.grow (ag _ (.cells #[I 1,I 0] 3)))
 have VR:=ae (Zp.out.grow (ag _ (.cells #[I 1,I 0] 3)))
 have VO:Hid (UN [(⟨some ⟨bL,0,none⟩,4,[(yT 1 0 a1 k1 s1),(yT 2 0 a2 k2 s2),(fF 3 2 a3 k3),(fF 4 3 a4 k4)]⟩:zk),⟨some ⟨bN,0,none⟩,2,[(fF 1 0 a9 k9),(fF 2 1 a10 k10)]⟩]):=ae (fun x hx=>by simp only [List.mem_cons,List.not_mem_nil,or_false] at hx;rcases hx with rfl|rfl<;>first|exact ⟨Nat.le_of_ble_eq_true rfl,ZK.out⟩|exact ⟨Nat.le_of_ble_eq_true rfl,ZP.out⟩)
 clear oJ HB1 Zl Zp
 rw [rX v6] at HI1
 go_wp2_with fail
 generalize (v6.alloc (.cells #[.slice (some ⟨bL,0,none⟩) 4 4, .slice (some ⟨bN,0,none⟩) 2 2] 28)).alloc (.cells #[I 1,I 0] 3)=WP at lH HI1 HB2 VM VR ⊢
 obtain ⟨vb,hvb⟩:∃b,v6.heap.size=b:=⟨_,rfl⟩
 rw [hvb] at lH HI1
 (try simp only [rX])
 (try rw [hvb])
 clear hvb
 refine (Am (some ⟨vb,0,none⟩) (some ⟨vb+1,0,none⟩) 2 2 2 2 [(⟨some ⟨bL,0,none⟩,4,[(yT 1 0 a1 k1 s1),(yT 2 0 a2 k2 s2),(fF 3 2 a3 k3),(fF 4 3 a4 k4)]⟩:zk),⟨some ⟨bN,0,none⟩,2,[(fF 1 0 a9 k9),(fF 2 1 a10 k10)]⟩] [1,0] ⟨#[97]⟩ WP rfl (by omega) rfl (by omega) VO.out lH.out HI1.out).mono ?_
 rintro e x1 hp
 obtain ⟨hb,sA,rfl⟩:=prefA (Yb ..) (Yc ..) hp
 have HB3:=ae (ah HB2.out hb)
 have Zm:=ae (VM.out.grow hb)
 have Zq:=ae (VR.out.grow hb)
 clear hp hb lH HI1 HB2 VM VR
 go_upto_region 16 with (first
  |((with_reducible refine bP 67 ?_);go_must (refine bW rfl _ rfl iE (by kernel_rfl) ?_))
  |((with_reducible refine bH 67 ?_);go_must (refine dX rfl _ _ _ rfl (ay z0 sA) rfl rfl 67 iE rfl (lC _ _) rfl (Bh _ _) ?_;intro x2 hb2 _ _)))
 have HB4:=ae (ah HB3.out hb2)
 have VN:=ae (Zm.out.grow hb2)
 have Zr:=ae (Zq.out.grow hb2)
 clear hb2 HB3 Zm Zq
 have oJ:=ae (PE x2 [(⟨some ⟨bL,0,none⟩,4,[(yT 1 0 a1 k1 s1),(yT 2 0 a2 k2 s2),(fF 3 2 a3 k3),(fF 4 3 a4 k4)]⟩:zk),⟨some ⟨bN,0,none⟩,2,[(fF 1 0 a9 k9),(fF 2 1 a10 k10)]⟩] #[.slice (some ⟨bL,0,none⟩) 4 4, .slice (some ⟨bN,0,none⟩) 2 2] 28 rfl (fun x hx=>by simp only [List.mem_cons,List.not_mem_nil,or_false] at hx;rcases hx with rfl|rfl<;>first|exact VN.out|exact Zr.out))
 have ql:=ae (ah HB4.out (ag x2 (.cells #[.slice (some ⟨bL,0,none⟩) 4 4, .slice (some ⟨bN,0,none⟩) 2 2] 28)))
 have UZ:=ae (VN.out.grow (ag x2 (.cells #[.slice (some ⟨bL,0,none⟩) 4 4, .slice (some ⟨bN,0,none⟩) 2 2] 28)))
 have HI1:=ae (GG (x2.alloc (.cells #[.slice (some ⟨bL,0,none⟩) 4 4, .slice (some ⟨bN,0,none⟩) 2 2] 28)) [2] #[I 2] 3 rfl)
 clear HB4 VN Zr
 have lH:=ae (oJ.out.grow (ag (x2.alloc (.cells #[.slice (some ⟨bL,0,none⟩) 4 4, .slice (some ⟨bN,0,none⟩) 2 2] 28)) (.cells #[I 2] 3)))
 have Ii:=ae (ah ql.out (ag _ (.cells #[I 2] 3)))
 have VP:=ae (UZ.out.grow (ag _ (.cells #[I 2] 3)))
 clear oJ ql UZ
 rw [rX x2] at HI1
 go_wp2_with fail
 generalize (x2.alloc (.cells #[.slice (some ⟨bL,0,none⟩) 4 4, .slice (some ⟨bN,0,none⟩) 2 2] 28)).alloc (.cells #[I 2] 3)=WQ at lH HI1 Ii VP ⊢
 obtain ⟨vb2,XV⟩:∃b,x2.heap.size=b:=⟨_,rfl⟩
 rw [XV] at lH HI1
 (try simp only [rX])
 (try rw [XV])
 clear XV
 refine (Am (some ⟨vb2,0,none⟩) (some ⟨vb2+1,0,none⟩) 2 1 2 1 [(⟨some ⟨bL,0,none⟩,4,[(yT 1 0 a1 k1 s1),(yT 2 0 a2 k2 s2),(fF 3 2 a3 k3),(fF 4 3 a4 k4)]⟩:zk),⟨some ⟨bN,0,none⟩,2,[(fF 1 0 a9 k9),(fF 2 1 a10 k10)]⟩] [2] ⟨#[97]⟩ WQ rfl (by omega) rfl (by omega) VO.out lH.out HI1.out).mono ?_
 rintro e x3 hp
 obtain ⟨hb,rfl⟩:=prefB hp
 have UW:=ae (ah Ii.out hb)
 have Zo:=ae (VP.out.grow hb)
 clear hp hb lH HI1 Ii VP VO
 go_upto_region 17 with (first
  |((with_reducible refine bP 67 ?_);go_must (refine bW rfl _ rfl iE (by kernel_rfl) ?_))
  |((with_reducible refine bH 67 ?_);go_must (refine dX rfl _ _ _ rfl iE rfl rfl 67 iE rfl lD rfl uX ?_;intro x4 hb4 _ _)))
 have VK:=ae (ah UW.out hb4)
 have VQ:=ae (Zo.out.grow hb4)
 clear hb4 UW Zo
 have HHD:Hid (x4.rangeAt bL 0 (yT 1 0 a1 k1 s1).cells):=ae (VQ.out.head rfl).1
 have SB:Hid (jF x4 x4.heap.size (yT 1 0 a1 k1 s1)):=ae (VQ.out.each _ (List.mem_cons_self ..))
 have Rx:Hid ((Tryz.prog.info? 37).map (·.size)=some (yT 1 0 a1 k1 s1).cells.length):=ae (bV (vt 1 0 true) _ rfl rfl)
 go_wp2_with ((with_reducible refine gU 37 ?_);go_must (refine bZ rfl _ _ rfl bL 0 rfl (yT 1 0 a1 k1 s1).cells HHD.out _ Tryz.underlying37 rfl Rx.out ?_))
 refine (Og 1 0 a1 k1 s1 x4 SB.out).mono ?_
 rintro e x5 ⟨hb5,rfl⟩
 have HB9:=ae (ah VK.out hb5)
 clear hb5 VK VQ HHD SB Rx
 go_upto_region 18 with (first
  |((with_reducible refine bP 67 ?_);go_must (refine bW rfl _ rfl iE (by kernel_rfl) ?_))
  |((with_reducible refine bH 67 ?_);go_must (refine dX rfl _ _ _ rfl iE rfl rfl 67 iE rfl lD rfl uX ?_;intro x6 hb6 _ _)))
 have UQ:=ae (ah HB9.out hb6)
 clear hb6 HB9
 go_wp2_with fail
 refine (J8 (some ⟨bL,0,none⟩) 4 4 x6 (by omega)).mono ?_
 rintro e x7 ⟨rfl,hb7⟩
 have UR:=ae (ah UQ.out hb7)
 clear hb7 UQ
 go_upto_region 19 with (first
  |((with_reducible refine bP 37 ?_);go_must (refine aJ rfl _ rfl (ai bJ (.slice none 0 0)) fC ?_))
  |((with_reducible refine bH 37 ?_);go_must (refine dX rfl _ _ _ rfl (ai bJ (.slice none 0 0)) rfl rfl 37 (ai bJ (.slice none 0 0)) rfl (bV bJ _ rfl rfl) rfl (bf _ _ _ _) ?_;intro x8 hb8 _ _)))
 have UT:=ae (ah UR.out hb8)
 clear hb8 UR
 go_wp2_with fail
 refine (N7 0 0 x8).mono ?_
 rintro e x9 ⟨aE,kE,sE,rfl,_,Gv⟩
 have UU:=ae (ah UT.out Gv)
 clear Gv UT
 go_wp2_with fail
 refine (Uy 0 0 aE kE sE x9 (by decide)).mono ?_
 rintro e x10 ⟨rfl,TE⟩
 have Y1:=ae (ah UU.out TE)
 clear TE UU
 go_wp2_with fail
 go_ret
 exact ⟨rfl,Y1.out⟩
end Go.Proofs.YtdibbemgpikgjaaGreatDoor
