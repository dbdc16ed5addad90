/- The texts Oq, in this order. -/
import Derived.Test.YtdibbemgpikgjaaGreatDoorV00
import Derived.Test.YtdibbemgpikgjaaGreatDoorVA0
import Derived.Test.YtdibbemgpikgjaaGreatDoorV37
import Derived.Test.YtdibbemgpikgjaaGreatDoorV38
import Derived.Test.YtdibbemgpikgjaaGreatDoorV42
namespace Go.Proofs.YtdibbemgpikgjaaGreatDoor
open Go Go.RowKit
set_option maxRecDepth 10000 in
set_option maxHeartbeats 4000000 in
theorem yH (KR:List Int) (hK:KR.length=64) (w:World) (hG:fA w 0 (aA KR)) (hw1:0<w.heap.size) (r:kQ) (again:Int) (ha:0≤again∧again<256) (hr:vC w w.heap.size r):
  Calls Tryz.prog 5 #[.agg r.cells.toArray, .int .u8 again] w (Gives (.bool true) w):=by
 have Bi:=ae hr.key
 have hnl:=hr.len
 obtain ⟨n,hn⟩:∃n,r.its.length=n:=⟨_,rfl⟩
 rw [hn] at hnl
 have DL:=ae hn
 have HRR:=ae hr
 have HX:=ae (Ox.start w r)
 have HAG:=ae ha
 have U9:Hid (Tryz.prog.underlying 23=some (.array 32 5)):=ae Tryz.underlying23
 have U4:Hid ((Tryz.prog.info? 23).map (·.size)=some (aj r.key).length):=ae (by have:=gq r.key hr.key;rw [this];simp [cellsB])
 have Rl:Hid ((aj r.key).length=32):=ae (by simp [aj,hr.key])
 have HVI:Hid (∀W,Below w.heap.size w W→fA W 0 (aA KR)∧0<W.heap.size):=ae fun W hb=>⟨hG.via hb hw1,Nat.lt_of_lt_of_le hw1 hb.size⟩
 have HK:=ae hK
 clear hr hn ha hG hK hw1
 go_enter Tryz.func5,Tryz.ntmps5
 go_upto_region 1 with fail
 generalize w.alloc (.cells r.cells.toArray 26)=W0 at HX ⊢
 go_wp2_with fail
 refine (JU W0).mono ?_
 rintro e w1 ⟨rfl,b1⟩
 have uj:=ae (HX.out.grow b1)
 clear b1 HX
 go_upto_block 0 with fail
 go_cut [6] (fun o wx=>∃(k c:Nat) (A:Option Addr) (ts:List di),k≤5∧o= .slice A k c∧I7 KR r k c A ts wx∧Ox w r wx)
 case first=>
  go_wp2_with fail
  go_loopw [6,7] (fun o i wr=>∃(k c:Nat) (A:Option Addr) (ts:List di),k≤5∧k≤n∧o= .slice A k c∧i=I (k:Nat)∧I7 KR r k c A ts wr∧Ox w r wr) (fun _ i _=>5 - (intOf i).toNat)
  case atStart=>exact ⟨0,0,none,[],by omega,by omega,rfl,rfl,I7.start KR r _,uj.out⟩
  case round=>
   clear uj
   obtain ⟨k,c,A,ts,hk5,hkn,rfl,rfl,hc,hx⟩:=hrel
   have Fa:=ae hc
   have HX0:=ae hx
   clear hc hx
   have Xh:wr.cell? ⟨w.heap.size,33,none⟩=some (.slice r.A n r.c):=(HX0.out.it.cell 33).trans (by rw [Ez r Bi.out,DL.out])
   by_cases hlt:k<n∧k<5
   ·obtain ⟨hln,hl5⟩:=hlt
    have i1:(k:Int)<(n:Int):=by omega
    have i2:(k:Int)<5:=by omega
    obtain ⟨x,hx⟩:∃x,r.its[k]? =some x:=⟨_,List.getElem?_eq_getElem (by rw [DL.out];exact hln)⟩
    obtain ⟨ib,io,hA,hib,hcl⟩:=HRR.out.row.there (by rw [dZ (fun x:DV=>x.cells.toList) r.its (show∀x∈r.its,x.cells.toList.length=2 from fun _ _=>rfl),DL.out];omega)
    have OT:=ae hA
    have HR:Hid (w.rangeAt ib (io+k*2) x.cells.toList):=ae (az.elem (s:=2) (f:=fun x:DV=>x.cells.toList) (fun _ _=>rfl) hcl k x hx)
    have HIT:=ae (HRR.out.each x (List.mem_of_getElem? hx))
    rw [hA] at Xh
    have KL:Hid (∀W,Below w.heap.size w W→Calls Tryz.prog 16 #[.slice none 0 0, .int .u8 (r.vN.toNat:Int), .agg x.cells] W (Ve W 0 r.vN x)):=ae (fun W h=>X8 x r.vN none 0 0 [] W ((HIT.out.keep h).more h.size) rfl rfl)
    clear hx hcl hA
    go_upto_block 1 with fail
    go_cut [6,7] (fun o p wx=>p=I (k:Nat)∧∃A2 c2 ys,o= .slice A2 (k+1:Nat) c2∧I7 KR r (k+1) c2 A2 ys wx∧Ox w r wx)
    case first=>
     go_upto_region 6 with fail
     obtain ⟨V0,hV0⟩:∃V,wr.drew=V:=⟨_,rfl⟩
     go_cut [8] (fun p wx=>∃vb y,p= .pointer (some ⟨vb,0,none⟩)∧FT V0 vb y.t y wx∧y.t.aS=y.zs.map (·.e)∧y.t.prev.length=32∧y.t.bG.length=32∧y.t.aW=(r.vN.toNat:Int)%16∧y.t.prev=aY∧y.t.aS=sH x.vs)
     case first=>
      clear Xh
      have uF:=ae (HX0.out.grow ((Below.refl _ wr).drew))
      have HB0:Hid (Below wr.drew.heap.size wr.drew wr.drew):=ae (Below.refl _ _)
      have hS0:FP w r ib io n k x wr.drew:=FP.of Bi.out DL.out OT.out uF.out.it uF.out.lo HR.out hib
      refine wp_region_held_drew (S:=FP w r ib io n k x) (by kernel_rfl) hS0 (fun _=>?_)
      rw [hV0] at uF hS0 HB0 ⊢
      refine aC 0 (.pointer (some ⟨w.heap.size,0,none⟩)) 30 hS0 (fun w' hSw=>?_) ?_
      ·obtain ⟨s0,s1,_⟩:=hSw
       go_simp
      refine ax ?_
      refine aC 2 (.pointer (some ⟨w.heap.size,33,none⟩)) 32 hS0 (fun w' hSw=>?_) ?_
      ·obtain ⟨s0,s1,_⟩:=hSw
       go_simp
      refine ax ?_
      refine aC 4 (I (k:Int)) 34 hS0 (fun w' hSw=>?_) ?_
      ·obtain ⟨s0,s1,_⟩:=hSw
       go_simp
      refine ax ?_
      refine aC 1 (.int .u8 (r.vN.toNat:Int)) 31 hS0 (fun w' hSw=>?_) ?_
      ·obtain ⟨s0,s1,_⟩:=hSw
       go_simp
      refine ax ?_
      refine aC 3 (.slice (some ⟨ib,io,none⟩) n r.c) 33 hS0 (fun w' hSw=>?_) ?_
      ·obtain ⟨s0,s1,_⟩:=hSw
       go_simp
      refine ax ?_
      refine aC 5 (.pointer (some ⟨ib,io+k*2,none⟩)) 35 hS0 (fun w' hSw=>?_) ?_
      ·obtain ⟨s0,s1,_⟩:=hSw
       go_simp
      refine ax ?_
      refine aag 6 (.agg x.cells) 36 rfl rfl hS0 (yieldsIf_load_mid rfl 50 _ rfl ib (io+k*2) rfl x.cells.toList _ (fun _ h=>h.2.2.2) Tryz.underlying50 rfl (by kernel_rfl)) ?_
      refine ax ?_
      refine jr 7 8 (fun K hK=>?_) (fun K hK=>?_)
      ·go_simp
       refine (KL.out V0 uF.out.lo).mono ?_
       rintro e W1 ⟨y,rfl,hy1,hm1,hm2,Vu,hm4,YI,hl1,hb1⟩
       have Il:=ae hy1
       have Rx:=ae hm1
       have WW:=ae (hm4 rfl)
       have YB:=ae YI
       have pg:=ae hl1
       clear hm1 hm2 Vu hm4 YI hy1 hl1
       have HB1:Hid (Below V0.heap.size V0 W1):=ae hb1
       have uj:=ae (uF.out.grow HB1.out)
       have hS1:FP w r ib io n k x W1:=FP.of Bi.out DL.out OT.out uj.out.it uj.out.lo HR.out hib
       clear hb1
       refine hK.out _ _ hS1 (fun _=>?_)
       clear hK K
       refine ax ?_
       refine aV 8 (fun K hK=>?_)
       refine jO (o:=⟨some 8, .alloc 37,_,_,_,none⟩) rfl 37 rfl (ai bJ (.slice none 0 0)) fC ?_
       have HB3:Hid (Below V0.heap.size V0 (W1.alloc (.cells (ai bJ (.slice none 0 0)) 37))):=ae (ah HB1.out (ag W1 _))
       have wE:=ae (uF.out.grow HB3.out)
       have hS3:FP w r ib io n k x (W1.alloc (.cells (ai bJ (.slice none 0 0)) 37)):=FP.of Bi.out DL.out OT.out wE.out.it wE.out.lo HR.out hib
       have uZ:Hid (AV W1.heap.size 37 (ai bJ (.slice none 0 0)) (W1.alloc (.cells (ai bJ (.slice none 0 0)) 37))):=ae (AV.new W1 _ _)
       obtain ⟨vb3,hve3,hvb3⟩:∃b,W1.heap.size=b∧V0.heap.size≤b:=⟨_,rfl,HB1.out.size⟩
       have WX:Hid (eH V0.heap.size (.slice (some ⟨W1.heap.size,0,none⟩) 1 1) (W1.alloc (.cells (ai bJ (.slice none 0 0)) 37)) y):=ae (eH.of (Il.out.keep (ag W1 _)) (ag W1 (.cells (ai bJ (.slice none 0 0)) 37)).size pg.out (Nat.le_refl _) (TY W1.heap.size))
       refine hK.out _ _ hS3 (fun _=>?_)
       clear hK K
       refine ax ?_
       generalize (W1.alloc (.cells (ai bJ (.slice none 0 0)) 37))=W3 at HB3 wE hS3 uZ WX ⊢
       rw [hve3] at uZ WX ⊢
       clear hve3
       have Zt:Hid ((Tryz.prog.info? 37).map (·.size)=some (ai y.t (.slice y.A y.zs.length y.c)).size):=ae (bV y.t _ Il.out.prev Il.out.bG)
       have VS:Hid ((ai bJ (.slice none 0 0)).size=(ai y.t (.slice y.A y.zs.length y.c)).size):=ae ((bn bJ _ rfl rfl).trans (bn y.t _ Il.out.prev Il.out.bG).symm)
       refine aV 9 (fun K hK=>?_)
       refine jP (o:=⟨none, .store 37 (.tmp 8) (.tmp 37),_,_,_,none⟩) rfl 37 _ _ rfl vb3 (ai y.t (.slice y.A y.zs.length y.c)) rfl rfl 37 (ai bJ (.slice none 0 0)) uZ.out.var Zt.out VS.out (bf _ _ _ _) ?_
       have Ru:=ae (FT.new HB3.out hvb3 uZ.out WX.out)
       have rP:=ae (uF.out.grow Ru.out.lo)
       have hS9:FP w r ib io n k x (W3.setRow vb3 (ai y.t (.slice y.A y.zs.length y.c))):=FP.of Bi.out DL.out OT.out rP.out.it rP.out.lo HR.out hib
       refine hK.out _ _ hS9 (fun _=>?_)
       clear hK K
       try simp only [Act.put]
       refine wpAnyH_done (by kernel_rfl) ?_ _
       go_wp2_with fail
       go_meet
       exact ⟨_,y,rfl,Ru.out,Il.out.names,Il.out.prev,Il.out.bG,Rx.out,WW.out,YB.out⟩
      ·refine jO (o:=⟨some 8, .alloc 37,_,_,_,none⟩) rfl 37 rfl (ai bJ (.slice none 0 0)) fC ?_
       have Ii:Hid (Below V0.heap.size V0 (V0.alloc (.cells (ai bJ (.slice none 0 0)) 37))):=ae (ah HB0.out (ag V0 _))
       have jo:=ae (uF.out.grow Ii.out)
       have hS6:FP w r ib io n k x (V0.alloc (.cells (ai bJ (.slice none 0 0)) 37)):=FP.of Bi.out DL.out OT.out jo.out.it jo.out.lo HR.out hib
       have Rw:Hid (AV V0.heap.size 37 (ai bJ (.slice none 0 0)) (V0.alloc (.cells (ai bJ (.slice none 0 0)) 37))):=ae (AV.new V0 _ _)
       obtain ⟨vb6,hve6,hvb6⟩:∃b,V0.heap.size=b∧V0.heap.size≤b:=⟨_,rfl,HB0.out.size⟩
       refine hK.out _ _ hS6 (fun _=>?_)
       clear hK K
       refine ax ?_
       generalize (V0.alloc (.cells (ai bJ (.slice none 0 0)) 37))=W6 at Ii jo hS6 Rw ⊢
       rw [hve6] at Rw ⊢
       clear hve6
       refine aV 7 (fun K hK=>?_)
       go_simp
       refine (KL.out W6 jo.out.lo).mono ?_
       rintro e W7 ⟨y,rfl,hy7,hm1,hm2,Vu,hm4,YI,hl7,hb7⟩
       have WT:=ae hy7
       have Rx:=ae hm1
       have WW:=ae (hm4 rfl)
       have YB:=ae YI
       have HYV7:Hid (eH V0.heap.size (.slice (some ⟨vb6,0,none⟩) 1 1) W7 y):=ae (eH.of hy7 (Nat.le_refl _) hl7 Ii.out.size (TZ Rw.out.lt))
       clear hm1 hm2 Vu hm4 YI hy7 hl7
       have UW:Hid (Below V0.heap.size V0 W7):=ae (ah Ii.out hb7)
       have gG:=ae (uF.out.grow UW.out)
       have hS7:FP w r ib io n k x W7:=FP.of Bi.out DL.out OT.out gG.out.it gG.out.lo HR.out hib
       have HV7:=ae (Rw.out.below hb7)
       clear hb7
       refine hK.out _ _ hS7 (fun _=>?_)
       clear hK K
       refine ax ?_
       have Zt:Hid ((Tryz.prog.info? 37).map (·.size)=some (ai y.t (.slice y.A y.zs.length y.c)).size):=ae (bV y.t _ WT.out.prev WT.out.bG)
       have VS:Hid ((ai bJ (.slice none 0 0)).size=(ai y.t (.slice y.A y.zs.length y.c)).size):=ae ((bn bJ _ rfl rfl).trans (bn y.t _ WT.out.prev WT.out.bG).symm)
       refine aV 9 (fun K hK=>?_)
       refine jP (o:=⟨none, .store 37 (.tmp 8) (.tmp 37),_,_,_,none⟩) rfl 37 _ _ rfl vb6 (ai y.t (.slice y.A y.zs.length y.c)) rfl rfl 37 (ai bJ (.slice none 0 0)) HV7.out.var Zt.out VS.out (bf _ _ _ _) ?_
       have Ru:=ae (FT.new UW.out hvb6 HV7.out HYV7.out)
       have rP:=ae (uF.out.grow Ru.out.lo)
       have hS9:FP w r ib io n k x (W7.setRow vb6 (ai y.t (.slice y.A y.zs.length y.c))):=FP.of Bi.out DL.out OT.out rP.out.it rP.out.lo HR.out hib
       refine hK.out _ _ hS9 (fun _=>?_)
       clear hK K
       try simp only [Act.put]
       refine wpAnyH_done (by kernel_rfl) ?_ _
       go_wp2_with fail
       go_meet
       exact ⟨_,y,rfl,Ru.out,WT.out.names,WT.out.prev,WT.out.bG,Rx.out,WW.out,YB.out⟩
     case rest=>
      obtain ⟨vb,y,rfl,ht,hyn,hyp,hym,hyi,hyz,hyv⟩:=hcut
      have HT:=ae ht
      have HYN:=ae hyn
      have WW:=ae hyp
      have CG:=ae hym
      have Rx:=ae hyi
      have YB:=ae hyz
      have DU:=ae hyv
      have HV:Hid (Below wr.heap.size wr V0):=ae (by rw [←hV0];exact (Below.refl _ wr).drew)
      have qJ:Hid (V0.heap.size=wr.heap.size):=ae (by rw [←hV0];rfl)
      clear ht hyn hyp hym hyi hyz hyv hV0 Xh
      have f1:wc.frozen? ⟨vb,1,none⟩=false:=HT.out.var.dK 1
      have c1:wc.cell? ⟨vb,1,none⟩=some (I y.t.version):=HT.out.var.cell 1
      have hw2:IntKind.i64.wrap ((k:Int)+1)=(k:Int)+1:=by rw [IntKind.wrap_i64];omega
      have HT1:=ae (HT.out.set (T':= {y.t with version:=(k:Int)+1}) 1 (I ((k:Int)+1)) rfl)
      go_upto_region 8 with fail
      clear f1 c1
      generalize wc.setCell ⟨vb,1,none⟩ (I ((k:Int)+1))=W8 at HT1 ⊢
      clear HT
      have wF:=ae (HX0.out.grow (HV.out.trans (show Below wr.heap.size V0 W8 by rw [←qJ.out];exact HT1.out.lo)))
      have Xh:W8.cell? ⟨w.heap.size,33,none⟩=some (.slice r.A n r.c):=(wF.out.it.cell 33).trans (by rw [Ez r Bi.out,DL.out])
      rw [OT.out] at Xh
      have cwd:W8.cell? ⟨ib,io+k*2+1,none⟩=some (.int .u8 (x.wd.toNat:Int)):=(aO HR.out wF.out.lo hib) 1 _ rfl
      have f2:W8.frozen? ⟨vb,2,none⟩=false:=HT1.out.var.dK 2
      have c2':W8.cell? ⟨vb,2,none⟩=some (I y.t.aI):=HT1.out.var.cell 2
      obtain ⟨wi,hwi⟩:∃i:Int,(x.wd.toNat:Int)%((k:Int)+1)=i:=⟨_,rfl⟩
      have hwt:Int.tmod (x.wd.toNat:Int) ((k:Int)+1)=wi:=by rw [Int.tmod_eq_emod_of_nonneg (by omega)];exact hwi
      have hwb:=dh x.wd
      have hne:¬(k:Int)+1=0:=by omega
      have HWI:=ae hwi
      have hwi0:0≤wi:=by rw [←hwi];exact Int.emod_nonneg _ (by omega)
      have hwi1:wi<(k:Int)+1:=by rw [←hwi];exact Int.emod_lt_of_pos _ (by omega)
      clear hwi
      have HT2:=ae (HT1.out.set (T':= {y.t with version:=(k:Int)+1,aI:=wi}) 2 (I wi) rfl)
      go_upto_region 9 with fail
      clear f2 c2' Xh cwd
      generalize W8.setCell ⟨vb,2,none⟩ (I wi)=W9 at HT2 ⊢
      clear HT1 wF
      have rP:=ae (HX0.out.grow (HV.out.trans (show Below wr.heap.size V0 W9 by rw [←qJ.out];exact HT2.out.lo)))
      have UY:=ae (Fa.out.grow (HV.out.trans (show Below wr.heap.size V0 W9 by rw [←qJ.out];exact HT2.out.lo)))
      obtain ⟨T2,hT2⟩:∃T:Tb,{y.t with version:=(k:Int)+1,aI:=wi}=T:=⟨_,rfl⟩
      rw [hT2] at HT2
      have HF2:Hid ((k=0→KX KR r x k ts y T2)∧(∀D:List UInt8,D.length=32→0<k→(∀z,ts[k - 1]? =some z→lI KR (oD z.t++z.t.bG)=D)→KX KR r x k ts y {T2 with prev:=D})):=ae (by
       rw [←hT2]
       refine ⟨fun h0=>⟨Rx.out,rfl,HWI.out.symm,DU.out,HYN.out,WW.out,CG.out,fun _=>YB.out,fun z hz=>?_⟩,fun D hD h0 hl=>⟨Rx.out,rfl,HWI.out.symm,DU.out,HYN.out,hD,CG.out,fun h=>absurd h (by omega),hl⟩⟩
       have:=(List.getElem?_eq_some_iff.1 hz).1
       have:=Fa.out.len
       omega)
      have HP2:Hid (T2.prev.length=32):=ae (by rw [←hT2];exact WW.out)
      clear hT2 hwt hwb hne hwi0 hwi1 HYN WW CG Rx YB DU HWI
      go_upto_if 53 with fail
      go_cut [8] (fun p wx=>p= .pointer (some ⟨vb,0,none⟩)∧∃T,FT V0 vb T y wx∧KX KR r x k ts y T)
      case first=>
       by_cases hk0:k=0
       ·have i3:¬(0:Int)<(k:Int):=by omega
        have HF:=ae (HF2.out.1 hk0)
        clear hk0
        go_wp2_with fail
        go_meet
        exact ⟨rfl,_,HT2.out,HF.out⟩
       ·have i3:(0:Int)<(k:Int):=by omega
        go_upto_region 10 with fail
        obtain ⟨p,hp⟩:∃p,k - 1=p:=⟨_,rfl⟩
        obtain ⟨z,hz⟩:∃z,ts[p]? =some z:=⟨_,List.getElem?_eq_getElem (by rw [UY.out.len];omega)⟩
        have hzm:=List.mem_of_getElem? hz
        obtain ⟨cb,co,hA,hcb,hTA⟩:∃b off,A=some ⟨b,off,none⟩∧b<W9.heap.size∧mP W9 b off ts:=by
         rcases nC UY.out.row with h1|h1
         ·have:=UY.out.len
          omega
         ·exact h1
        have Xa:Hid (W9.rangeAt cb (co+p*68) z.cells):=ae (hTA p z hz).1
        have Ry:Hid ((Tryz.prog.info? 37).map (·.size)=some z.cells.length):=ae (by rw [(hTA p z hz).2];kernel_rfl)
        have YD:=ae (UY.out.row.each z hzm)
        have HZG:=ae (UY.out.good z hzm)
        have BC:Hid (Calls Tryz.prog 9 #[.agg z.cells.toArray] W9 (zD W9 (oD z.t))):=ae (jQ z.t z.A z.zs.length z.c z.zs W9 HZG.out.1 YD.out.names rfl YD.out.aS HZG.out.2)
        have xy:=ae (qF z.t HZG.out.1)
        obtain ⟨N,hN⟩:∃N,(oD z.t).length=N:=⟨_,rfl⟩
        have HN:=ae hN
        obtain ⟨D,hD⟩:∃D,lI KR (oD z.t++z.t.bG)=D:=⟨_,rfl⟩
        have hd32:D.length=32:=by rw [←hD];exact jf _ _
        have MF:=ae hd32
        have HD:=ae hD
        have HF:=ae (HF2.out.2 D hd32 (by omega) (fun u hu=>by have h2:z=u:=Option.some.inj (hz.symm.trans ((congrArg (fun j=>ts[j]?) hp).symm.trans hu));rw [←h2];exact hD))
        have HPF:Hid (((k:Int) - 1=(p:Int))∧(p:Int)<(k:Int)∧(0:Int)≤(p:Int)∧IntKind.i64.wrap (p:Int)=(p:Int)):=ae ⟨by omega,by omega,by omega,by rw [IntKind.wrap_i64];omega⟩
        have HAE:=ae hA
        rw [hA]
        clear hz hzm hTA hN hD hd32 hp hA
        obtain ⟨hpn,hpl,hp0,hwp⟩:=HPF.out
        go_wp2_with ((with_reducible refine gU 37 ?_);go_must (refine bZ rfl _ _ rfl cb (co+p*68) rfl z.cells Xa.out _ Tryz.underlying37 rfl Ry.out ?_))
        refine BC.out.mono ?_
        rintro e w1 ⟨⟨g1,c1,rfl,o1⟩,b1⟩
        rw [HN.out] at o1 ⊢
        have hs1:W9.heap.size≤w1.heap.size:=b1.size
        have IB:Hid (uY W9.heap.size w1 (some ⟨g1,0,none⟩) N c1 (oD z.t)):=ae o1
        have HB1:=ae b1
        have hn1:N≤18000:=by rw [←HN.out];exact xy.out.2
        have uD:Hid (az w1 w1.heap.size (some ⟨cb,co+p*68+36,none⟩) (z.t.bG.map Extern.Stop.cell)):=ae (.inr ⟨cb,_,rfl,by omega,Uo YD.out.prev (aO Xa.out b1 hcb)⟩)
        have HZM:Hid (z.t.bG.length=32):=ae YD.out.bG
        clear o1 b1 BC Xa
        go_wp2_with (at_builtin;go_must (refine pF rfl _ _ rfl W9.heap.size N c1 (some ⟨g1,0,none⟩) (oD z.t) rfl IB.out _ (some ⟨cb,co+p*68+36,none⟩) 32 32 z.t.bG rfl HZM.out (by omega) uD.out (by omega) hs1 ?_))
        intro A3 c3 w3 o3 k3
        have h3:Below W9.heap.size W9 w3:=HB1.out.trans (k3.yC IB.out.base hs1)
        have H3:=ae h3
        obtain ⟨g3,c4,hv3,hg3⟩:=dw (show w3.ownsRow _ _ 1 (.slice A3 (N+32) c3) (N+32) _ from o3) (by omega)
        injection hv3 with e1 _ e3
        subst e1 e3
        have HS:Hid (Calls Tryz.prog 12 #[.slice (some ⟨g3,0,none⟩) (N+32) c3] w3 (Gives (.agg (cellsB D)) w3)):=ae (by
         have hl:(oD z.t++z.t.bG).length=N+32:=by rw [List.length_append,HN.out,HZM.out]
         have hvv:=HVI.out w3 (rP.out.grow h3).lo
         have:=G9 KR HK.out w3 hvv.1 (oD z.t++z.t.bG) (by omega) (by omega) g3 0 c3 hg3 (uS o3)
         rw [hl,HD.out] at this
         exact this)
        clear o3 k3 h3 IB uD HB1
        go_wp2_with fail
        refine HS.out.mono ?_
        rintro e w4 ⟨rfl,hb4⟩
        have HT4:=ae (HT2.out.grow (ah H3.out hb4))
        clear HS hb4 hg3 H3 HT2
        have HTH:Hid (w4.there vb 4 (cellsB D).size):=ae (HT4.out.var.there 4 _ (by rw [bD,MF.out,bn _ _ HP2.out (HF.out.bG)];omega))
        have Zt:=ae (gq D MF.out)
        have Om:=ae (HT4.out.Ug HP2.out D MF.out)
        go_wp2_with ((with_reducible refine gV 23 ?_);go_must (refine wpList_store_mid rfl _ _ _ rfl vb 4 (cellsB D) rfl rfl HTH.out Zt.out (gJ _) ?_))
        rw [←HAE.out]
        go_meet
        exact ⟨rfl,_,Om.out,HF.out⟩
      case rest=>
       obtain ⟨rfl,T,ht,hf⟩:=hcut
       clear HT2 HF2 HP2 rP UY
       have HT:=ae ht
       have HF:=ae hf
       have Oh:Hid (Below wr.heap.size wr wc):=ae (HV.out.trans (show Below wr.heap.size V0 wc by rw [←qJ.out];exact ht.lo))
       have rP:=ae (HX0.out.grow Oh.out)
       have UY:=ae (Fa.out.grow Oh.out)
       have hk4:k≤4:=by omega
       have Fz:=ae hk4
       have eX:Hid ((Tryz.prog.info? 37).map (·.size)=some (ai T (.slice y.A y.zs.length y.c)).size):=ae (bV T _ hf.prev hf.bG)
       have RY:Hid (wc.rangeAt w.heap.size 1 (aj r.key)):=ae (vS rP.out.it.jB)
       obtain ⟨d,hd⟩:∃d,tY KR r.key (oD T)=d:=⟨_,rfl⟩
       have HD:=ae hd
       have U0:Hid (d.length=32):=ae (by rw [←hd];exact mg _ _ _)
       clear hd
       have CE:Hid (Calls Tryz.prog 17 #[.agg (aj r.key).toArray, .agg (ai T (.slice y.A y.zs.length y.c))] wc (Vg wc T d y.zs.length)):=ae (by
        have hvv:=HVI.out wc rP.out.lo
        rw [←HD.out]
        exact NH KR HK.out wc hvv.1 hvv.2 r.key Bi.out T y.A y.zs.length y.c y.zs (hf.good hk4) hf.names rfl ht.zes (hf.up hk4))
       have hud:=U9.out
       clear ht hf hk4
       go_wp2_with (first
        |((with_reducible refine gU 23 ?_);go_must (refine bZ rfl _ _ rfl w.heap.size 1 rfl (aj r.key) RY.out _ hud rfl U4.out ?_))
        |((with_reducible refine gU 37 ?_);go_must (refine aX rfl _ _ rfl vb rfl (ai T (.slice y.A y.zs.length y.c)) HT.out.var.jB _ Tryz.underlying37 rfl eX.out ?_)))
       refine CE.out.mono ?_
       rintro e w2 ⟨A',c',ys,rfl,hz,he,hb2⟩
       have HZ:=ae hz
       have HE:=ae he
       obtain ⟨U,hU⟩:∃U:Tb,{T with bG:=d}=U:=⟨_,rfl⟩
       rw [hU]
       have HU:=ae hU
       have xC:=ae (rP.out.grow hb2)
       have HC2:=ae (UY.out.grow hb2)
       have DR:Hid (U.prev.length=32):=ae (by rw [←hU];exact HF.out.prev)
       have HUM:Hid (U.bG.length=32):=ae (by rw [←hU];exact U0.out)
       obtain ⟨q,hq⟩:∃q,y.zs.length=q:=⟨_,rfl⟩
       have HYQ:Hid (ys.length=q):=ae (by have:=congrArg List.length (he.trans HF.out.names);simpa [hq] using this)
       rw [hq]
       have HUI:Hid ((Tryz.prog.info? 37).map (·.size)=some (ai U (.slice A' q c')).size):=ae (bV U _ DR.out HUM.out)
       have HUZ:Hid ((ai bJ (.slice none 0 0)).size=(ai U (.slice A' q c')).size):=ae ((bn bJ _ rfl rfl).trans (bn U _ DR.out HUM.out).symm)
       have Ih:=ae (heap_alloc_last w2 (.cells (ai bJ (.slice none 0 0)) 37))
       clear hz he hb2 CE RY hU hq
       go_upto_region 16 with (first
        |((with_reducible refine bP 37 ?_);go_must (refine aJ rfl _ rfl (ai bJ (.slice none 0 0)) fC ?_))
        |((with_reducible refine gV 37 ?_);go_must (refine wpList_store_row rfl _ _ _ rfl w2.heap.size (ai U (.slice A' q c')) rfl rfl 37 (ai bJ (.slice none 0 0)) Ih.out HUI.out HUZ.out (bf _ _ _ _) ?_)))
       have Ol:Hid (AV w2.heap.size 37 (ai U (.slice A' q c')) ((w2.alloc (.cells (ai bJ (.slice none 0 0)) 37)).setRow w2.heap.size (ai U (.slice A' q c')))):=ae ⟨setRow_heap _ _ _ _ _ _ Ih.out⟩
       have HB3:Hid (Below w2.heap.size w2 ((w2.alloc (.cells (ai bJ (.slice none 0 0)) 37)).setRow w2.heap.size (ai U (.slice A' q c')))):=ae (aF (ag w2 _) (Nat.le_refl _) _)
       generalize (w2.alloc (.cells (ai bJ (.slice none 0 0)) 37)).setRow w2.heap.size (ai U (.slice A' q c'))=W3 at Ol HB3 ⊢
       obtain ⟨sb,hsb⟩:∃b,w2.heap.size=b:=⟨_,rfl⟩
       rw [hsb] at Ol ⊢
       have wE:=ae (xC.out.grow HB3.out)
       have rD:=ae (HC2.out.grow HB3.out)
       have HUA:Hid (jF W3 W3.heap.size ⟨U,A',c',ys⟩):=ae ⟨by rw [←HU.out];exact HE.out.symm,DR.out,HUM.out,HZ.out.at.grow HB3.out⟩
       have RY:Hid (W3.rangeAt w.heap.size 1 (aj r.key)):=ae (vS wE.out.it.jB)
       obtain ⟨m1,hm1⟩:∃m,k+1=m:=⟨_,rfl⟩
       have uD:=ae hm1
       have Y0:Hid (Calls Tryz.prog 18 #[.slice A k c, .agg (aj r.key).toArray, .agg (ai U (.slice A' q c'))] W3 (YN W3 m1 (ts++ [⟨{T with bG:=d},A',c',ys⟩]))):=ae (by
        have hvv:=HVI.out W3 wE.out.lo
        have h:=FZ KR HK.out W3 hvv.1 hvv.2 r.key Bi.out ⟨U,A',c',ys⟩ (by rw [←HU.out];exact HF.out.Vp Fz.out U0.out HE.out) HUA.out A k c ts rD.out.len (by omega) rD.out.row rD.out.good (by rw [←HU.out];exact HF.out.next rD.out HD.out)
        simp only [HYQ.out] at h
        rw [hm1] at h
        rw [HU.out]
        exact h)
       have HB2:=ae HB3.out.size
       clear hsb Ih HUZ HB3 hm1 HZ
       go_wp2_with (first
        |((with_reducible refine gU 23 ?_);go_must (refine bZ rfl _ _ rfl w.heap.size 1 rfl (aj r.key) RY.out _ hud rfl U4.out ?_))
        |((with_reducible refine gU 37 ?_);go_must (refine aX rfl _ _ rfl sb rfl (ai U (.slice A' q c')) Ol.out.jB _ Tryz.underlying37 rfl HUI.out ?_)))
       refine Y0.out.mono ?_
       rintro e w5 ⟨A2,c2,zs,rfl,hc2,hzs,hca,hb5⟩
       have mX:=ae (wE.out.grow hb5)
       have xA:Hid (I7 KR r (k+1) c2 A2 zs w5):=ae (rD.out.snoc HF.out Fz.out HD.out HE.out (by rw [uD.out];exact hc2) hzs hca)
       have t1:((m1:Int) !=(k:Int)+1)=false:=by
        have:=uD.out
        simp
        omega
       clear hc2 hzs hca hb5 Y0 RY Ol HUA
       go_wp2_with fail
       go_meet
       exact ⟨rfl,A2,c2,zs,by rw [uD.out],xA.out,mX.out⟩
    case rest=>
     obtain ⟨rfl,A2,c2,ys,rfl,hc2,hx2⟩:=hcut
     have HC2:=ae hc2
     have xC:=ae hx2
     clear hc2 hx2 HX0 Fa Xh
     go_wp2_with fail
     go_roundw
     case rel=>exact ⟨k+1,c2,A2,ys,by omega,by omega,rfl,by go_num,HC2.out,xC.out⟩
     case measure=>simp [intOf];omega
   ·have hex:¬(k:Int)<(n:Int)∨((k:Int)<(n:Int)∧¬(k:Int)<5):=by omega
    rcases hex with h1|⟨h1,h2⟩
    all_goals
     go_wp2_with fail
     go_meet
     exact ⟨k,c,A,ts,hk5,rfl,Fa.out,HX0.out⟩
 case rest=>
  obtain ⟨k,c,A,ts,hk5,rfl,hc,hx⟩:=hcut
  have HC:=ae hc
  have HX:=ae hx
  have Zk:Hid (∀j,j≤k→∀W,Below wc.heap.size wc W→Calls Tryz.prog 8 #[.slice A j c, .agg (aj r.key).toArray] W (Gives (I 0) W)):=ae fun j hj W hb=>by
   have h:=hc.grow hb
   have hvv:=HVI.out W (hx.grow hb).lo
   have hcp:=hc.cap
   have hln:=hc.len
   exact (Jf KR HK.out W hvv.1 hvv.2 r.key Bi.out A j c (ts.take j) (by rw [List.length_take];omega) (by omega) (by omega) (h.row.take j) (fun x hx=>hc.good x (List.mem_of_mem_take hx))).mono fun e w' ⟨u,he,hu,hb2⟩=>⟨by rw [he,(hc.adm.take j).check hu],hb2⟩
  have hcp:=hc.cap
  clear hc hx uj
  go_upto_block 2 with fail
  go_cut [6] (fun o wx=>o= .slice A k c∧I7 KR r k c A ts wx∧Ox w r wx)
  case first=>
   go_wp2_with fail
   go_loopw [15] (fun i wr=>∃j:Nat,j≤k+1∧i=I j∧Below wc.heap.size wc wr) (fun i _=>k+1 - (intOf i).toNat)
   case atStart=>exact ⟨0,Nat.zero_le _,rfl,Below.refl _ _⟩
   case round=>
    obtain ⟨j,hj,rfl,hb⟩:=hrel
    have HB:=ae hb
    have HXr:=ae (HX.out.grow hb)
    have HCr:=ae (HC.out.grow hb)
    clear hb
    by_cases hlt:j≤k
    ·have i1:(j:Int)≤(k:Int):=by omega
     have i0:(0:Int)≤(j:Int):=by omega
     have i3:(j:Int)≤(c:Int):=by omega
     have i4:¬(c:Int)<(j:Int):=by omega
     have HCJ:=ae (Zk.out j hlt wr.drew HB.out.drew)
     have HS:Hid (wr.drew.rangeAt w.heap.size 1 (aj r.key)):=ae (vS (HXr.out.grow ((Below.refl _ wr).drew)).it.jB)
     have U2:=ae HC.out.form
     have hud:=U9.out
     have hki:=U4.out
     have hkc:=Rl.out
     go_upto_region 23 with fail
     refine wp_region_held_drew (S:=fun w'=>w'.rangeAt w.heap.size 1 (aj r.key)) (by kernel_rfl) HS.out (fun hH=>?_)
     refine aC 0 (.slice A k c) 111 hH (fun W hW=>?_) ?_
     ·go_simp
     refine ax ?_
     refine aC 1 (I j) 112 hH (fun W hW=>?_) ?_
     ·go_simp
     refine ax ?_
     refine aC 2 (.slice A j c) 113 hH (fun W hW=>?_) ?_
     ·obtain ⟨rfl,h1,rfl⟩|⟨b,off,rfl⟩:=U2.out
      ·obtain rfl:j=0:=by omega
       go_simp
      ·go_simp
     refine ax ?_
     refine aC 3 (.pointer (some ⟨w.heap.size,1,none⟩)) 114 hH (fun W hW=>?_) ?_
     ·go_simp
     refine ax ?_
     refine aag 4 (.agg (aj r.key).toArray) 115 rfl rfl hH (yieldsIf_load_mid (by rfl) _ _ rfl w.heap.size 1 rfl (aj r.key) _ (fun _ hW=>hW) hud rfl hki) ?_
     refine ax ?_
     clear hH
     refine aV 5 (fun K hK=>?_)
     go_simp
     go_at_call 8
     refine HCJ.out.mono ?_
     rintro e w3 ⟨rfl,hb3⟩
     have HB3:=ae (ah HB.out (Below.trans ((Below.refl _ wr).drew) hb3))
     have jy:Hid (w3.rangeAt w.heap.size 1 (aj r.key)):=ae (aO HS.out hb3 HXr.out.lt)
     clear hb3
     refine hK.out _ _ jy.out (fun hH=>?_)
     clear hK K
     refine ax ?_
     refine aC 6 (.bool false) 117 hH (fun W hW=>?_) ?_
     ·go_simp
     refine ax ?_
     clear hH
     refine wpAnyH_done (by kernel_rfl) ?_ _
     clear jy HS hud hki hkc HCJ U2 HXr HCr
     go_wp2_with fail
     go_roundw
     case rel=>exact ⟨j+1,by omega,by go_num,HB3.out⟩
     case measure=>simp [intOf];omega
    ·have hlt':¬(j:Int)≤(k:Int):=by omega
     go_wp2_with fail
     go_meet
     exact ⟨rfl,HCr.out,HXr.out⟩
  case rest=>
   obtain ⟨rfl,hc,hx⟩:=hcut
   have qX:=ae hc
   have Ot:=ae hx
   clear HC HX Zk hc hx
   by_cases hk0:k=0
   ·have t0:((k:Int)==0)=true:=by simp [hk0]
    have t1:(k==0)=true:=by simp [hk0]
    clear hk0
    go_wp2_with fail
    go_ret
    exact ⟨rfl,Ot.out.lo⟩
   ·have t0:((k:Int)==0)=false:=by simp;omega
    have t1:(k==0)=false:=by simp;omega
    obtain ⟨p,hp⟩:∃p:Nat,again.toNat%k=p:=⟨_,rfl⟩
    have hag:=HAG.out
    have hpk:p<k:=by rw [←hp];exact Nat.mod_lt _ (by omega)
    have hpm:Int.tmod again (k:Int)=(p:Int):=by
     rw [Int.tmod_eq_emod_of_nonneg hag.1,←hp,Int.natCast_emod,Int.toNat_of_nonneg hag.1]
    obtain ⟨z,hz⟩:∃z,ts[p]? =some z:=⟨_,List.getElem?_eq_getElem (by rw [qX.out.len];omega)⟩
    have hzm:=List.mem_of_getElem? hz
    obtain ⟨cb,co,rfl,hcb,hTA⟩:∃b off,A=some ⟨b,off,none⟩∧b<wc.heap.size∧mP wc b off ts:=by
     rcases nC qX.out.row with h1|h1
     ·have:=qX.out.len
      omega
     ·exact h1
    have Xa:Hid (wc.rangeAt cb (co+p*68) z.cells):=ae (hTA p z hz).1
    have Ry:Hid ((Tryz.prog.info? 37).map (·.size)=some z.cells.length):=ae (by rw [(hTA p z hz).2];kernel_rfl)
    have RY:Hid (wc.rangeAt w.heap.size 1 (aj r.key)):=ae (vS Ot.out.it.jB)
    have Y0:Hid (Calls Tryz.prog 18 #[.slice (some ⟨cb,co,none⟩) k c, .agg (aj r.key).toArray, .agg z.cells.toArray] wc.drew (Gives (.tuple #[.slice none 0 0,I 9]) wc.drew)):=ae (by
     have hcd:=qX.out.grow ((Below.refl _ wc).drew)
     have hvv:=HVI.out wc.drew (Ot.out.grow ((Below.refl _ wc).drew)).lo
     exact MN KR HK.out wc.drew hvv.1 hvv.2 r.key Bi.out z (hcd.good z hzm) (hcd.row.each z hzm) (some ⟨cb,co,none⟩) k c ts hcd.len (by omega) hcd.row hcd.good 9 (by decide) (hcd.adm.old hz))
    have hne:¬(k:Int)=0:=by omega
    have hwz:IntKind.i64.wrap again=again:=by rw [IntKind.wrap_i64];omega
    have hwp:IntKind.i64.wrap (p:Int)=(p:Int):=by rw [IntKind.wrap_i64];omega
    have hp0:(0:Int)≤(p:Int):=by omega
    have hpl:(p:Int)<(k:Int):=by omega
    have hud:=U9.out
    have hki:=U4.out
    have hkc:=Rl.out
    have hzi:=Ry.out
    clear hz hzm hTA hp hag
    go_upto_region 27 with fail
    refine wp_region_held_drew (S:=fun w'=>w'.rangeAt w.heap.size 1 (aj r.key)∧w'.rangeAt cb (co+p*68) z.cells) (by kernel_rfl) ⟨RY.out,Xa.out⟩ (fun hH=>?_)
    refine aC 0 (.slice (some ⟨cb,co,none⟩) k c) 123 hH (fun W hW=>?_) ?_
    ·go_simp
    refine ax ?_
    refine aC 1 (.pointer (some ⟨w.heap.size,1,none⟩)) 124 hH (fun W hW=>?_) ?_
    ·go_simp
    refine ax ?_
    refine aag 2 (.agg (aj r.key).toArray) 125 rfl rfl hH (yieldsIf_load_mid (by rfl) _ _ rfl w.heap.size 1 rfl (aj r.key) _ (fun _ hW=>hW.1) hud rfl hki) ?_
    refine ax ?_
    refine aC 3 (.slice (some ⟨cb,co,none⟩) k c) 126 hH (fun W hW=>?_) ?_
    ·go_simp
    refine ax ?_
    refine aC 4 (.int .u8 again) 127 hH (fun W hW=>?_) ?_
    ·go_simp
    refine ax ?_
    refine aC 5 (I again) 128 hH (fun W hW=>?_) ?_
    ·go_simp
    refine ax ?_
    refine aC 6 (.slice (some ⟨cb,co,none⟩) k c) 129 hH (fun W hW=>?_) ?_
    ·go_simp
    refine ax ?_
    refine aC 7 (I (k:Int)) 130 hH (fun W hW=>?_) ?_
    ·go_simp
    refine ax ?_
    refine aC 8 (I (p:Int)) 131 hH (fun W hW=>?_) ?_
    ·go_simp
    refine ax ?_
    refine aC 9 (.pointer (some ⟨cb,co+p*68,none⟩)) 132 hH (fun W hW=>?_) ?_
    ·go_simp
    refine ax ?_
    refine aag 10 (.agg z.cells.toArray) 133 rfl rfl hH (yieldsIf_load_mid (by rfl) _ _ rfl cb (co+p*68) rfl z.cells _ (fun _ hW=>hW.2) Tryz.underlying37 rfl hzi) ?_
    refine ax ?_
    clear hH
    refine aV 11 (fun K hK=>?_)
    go_simp
    go_at_call 18
    refine Y0.out.mono ?_
    rintro e w3 ⟨rfl,hb3⟩
    have HB3:=ae (Below.trans ((Below.refl _ wc).drew) hb3)
    have jy:Hid (w3.rangeAt w.heap.size 1 (aj r.key)∧w3.rangeAt cb (co+p*68) z.cells):=ae ⟨aO RY.out HB3.out Ot.out.lt,aO Xa.out HB3.out hcb⟩
    clear hb3
    refine hK.out _ _ jy.out (fun hH=>?_)
    clear hK K
    refine ax ?_
    refine aC 12 (.tuple #[.slice none 0 0,I 9]) 122 hH (fun W hW=>?_) ?_
    ·go_simp
    refine ax ?_
    refine aC 13 (.slice none 0 0) 135 hH (fun W hW=>?_) ?_
    ·go_simp
    refine ax ?_
    refine aC 14 (I 9) 136 hH (fun W hW=>?_) ?_
    ·go_simp
    refine ax ?_
    refine aC 15 (.slice none 0 0) 16 hH (fun W hW=>?_) ?_
    ·go_simp
    refine ax ?_
    refine aC 16 (I 9) 17 hH (fun W hW=>?_) ?_
    ·go_simp
    refine ax ?_
    clear hH
    refine wpAnyH_done (by kernel_rfl) ?_ _
    have mX:=ae (Ot.out.grow HB3.out)
    clear jy RY Xa Ry Y0 hud hki hkc hzi hpm
    go_wp2_with fail
    go_ret
    exact ⟨rfl,mX.out.lo⟩
end Go.Proofs.YtdibbemgpikgjaaGreatDoor
