/- The texts Lez, in this order. -/
import Derived.Test.YtdibbemgpikgjaaGreatDoorV00
import Derived.Test.YtdibbemgpikgjaaGreatDoorVA0
import Derived.Test.YtdibbemgpikgjaaGreatDoorV37
namespace Go.Proofs.YtdibbemgpikgjaaGreatDoor
open Go Go.RowKit
set_option maxRecDepth 10000 in
set_option maxHeartbeats 4000000 in
theorem X8 (x:DV) (vN:UInt8) (CA:Option Addr) (cc n:Nat) (ts:List di) (w:World) (hx:BF w w.heap.size x) (hn:ts.length=n) (hn0:n=0):
  Calls Tryz.prog 16 #[.slice CA n cc, .int .u8 (vN.toNat:Int), .agg x.cells] w (Ve w n vN x):=by
 obtain ⟨A,ic,vs,wd⟩:=x
 unfold DV.cells
 simp only at hx ⊢
 have hml:=hx.len
 obtain ⟨m,hm⟩:∃m,vs.length=m:=⟨_,rfl⟩
 simp only at hml
 rw [hm] at hml
 rw [hm]
 have hn4:n≤4:=by omega
 have HN0:=ae hn0
 have HX:=ae hx
 have HM:=ae hm
 have HN:=ae hn
 obtain ⟨ii,hii⟩:∃i:Int,(vN.toNat:Int)%16=i:=⟨_,rfl⟩
 have hiss:=dh vN
 have hit:Int.tmod (vN.toNat:Int) 16=ii:=by rw [Int.tmod_eq_emod_of_nonneg (by omega)];exact hii
 obtain ⟨wi,hwi⟩:∃i:Int,(wd.toNat:Int)%((n:Int)+1)=i:=⟨_,rfl⟩
 have hwt:Int.tmod (wd.toNat:Int) ((n:Int)+1)=wi:=by rw [Int.tmod_eq_emod_of_nonneg (by omega)];exact hwi
 have hwb:=dh wd
 have hi0:0≤ii:=by omega
 have hi1:ii<16:=by omega
 have hw0:0≤wi:=by rw [←hwi];exact Int.emod_nonneg _ (by omega)
 have hw1:wi<(n:Int)+1:=by rw [←hwi];exact Int.emod_lt_of_pos _ (by omega)
 have hne:¬(n:Int)+1=0:=by omega
 obtain ⟨T,hT⟩:∃T:Tb,⟨ii,(n:Int)+1,wi,aY,aY,[]⟩=T:=⟨_,rfl⟩
 have HT:=ae hT
 have eX:Hid ((Tryz.prog.info? 37).map (·.size)=some (ai T (.slice none 0 0)).size):=ae (by rw [←hT];exact bV _ _ rfl rfl)
 have CE:Hid ((ai bJ (.slice none 0 0)).size=(ai T (.slice none 0 0)).size):=ae (by rw [←hT];rw [bn _ _ rfl rfl,bn _ _ rfl rfl])
 have H0:=ae (nN.start w #[.slice A m ic,Extern.Stop.cell wd] T (ai bJ (.slice none 0 0)))
 have cwd:∀W:World,AV w.heap.size 50 #[.slice A m ic,Extern.Stop.cell wd] W→W.cell? ⟨w.heap.size,1,none⟩=some (.int .u8 (wd.toNat:Int)):=fun W h=>h.cell 1
 have CWD:=ae cwd
 have HII:=ae hii
 have HWI:=ae hwi
 clear hx hm hn hn0 hT cwd
 go_enter Tryz.func16,Tryz.ntmps16
 go_upto_region 1 with (first
  |((with_reducible refine bP 37 ?_);go_must (refine aJ rfl _ rfl (ai bJ (.slice none 0 0)) fC ?_)))
 have c1:((w.alloc (.cells #[.slice A m ic,Extern.Stop.cell wd] 50)).alloc (.cells (ai bJ (.slice none 0 0)) 37)).cell? ⟨w.heap.size,1,none⟩=some (.int .u8 (wd.toNat:Int)):=CWD.out _ ⟨heap_alloc2_old w _ _⟩
 have h3:(((w.alloc (.cells #[.slice A m ic,Extern.Stop.cell wd] 50)).alloc (.cells (ai bJ (.slice none 0 0)) 37)).alloc (.cells (ai bJ (.slice none 0 0)) 37)).heap[w.heap.size+2]? =some (.cells (ai bJ (.slice none 0 0)) 37 (0,0)):=by
  have h:=heap_alloc_last ((w.alloc (.cells #[.slice A m ic,Extern.Stop.cell wd] 50)).alloc (.cells (ai bJ (.slice none 0 0)) 37)) (.cells (ai bJ (.slice none 0 0)) 37)
  rw [show ((w.alloc (.cells #[.slice A m ic,Extern.Stop.cell wd] 50)).alloc (.cells (ai bJ (.slice none 0 0)) 37)).heap.size=w.heap.size+2 by simp] at h
  exact h
 have hsz2:((w.alloc (.cells #[.slice A m ic,Extern.Stop.cell wd] 50)).alloc (.cells (ai bJ (.slice none 0 0)) 37)).heap.size=w.heap.size+2:=by simp
 have H3:=ae h3
 have HS2:=ae hsz2
 clear h3 hsz2
 go_upto_block 0 with (first
  |((with_reducible refine bP 37 ?_);go_must (refine aJ rfl _ rfl (ai bJ (.slice none 0 0)) fC ?_))
  |((with_reducible refine iw 37 ?_);go_must (refine bY rfl _ rfl (ai T (.slice none 0 0)) (by rw [←HT.out];kernel_rfl) ?_))
  |((with_reducible refine gV 37 ?_);go_must (refine wpList_store_row rfl _ _ _ rfl (w.heap.size+2) (ai T (.slice none 0 0)) (congrArg (fun b=>Value.pointer (some ⟨b,0,none⟩)) HS2.out) rfl 37 (ai bJ (.slice none 0 0)) H3.out eX.out CE.out (bf _ _ _ _) ?_)))
 generalize (((w.alloc (.cells #[.slice A m ic,Extern.Stop.cell wd] 50)).alloc (.cells (ai bJ (.slice none 0 0)) 37)).alloc (.cells (ai bJ (.slice none 0 0)) 37)).setRow (w.heap.size+2) (ai T (.slice none 0 0))=W1 at H0 ⊢
 refine ax ?_
 (first|rw [HS2.out]|rw [show w.heap.size+1+1=w.heap.size+2 from rfl])
 clear c1 H3 HS2 hit hwt hii hwi eX CE
 go_cut [8] (fun _ wx=>∃k Az cz ys,k≤3∧ys.length=k∧ys.map (·.e)=sH vs∧nN w #[.slice A m ic,Extern.Stop.cell wd] T k Az cz ys wx)
 case first=>
  go_wp2_with fail
  go_loopw [8] (fun i wr=>∃k Az cz ys,k≤3∧k≤m∧i=I (k:Nat)∧ys.length=k∧ys.map (·.e)=(vs.take k).mapIdx (fun i v=>(⟨aT i,eu v.x⟩:Ze))∧nN w #[.slice A m ic,Extern.Stop.cell wd] T k Az cz ys wr) (fun i _=>3 - (intOf i).toNat)
  case atStart=>exact ⟨0,none,0,[],by omega,by omega,rfl,rfl,rfl,H0.out⟩
  case round=>
   clear H0
   obtain ⟨k,Az,cz,ys,hk3,TK,rfl,hyl,hye,hw⟩:=hrel
   have HX0:=ae hw
   have pg:=ae hyl
   have IZ:=ae hye
   clear hw hyl hye
   have ci0:wr.cell? ⟨w.heap.size,0,none⟩=some (.slice A m ic):=HX0.out.it.cell 0
   by_cases hlt:k<m∧k<3
   ·obtain ⟨hlm,hl3⟩:=hlt
    have i1:(k:Int)<(m:Int):=by omega
    have i2:(k:Int)<3:=by omega
    have hkv:k<vs.length:=by rw [HM.out];exact hlm
    obtain ⟨v,hv⟩:∃v,vs[k]? =some v:=⟨_,List.getElem?_eq_getElem hkv⟩
    obtain ⟨zb,zo,rfl,hzb,hcl⟩:=HX.out.row.there (by rw [show (vs.flatMap BG.cells).length=vs.length*14 from dZ BG.cells vs (fun _ _=>rfl)];omega)
    have HR:Hid (w.rangeAt zb (zo+k*14) v.cells):=ae (az.elem (s:=14) (f:=BG.cells) (fun _ _=>rfl) hcl k v hv)
    have mf:=ae (HX.out.each v (List.mem_of_getElem? hv))
    have HVK:=ae hv
    obtain ⟨Z,hZ⟩:∃Z,eu v.x=Z:=⟨_,rfl⟩
    have Ou:=ae hZ
    have eY:Hid (∀W,Below w.heap.size w W→Calls Tryz.prog 32 #[.agg (eP v.x v.G v.O v.gc v.oc)] W (KQ W Z)):=ae (fun W hb=>by
     have h:=Qr v.x v.G v.O v.gc v.oc W mf.out.gl mf.out.ol ((mf.out.g.keep hb).more hb.size) ((mf.out.o.keep hb).more hb.size)
     rw [Ou.out] at h
     exact h)
    obtain ⟨JB,hi1',hq0,hq1,hq2⟩:=info_parts vK
    have HI1:=ae hi1'
    have yt:=ae hq0
    have oJ:=ae hq1
    have lH:=ae hq2
    clear hv hkv hcl hi1' hq0 hq1 hq2 hZ
    have ww1:IntKind.i64.wrap (97+(k:Int))=97+(k:Int):=by rw [IntKind.wrap_i64];omega
    have ww2:IntKind.u8.wrap (97+(k:Int))=97+(k:Int):=by simp [IntKind.wrap,IntKind.bits,IntKind.signed];omega
    go_upto_block 1 with fail
    go_cut [8] (fun p wx=>p=I (k:Nat)∧∃Az2 cz2 s,nN w #[.slice (some ⟨zb,zo,none⟩) m ic,Extern.Stop.cell wd] T (k+1) Az2 cz2 (ys++ [(⟨⟨aT k,Z⟩,s⟩:cZ)]) wx)
    case first=>
     clear ci0
     go_upto_region 5 with fail
     have hS0:dJ w zb zo m ic k v wr.drew:=dJ.of HX0.out.drew.it HX0.out.drew.lo HR.out hzb
     refine wp_region_held_drew (S:=dJ w zb zo m ic k v) (by kernel_rfl) hS0 (fun _=>?_)
     have uF:=ae HX0.out.drew
     generalize wr.drew=V at uF hS0 ⊢
     refine aC 0 (.pointer (some ⟨w.heap.size+2,3,none⟩)) 34 hS0 (fun w' hSw=>?_) ?_
     ·obtain ⟨s0,_⟩:=hSw
      go_simp
     refine ax ?_
     refine aC 2 (I (k:Int)) 36 hS0 (fun w' hSw=>?_) ?_
     ·obtain ⟨s0,_⟩:=hSw
      go_simp
     refine ax ?_
     refine aC 3 (.int .i64 (97+(k:Int))) 37 hS0 (fun w' hSw=>?_) ?_
     ·obtain ⟨s0,_⟩:=hSw
      go_simp
     refine ax ?_
     refine aC 4 (.int .u8 (97+(k:Int))) 38 hS0 (fun w' hSw=>?_) ?_
     ·obtain ⟨s0,_⟩:=hSw
      go_simp
     refine ax ?_
     refine aC 8 (.pointer (some ⟨w.heap.size,0,none⟩)) 42 hS0 (fun w' hSw=>?_) ?_
     ·obtain ⟨s0,_⟩:=hSw
      go_simp
     refine ax ?_
     refine aC 10 (I (k:Int)) 44 hS0 (fun w' hSw=>?_) ?_
     ·obtain ⟨s0,_⟩:=hSw
      go_simp
     refine ax ?_
     refine aC 9 (.slice (some ⟨zb,zo,none⟩) m ic) 43 hS0 (fun w' hSw=>?_) ?_
     ·obtain ⟨s0,_⟩:=hSw
      go_simp
     refine ax ?_
     refine aC 11 (.pointer (some ⟨zb,zo+k*14,none⟩)) 45 hS0 (fun w' hSw=>?_) ?_
     ·obtain ⟨s0,_⟩:=hSw
      go_simp
     refine ax ?_
     refine aag 12 ( .agg (eP v.x v.G v.O v.gc v.oc)) 46 rfl rfl hS0 (yieldsIf_load_mid rfl 88 _ rfl zb (zo+k*14) rfl v.cells _ (fun _ h=>h.2) Tryz.underlying88 rfl (by kernel_rfl)) ?_
     refine ax ?_
     refine wpAnyH_ready (rs:= [1,5,13]) (by kernel_rfl) (by simp) ?_
     refine AllReadyH.cons rfl (fun K hK=>?_) (AllReadyH.cons rfl (fun K hK=>?_) (AllReadyH.cons rfl (fun K hK=>?_) AllReadyH.nil))
     ·have z3:V.cell? ⟨w.heap.size+2,3,none⟩=some (.slice Az k cz):=(uF.out.t.cell 3).trans (bC _ _)
      go_simp
      refine hK.out _ _ hS0 (fun _=>?_)
      clear hK K z3
      refine ax ?_
      refine jr 5 13 (fun K hK=>?_) (fun K hK=>?_)
      ·go_simp
       have xC:=ae (uF.out.grow (ag V (.cells #[.int .u8 (97+(k:Int))] 5)))
       have HB2:Hid ((V.alloc (.cells #[.int .u8 (97+(k:Int))] 5)).heap[V.heap.size]? =some (.cells #[.int .u8 (97+(k:Int))] 5 (0,0))):=ae (heap_alloc_last _ _)
       have hS2:dJ w zb zo m ic k v (V.alloc (.cells #[.int .u8 (97+(k:Int))] 5)):=dJ.of xC.out.it xC.out.lo HR.out hzb
       refine hK.out _ _ hS2 (fun _=>?_)
       clear hK K
       refine ax ?_
       generalize (V.alloc (.cells #[.int .u8 (97+(k:Int))] 5))=W2 at xC HB2 hS2 ⊢
       generalize V.heap.size=bb2 at HB2 ⊢
       refine jr 6 13 (fun K hK=>?_) (fun K hK=>?_)
       ·have hcv:=je W2 bb2 (97+(k:Int)) HB2.out
        go_simp
        refine hK.out _ _ hS2 (fun _=>?_)
        clear hK K hcv
        refine ax ?_
        refine aC 7 (.string (⟨#[122]⟩++⟨#[UInt8.ofNat (97+(k:Int)).toNat]⟩)) 41 hS2 (fun w' hSw=>?_) ?_
        ·obtain ⟨s0,_⟩:=hSw
         go_simp
        refine ax ?_
        rw [iC]
        refine aV 13 (fun K hK=>?_)
        go_simp
        refine (eY.out W2 xC.out.lo).mono ?_
        rintro e W4 ⟨s,rfl,hz4,hl4,hb4⟩
        have Ot:=ae (xC.out.grow hb4)
        have hS4:dJ w zb zo m ic k v W4:=dJ.of Ot.out.it Ot.out.lo HR.out hzb
        have KN:Hid (fG (w.heap.size+3) (.slice Az k cz) W4 s Z):=ae (fG.of hz4 hl4 xC.out.lt xC.out.nY)
        have HB4:=ae ((hb4.block _ (Array.getElem?_eq_some_iff.1 HB2.out).1).trans HB2.out)
        clear hz4 hl4 hb4
        refine hK.out _ _ hS4 (fun _=>?_)
        clear hK K
        refine ax ?_
        refine aag 14 ( .agg #[.string (aT k),I Z.cal.aK, .slice s.A Z.cal.au.length s.a,I Z.cal.bz, .slice s.B Z.cal.rules.length s.b,I Z.start, .slice s.C Z.trans.length s.c,I Z.hor, .slice s.D Z.aB.length s.d]) 48 rfl rfl hS4 (bQ rfl 90 _ rfl #[.string (aT k),I Z.cal.aK, .slice s.A Z.cal.au.length s.a,I Z.cal.bz, .slice s.B Z.cal.rules.length s.b,I Z.start, .slice s.C Z.trans.length s.c,I Z.hor, .slice s.D Z.aB.length s.d] (by kernel_rfl)) ?_
        refine ax ?_
        refine aV 15 (fun K hK=>?_)
        go_simp
        have jd:=ae (Ot.out.grow (ag W4 (.cells #[.string (aT k),I Z.cal.aK, .slice s.A Z.cal.au.length s.a,I Z.cal.bz, .slice s.B Z.cal.rules.length s.b,I Z.start, .slice s.C Z.trans.length s.c,I Z.hor, .slice s.D Z.aB.length s.d] 90)))
        have hS5:dJ w zb zo m ic k v (W4.alloc (.cells #[.string (aT k),I Z.cal.aK, .slice s.A Z.cal.au.length s.a,I Z.cal.bz, .slice s.B Z.cal.rules.length s.b,I Z.start, .slice s.C Z.trans.length s.c,I Z.hor, .slice s.D Z.aB.length s.d] 90)):=dJ.of jd.out.it jd.out.lo HR.out hzb
        refine hK.out _ _ hS5 (fun _=>?_)
        clear hK K
        refine ax ?_
        refine aV 16 (fun K hK=>?_)
        have tV:=Ot.out.lt
        refine step_append_lies _ (by rfl) _ _ _ (by rfl) (w.heap.size+3) 90 JB (.agg iV) 9 144 Tryz.underlying35 HI1.out yt.out oJ.out lH.out rfl (by omega) (.slice Az k cz) k (aQ ys) (by rfl) jd.out.own ⟨W4.heap.size,0,none⟩ 1 1 (⟨⟨aT k,Z⟩,s⟩:cZ).cells.toList (by rfl) rfl (bI _ _ _ _ rfl) (kG (⟨⟨aT k,Z⟩,s⟩:cZ)) (by omega) (by unfold maxLen;omega) (by omega) (by simp;omega) _ rfl ?_
        intro gg cap w6 hown6 hgrow6 dQ _
        obtain ⟨gu,kX,gy⟩:=Ot.out.mid _ hgrow6
        have hS6:dJ w zb zo m ic k v w6:=dJ.of gu gy HR.out hzb
        have gG:Hid (nN w #[.slice (some ⟨zb,zo,none⟩) m ic,Extern.Stop.cell wd] T (k+1) (some ⟨gg,0,none⟩) cap (ys++ [(⟨⟨aT k,Z⟩,s⟩:cZ)]) (w6.setCell ⟨w.heap.size+2,3,none⟩ (.slice (some ⟨gg,0,none⟩) (k+1) cap))):=ae (Ot.out.add KN.out rfl hown6 hgrow6 dQ)
        have wH:w6.cell? ⟨w.heap.size+2,3,none⟩=some (.slice Az k cz):=(kX.cell 3).trans (bC _ _)
        have f66:w6.frozen? ⟨w.heap.size+2,3,none⟩=false:=kX.dK 3
        clear hown6 hgrow6 dQ gu kX gy
        refine hK.out _ _ hS6 (fun _=>?_)
        clear hK K
        try simp only [Act.put,List.setIfInBounds_toArray]
        refine aC 17 (.pointer (some ⟨w.heap.size+2,3,none⟩)) 51 hS6 (fun w' hSw=>?_) ?_
        ·obtain ⟨s0,_⟩:=hSw
         go_simp
        try simp only [Act.put]
        refine aV 18 (fun K hK=>?_)
        go_simp
        have hS7:dJ w zb zo m ic k v (w6.setCell ⟨w.heap.size+2,3,none⟩ (.slice (some ⟨gg,0,none⟩) (k+1) cap)):=dJ.of gG.out.it gG.out.lo HR.out hzb
        refine hK.out _ _ hS7 (fun _=>?_)
        clear hK K
        refine wpAnyH_done (by kernel_rfl) ?_ _
        go_wp2_with fail
        go_meet
        exact ⟨rfl,some ⟨gg,0,none⟩,cap,s,gG.out⟩
       ·go_simp
        refine (eY.out W2 xC.out.lo).mono ?_
        rintro e W6 ⟨s,rfl,Di,hl6,hb6⟩
        have jo:=ae (xC.out.grow hb6)
        have hS6:dJ w zb zo m ic k v W6:=dJ.of jo.out.it jo.out.lo HR.out hzb
        have MK:Hid (fG (w.heap.size+3) (.slice Az k cz) W6 s Z):=ae (fG.of Di hl6 xC.out.lt xC.out.nY)
        have Ii:=ae ((hb6.block _ (Array.getElem?_eq_some_iff.1 HB2.out).1).trans HB2.out)
        clear Di hl6 hb6
        refine hK.out _ _ hS6 (fun _=>?_)
        clear hK K
        refine ax ?_
        refine aV 6 (fun K hK=>?_)
        have hcv:=je W6 bb2 (97+(k:Int)) Ii.out
        go_simp
        refine hK.out _ _ hS6 (fun _=>?_)
        clear hK K hcv
        refine ax ?_
        refine aC 7 (.string (⟨#[122]⟩++⟨#[UInt8.ofNat (97+(k:Int)).toNat]⟩)) 41 hS6 (fun w' hSw=>?_) ?_
        ·obtain ⟨s0,_⟩:=hSw
         go_simp
        refine ax ?_
        rw [iC]
        refine aag 14 ( .agg #[.string (aT k),I Z.cal.aK, .slice s.A Z.cal.au.length s.a,I Z.cal.bz, .slice s.B Z.cal.rules.length s.b,I Z.start, .slice s.C Z.trans.length s.c,I Z.hor, .slice s.D Z.aB.length s.d]) 48 rfl rfl hS6 (bQ rfl 90 _ rfl #[.string (aT k),I Z.cal.aK, .slice s.A Z.cal.au.length s.a,I Z.cal.bz, .slice s.B Z.cal.rules.length s.b,I Z.start, .slice s.C Z.trans.length s.c,I Z.hor, .slice s.D Z.aB.length s.d] (by kernel_rfl)) ?_
        refine ax ?_
        refine aV 15 (fun K hK=>?_)
        go_simp
        have jd:=ae (jo.out.grow (ag W6 (.cells #[.string (aT k),I Z.cal.aK, .slice s.A Z.cal.au.length s.a,I Z.cal.bz, .slice s.B Z.cal.rules.length s.b,I Z.start, .slice s.C Z.trans.length s.c,I Z.hor, .slice s.D Z.aB.length s.d] 90)))
        have hS8:dJ w zb zo m ic k v (W6.alloc (.cells #[.string (aT k),I Z.cal.aK, .slice s.A Z.cal.au.length s.a,I Z.cal.bz, .slice s.B Z.cal.rules.length s.b,I Z.start, .slice s.C Z.trans.length s.c,I Z.hor, .slice s.D Z.aB.length s.d] 90)):=dJ.of jd.out.it jd.out.lo HR.out hzb
        refine hK.out _ _ hS8 (fun _=>?_)
        clear hK K
        refine ax ?_
        refine aV 16 (fun K hK=>?_)
        have tV:=jo.out.lt
        refine step_append_lies _ (by rfl) _ _ _ (by rfl) (w.heap.size+3) 90 JB (.agg iV) 9 144 Tryz.underlying35 HI1.out yt.out oJ.out lH.out rfl (by omega) (.slice Az k cz) k (aQ ys) (by rfl) jd.out.own ⟨W6.heap.size,0,none⟩ 1 1 (⟨⟨aT k,Z⟩,s⟩:cZ).cells.toList (by rfl) rfl (bI _ _ _ _ rfl) (kG (⟨⟨aT k,Z⟩,s⟩:cZ)) (by omega) (by unfold maxLen;omega) (by omega) (by simp;omega) _ rfl ?_
        intro gg cap w6 hown6 hgrow6 dQ _
        obtain ⟨gu,kX,gy⟩:=jo.out.mid _ hgrow6
        have hS6:dJ w zb zo m ic k v w6:=dJ.of gu gy HR.out hzb
        have gG:Hid (nN w #[.slice (some ⟨zb,zo,none⟩) m ic,Extern.Stop.cell wd] T (k+1) (some ⟨gg,0,none⟩) cap (ys++ [(⟨⟨aT k,Z⟩,s⟩:cZ)]) (w6.setCell ⟨w.heap.size+2,3,none⟩ (.slice (some ⟨gg,0,none⟩) (k+1) cap))):=ae (jo.out.add MK.out rfl hown6 hgrow6 dQ)
        have wH:w6.cell? ⟨w.heap.size+2,3,none⟩=some (.slice Az k cz):=(kX.cell 3).trans (bC _ _)
        have f66:w6.frozen? ⟨w.heap.size+2,3,none⟩=false:=kX.dK 3
        clear hown6 hgrow6 dQ gu kX gy
        refine hK.out _ _ hS6 (fun _=>?_)
        clear hK K
        try simp only [Act.put,List.setIfInBounds_toArray]
        refine aC 17 (.pointer (some ⟨w.heap.size+2,3,none⟩)) 51 hS6 (fun w' hSw=>?_) ?_
        ·obtain ⟨s0,_⟩:=hSw
         go_simp
        try simp only [Act.put]
        refine aV 18 (fun K hK=>?_)
        go_simp
        have hS7:dJ w zb zo m ic k v (w6.setCell ⟨w.heap.size+2,3,none⟩ (.slice (some ⟨gg,0,none⟩) (k+1) cap)):=dJ.of gG.out.it gG.out.lo HR.out hzb
        refine hK.out _ _ hS7 (fun _=>?_)
        clear hK K
        refine wpAnyH_done (by kernel_rfl) ?_ _
        go_wp2_with fail
        go_meet
        exact ⟨rfl,some ⟨gg,0,none⟩,cap,s,gG.out⟩
      ·go_simp
       refine (eY.out V uF.out.lo).mono ?_
       rintro e W9 ⟨s,rfl,hz9,hl9,Gv⟩
       have rP:=ae (uF.out.grow Gv)
       have hS9:dJ w zb zo m ic k v W9:=dJ.of rP.out.it rP.out.lo HR.out hzb
       have HZ9:Hid (fG (w.heap.size+3) (.slice Az k cz) W9 s Z):=ae (fG.of hz9 hl9 uF.out.lt uF.out.nY)
       clear hz9 hl9 Gv
       refine hK.out _ _ hS9 (fun _=>?_)
       clear hK K
       refine ax ?_
       refine aV 5 (fun K hK=>?_)
       go_simp
       have IL:=ae (rP.out.grow (ag W9 (.cells #[.int .u8 (97+(k:Int))] 5)))
       have DI:Hid ((W9.alloc (.cells #[.int .u8 (97+(k:Int))] 5)).heap[W9.heap.size]? =some (.cells #[.int .u8 (97+(k:Int))] 5 (0,0))):=ae (heap_alloc_last _ _)
       have PV:dJ w zb zo m ic k v (W9.alloc (.cells #[.int .u8 (97+(k:Int))] 5)):=dJ.of IL.out.it IL.out.lo HR.out hzb
       have O0:=ae (HZ9.out.grow (ag W9 (.cells #[.int .u8 (97+(k:Int))] 5)))
       refine hK.out _ _ PV (fun _=>?_)
       clear hK K
       refine ax ?_
       generalize (W9.alloc (.cells #[.int .u8 (97+(k:Int))] 5))=FU at IL DI PV O0 ⊢
       generalize W9.heap.size=bb10 at DI ⊢
       refine aV 6 (fun K hK=>?_)
       have hcv:=je FU bb10 (97+(k:Int)) DI.out
       go_simp
       refine hK.out _ _ PV (fun _=>?_)
       clear hK K hcv
       refine ax ?_
       refine aC 7 (.string (⟨#[122]⟩++⟨#[UInt8.ofNat (97+(k:Int)).toNat]⟩)) 41 PV (fun w' hSw=>?_) ?_
       ·obtain ⟨s0,_⟩:=hSw
        go_simp
       refine ax ?_
       rw [iC]
       refine aag 14 ( .agg #[.string (aT k),I Z.cal.aK, .slice s.A Z.cal.au.length s.a,I Z.cal.bz, .slice s.B Z.cal.rules.length s.b,I Z.start, .slice s.C Z.trans.length s.c,I Z.hor, .slice s.D Z.aB.length s.d]) 48 rfl rfl PV (bQ rfl 90 _ rfl #[.string (aT k),I Z.cal.aK, .slice s.A Z.cal.au.length s.a,I Z.cal.bz, .slice s.B Z.cal.rules.length s.b,I Z.start, .slice s.C Z.trans.length s.c,I Z.hor, .slice s.D Z.aB.length s.d] (by kernel_rfl)) ?_
       refine ax ?_
       refine aV 15 (fun K hK=>?_)
       go_simp
       have jd:=ae (IL.out.grow (ag FU (.cells #[.string (aT k),I Z.cal.aK, .slice s.A Z.cal.au.length s.a,I Z.cal.bz, .slice s.B Z.cal.rules.length s.b,I Z.start, .slice s.C Z.trans.length s.c,I Z.hor, .slice s.D Z.aB.length s.d] 90)))
       have hS12:dJ w zb zo m ic k v (FU.alloc (.cells #[.string (aT k),I Z.cal.aK, .slice s.A Z.cal.au.length s.a,I Z.cal.bz, .slice s.B Z.cal.rules.length s.b,I Z.start, .slice s.C Z.trans.length s.c,I Z.hor, .slice s.D Z.aB.length s.d] 90)):=dJ.of jd.out.it jd.out.lo HR.out hzb
       refine hK.out _ _ hS12 (fun _=>?_)
       clear hK K
       refine ax ?_
       refine aV 16 (fun K hK=>?_)
       have tV:=IL.out.lt
       refine step_append_lies _ (by rfl) _ _ _ (by rfl) (w.heap.size+3) 90 JB (.agg iV) 9 144 Tryz.underlying35 HI1.out yt.out oJ.out lH.out rfl (by omega) (.slice Az k cz) k (aQ ys) (by rfl) jd.out.own ⟨FU.heap.size,0,none⟩ 1 1 (⟨⟨aT k,Z⟩,s⟩:cZ).cells.toList (by rfl) rfl (bI _ _ _ _ rfl) (kG (⟨⟨aT k,Z⟩,s⟩:cZ)) (by omega) (by unfold maxLen;omega) (by omega) (by simp;omega) _ rfl ?_
       intro gg cap w6 hown6 hgrow6 dQ _
       obtain ⟨gu,kX,gy⟩:=IL.out.mid _ hgrow6
       have hS6:dJ w zb zo m ic k v w6:=dJ.of gu gy HR.out hzb
       have gG:Hid (nN w #[.slice (some ⟨zb,zo,none⟩) m ic,Extern.Stop.cell wd] T (k+1) (some ⟨gg,0,none⟩) cap (ys++ [(⟨⟨aT k,Z⟩,s⟩:cZ)]) (w6.setCell ⟨w.heap.size+2,3,none⟩ (.slice (some ⟨gg,0,none⟩) (k+1) cap))):=ae (IL.out.add O0.out rfl hown6 hgrow6 dQ)
       have wH:w6.cell? ⟨w.heap.size+2,3,none⟩=some (.slice Az k cz):=(kX.cell 3).trans (bC _ _)
       have f66:w6.frozen? ⟨w.heap.size+2,3,none⟩=false:=kX.dK 3
       clear hown6 hgrow6 dQ gu kX gy
       refine hK.out _ _ hS6 (fun _=>?_)
       clear hK K
       try simp only [Act.put,List.setIfInBounds_toArray]
       refine aC 17 (.pointer (some ⟨w.heap.size+2,3,none⟩)) 51 hS6 (fun w' hSw=>?_) ?_
       ·obtain ⟨s0,_⟩:=hSw
        go_simp
       try simp only [Act.put]
       refine aV 18 (fun K hK=>?_)
       go_simp
       have hS7:dJ w zb zo m ic k v (w6.setCell ⟨w.heap.size+2,3,none⟩ (.slice (some ⟨gg,0,none⟩) (k+1) cap)):=dJ.of gG.out.it gG.out.lo HR.out hzb
       refine hK.out _ _ hS7 (fun _=>?_)
       clear hK K
       refine wpAnyH_done (by kernel_rfl) ?_ _
       go_wp2_with fail
       go_meet
       exact ⟨rfl,some ⟨gg,0,none⟩,cap,s,gG.out⟩
     ·go_simp
      have mO:=ae (uF.out.grow (ag V (.cells #[.int .u8 (97+(k:Int))] 5)))
      have rC:Hid ((V.alloc (.cells #[.int .u8 (97+(k:Int))] 5)).heap[V.heap.size]? =some (.cells #[.int .u8 (97+(k:Int))] 5 (0,0))):=ae (heap_alloc_last _ _)
      have Gu:dJ w zb zo m ic k v (V.alloc (.cells #[.int .u8 (97+(k:Int))] 5)):=dJ.of mO.out.it mO.out.lo HR.out hzb
      refine hK.out _ _ Gu (fun _=>?_)
      clear hK K
      refine ax ?_
      generalize (V.alloc (.cells #[.int .u8 (97+(k:Int))] 5))=SN at mO rC Gu ⊢
      generalize V.heap.size=Po at rC ⊢
      refine wpAnyH_ready (rs:= [1,6,13]) (by kernel_rfl) (by simp) ?_
      refine AllReadyH.cons rfl (fun K hK=>?_) (AllReadyH.cons rfl (fun K hK=>?_) (AllReadyH.cons rfl (fun K hK=>?_) AllReadyH.nil))
      ·have z3:SN.cell? ⟨w.heap.size+2,3,none⟩=some (.slice Az k cz):=(mO.out.t.cell 3).trans (bC _ _)
       go_simp
       refine hK.out _ _ Gu (fun _=>?_)
       clear hK K z3
       refine ax ?_
       refine jr 6 13 (fun K hK=>?_) (fun K hK=>?_)
       ·have hcv:=je SN Po (97+(k:Int)) rC.out
        go_simp
        refine hK.out _ _ Gu (fun _=>?_)
        clear hK K hcv
        refine ax ?_
        refine aC 7 (.string (⟨#[122]⟩++⟨#[UInt8.ofNat (97+(k:Int)).toNat]⟩)) 41 Gu (fun w' hSw=>?_) ?_
        ·obtain ⟨s0,_⟩:=hSw
         go_simp
        refine ax ?_
        rw [iC]
        refine aV 13 (fun K hK=>?_)
        go_simp
        refine (eY.out SN mO.out.lo).mono ?_
        rintro e W16 ⟨s,rfl,hz16,hl16,hb16⟩
        have MG:=ae (mO.out.grow hb16)
        have hS16:dJ w zb zo m ic k v W16:=dJ.of MG.out.it MG.out.lo HR.out hzb
        have HZ16:Hid (fG (w.heap.size+3) (.slice Az k cz) W16 s Z):=ae (fG.of hz16 hl16 mO.out.lt mO.out.nY)
        have HB16:=ae ((hb16.block _ (Array.getElem?_eq_some_iff.1 rC.out).1).trans rC.out)
        clear hz16 hl16 hb16
        refine hK.out _ _ hS16 (fun _=>?_)
        clear hK K
        refine ax ?_
        refine aag 14 ( .agg #[.string (aT k),I Z.cal.aK, .slice s.A Z.cal.au.length s.a,I Z.cal.bz, .slice s.B Z.cal.rules.length s.b,I Z.start, .slice s.C Z.trans.length s.c,I Z.hor, .slice s.D Z.aB.length s.d]) 48 rfl rfl hS16 (bQ rfl 90 _ rfl #[.string (aT k),I Z.cal.aK, .slice s.A Z.cal.au.length s.a,I Z.cal.bz, .slice s.B Z.cal.rules.length s.b,I Z.start, .slice s.C Z.trans.length s.c,I Z.hor, .slice s.D Z.aB.length s.d] (by kernel_rfl)) ?_
        refine ax ?_
        refine aV 15 (fun K hK=>?_)
        go_simp
        have jd:=ae (MG.out.grow (ag W16 (.cells #[.string (aT k),I Z.cal.aK, .slice s.A Z.cal.au.length s.a,I Z.cal.bz, .slice s.B Z.cal.rules.length s.b,I Z.start, .slice s.C Z.trans.length s.c,I Z.hor, .slice s.D Z.aB.length s.d] 90)))
        have hS17:dJ w zb zo m ic k v (W16.alloc (.cells #[.string (aT k),I Z.cal.aK, .slice s.A Z.cal.au.length s.a,I Z.cal.bz, .slice s.B Z.cal.rules.length s.b,I Z.start, .slice s.C Z.trans.length s.c,I Z.hor, .slice s.D Z.aB.length s.d] 90)):=dJ.of jd.out.it jd.out.lo HR.out hzb
        refine hK.out _ _ hS17 (fun _=>?_)
        clear hK K
        refine ax ?_
        refine aV 16 (fun K hK=>?_)
        have tV:=MG.out.lt
        refine step_append_lies _ (by rfl) _ _ _ (by rfl) (w.heap.size+3) 90 JB (.agg iV) 9 144 Tryz.underlying35 HI1.out yt.out oJ.out lH.out rfl (by omega) (.slice Az k cz) k (aQ ys) (by rfl) jd.out.own ⟨W16.heap.size,0,none⟩ 1 1 (⟨⟨aT k,Z⟩,s⟩:cZ).cells.toList (by rfl) rfl (bI _ _ _ _ rfl) (kG (⟨⟨aT k,Z⟩,s⟩:cZ)) (by omega) (by unfold maxLen;omega) (by omega) (by simp;omega) _ rfl ?_
        intro gg cap w6 hown6 hgrow6 dQ _
        obtain ⟨gu,kX,gy⟩:=MG.out.mid _ hgrow6
        have hS6:dJ w zb zo m ic k v w6:=dJ.of gu gy HR.out hzb
        have gG:Hid (nN w #[.slice (some ⟨zb,zo,none⟩) m ic,Extern.Stop.cell wd] T (k+1) (some ⟨gg,0,none⟩) cap (ys++ [(⟨⟨aT k,Z⟩,s⟩:cZ)]) (w6.setCell ⟨w.heap.size+2,3,none⟩ (.slice (some ⟨gg,0,none⟩) (k+1) cap))):=ae (MG.out.add HZ16.out rfl hown6 hgrow6 dQ)
        have wH:w6.cell? ⟨w.heap.size+2,3,none⟩=some (.slice Az k cz):=(kX.cell 3).trans (bC _ _)
        have f66:w6.frozen? ⟨w.heap.size+2,3,none⟩=false:=kX.dK 3
        clear hown6 hgrow6 dQ gu kX gy
        refine hK.out _ _ hS6 (fun _=>?_)
        clear hK K
        try simp only [Act.put,List.setIfInBounds_toArray]
        refine aC 17 (.pointer (some ⟨w.heap.size+2,3,none⟩)) 51 hS6 (fun w' hSw=>?_) ?_
        ·obtain ⟨s0,_⟩:=hSw
         go_simp
        try simp only [Act.put]
        refine aV 18 (fun K hK=>?_)
        go_simp
        have hS7:dJ w zb zo m ic k v (w6.setCell ⟨w.heap.size+2,3,none⟩ (.slice (some ⟨gg,0,none⟩) (k+1) cap)):=dJ.of gG.out.it gG.out.lo HR.out hzb
        refine hK.out _ _ hS7 (fun _=>?_)
        clear hK K
        refine wpAnyH_done (by kernel_rfl) ?_ _
        go_wp2_with fail
        go_meet
        exact ⟨rfl,some ⟨gg,0,none⟩,cap,s,gG.out⟩
       ·go_simp
        refine (eY.out SN mO.out.lo).mono ?_
        rintro e YF ⟨s,rfl,hz18,hl18,Xz⟩
        have MH:=ae (mO.out.grow Xz)
        have TC:dJ w zb zo m ic k v YF:=dJ.of MH.out.it MH.out.lo HR.out hzb
        have HZ18:Hid (fG (w.heap.size+3) (.slice Az k cz) YF s Z):=ae (fG.of hz18 hl18 mO.out.lt mO.out.nY)
        have HB18:=ae ((Xz.block _ (Array.getElem?_eq_some_iff.1 rC.out).1).trans rC.out)
        clear hz18 hl18 Xz
        refine hK.out _ _ TC (fun _=>?_)
        clear hK K
        refine ax ?_
        refine aV 6 (fun K hK=>?_)
        have hcv:=je YF Po (97+(k:Int)) HB18.out
        go_simp
        refine hK.out _ _ TC (fun _=>?_)
        clear hK K hcv
        refine ax ?_
        refine aC 7 (.string (⟨#[122]⟩++⟨#[UInt8.ofNat (97+(k:Int)).toNat]⟩)) 41 TC (fun w' hSw=>?_) ?_
        ·obtain ⟨s0,_⟩:=hSw
         go_simp
        refine ax ?_
        rw [iC]
        refine aag 14 ( .agg #[.string (aT k),I Z.cal.aK, .slice s.A Z.cal.au.length s.a,I Z.cal.bz, .slice s.B Z.cal.rules.length s.b,I Z.start, .slice s.C Z.trans.length s.c,I Z.hor, .slice s.D Z.aB.length s.d]) 48 rfl rfl TC (bQ rfl 90 _ rfl #[.string (aT k),I Z.cal.aK, .slice s.A Z.cal.au.length s.a,I Z.cal.bz, .slice s.B Z.cal.rules.length s.b,I Z.start, .slice s.C Z.trans.length s.c,I Z.hor, .slice s.D Z.aB.length s.d] (by kernel_rfl)) ?_
        refine ax ?_
        refine aV 15 (fun K hK=>?_)
        go_simp
        have jd:=ae (MH.out.grow (ag YF (.cells #[.string (aT k),I Z.cal.aK, .slice s.A Z.cal.au.length s.a,I Z.cal.bz, .slice s.B Z.cal.rules.length s.b,I Z.start, .slice s.C Z.trans.length s.c,I Z.hor, .slice s.D Z.aB.length s.d] 90)))
        have hS20:dJ w zb zo m ic k v (YF.alloc (.cells #[.string (aT k),I Z.cal.aK, .slice s.A Z.cal.au.length s.a,I Z.cal.bz, .slice s.B Z.cal.rules.length s.b,I Z.start, .slice s.C Z.trans.length s.c,I Z.hor, .slice s.D Z.aB.length s.d] 90)):=dJ.of jd.out.it jd.out.lo HR.out hzb
        refine hK.out _ _ hS20 (fun _=>?_)
        clear hK K
        refine ax ?_
        refine aV 16 (fun K hK=>?_)
        have tV:=MH.out.lt
        refine step_append_lies _ (by rfl) _ _ _ (by rfl) (w.heap.size+3) 90 JB (.agg iV) 9 144 Tryz.underlying35 HI1.out yt.out oJ.out lH.out rfl (by omega) (.slice Az k cz) k (aQ ys) (by rfl) jd.out.own ⟨YF.heap.size,0,none⟩ 1 1 (⟨⟨aT k,Z⟩,s⟩:cZ).cells.toList (by rfl) rfl (bI _ _ _ _ rfl) (kG (⟨⟨aT k,Z⟩,s⟩:cZ)) (by omega) (by unfold maxLen;omega) (by omega) (by simp;omega) _ rfl ?_
        intro gg cap w6 hown6 hgrow6 dQ _
        obtain ⟨gu,kX,gy⟩:=MH.out.mid _ hgrow6
        have hS6:dJ w zb zo m ic k v w6:=dJ.of gu gy HR.out hzb
        have gG:Hid (nN w #[.slice (some ⟨zb,zo,none⟩) m ic,Extern.Stop.cell wd] T (k+1) (some ⟨gg,0,none⟩) cap (ys++ [(⟨⟨aT k,Z⟩,s⟩:cZ)]) (w6.setCell ⟨w.heap.size+2,3,none⟩ (.slice (some ⟨gg,0,none⟩) (k+1) cap))):=ae (MH.out.add HZ18.out rfl hown6 hgrow6 dQ)
        have wH:w6.cell? ⟨w.heap.size+2,3,none⟩=some (.slice Az k cz):=(kX.cell 3).trans (bC _ _)
        have f66:w6.frozen? ⟨w.heap.size+2,3,none⟩=false:=kX.dK 3
        clear hown6 hgrow6 dQ gu kX gy
        refine hK.out _ _ hS6 (fun _=>?_)
        clear hK K
        try simp only [Act.put,List.setIfInBounds_toArray]
        refine aC 17 (.pointer (some ⟨w.heap.size+2,3,none⟩)) 51 hS6 (fun w' hSw=>?_) ?_
        ·obtain ⟨s0,_⟩:=hSw
         go_simp
        try simp only [Act.put]
        refine aV 18 (fun K hK=>?_)
        go_simp
        have hS7:dJ w zb zo m ic k v (w6.setCell ⟨w.heap.size+2,3,none⟩ (.slice (some ⟨gg,0,none⟩) (k+1) cap)):=dJ.of gG.out.it gG.out.lo HR.out hzb
        refine hK.out _ _ hS7 (fun _=>?_)
        clear hK K
        refine wpAnyH_done (by kernel_rfl) ?_ _
        go_wp2_with fail
        go_meet
        exact ⟨rfl,some ⟨gg,0,none⟩,cap,s,gG.out⟩
      ·have hcv:=je SN Po (97+(k:Int)) rC.out
       go_simp
       refine hK.out _ _ Gu (fun _=>?_)
       clear hK K hcv
       refine ax ?_
       refine aC 7 (.string (⟨#[122]⟩++⟨#[UInt8.ofNat (97+(k:Int)).toNat]⟩)) 41 Gu (fun w' hSw=>?_) ?_
       ·obtain ⟨s0,_⟩:=hSw
        go_simp
       refine ax ?_
       rw [iC]
       refine jr 1 13 (fun K hK=>?_) (fun K hK=>?_)
       ·have z3:SN.cell? ⟨w.heap.size+2,3,none⟩=some (.slice Az k cz):=(mO.out.t.cell 3).trans (bC _ _)
        go_simp
        refine hK.out _ _ Gu (fun _=>?_)
        clear hK K z3
        refine ax ?_
        refine aV 13 (fun K hK=>?_)
        go_simp
        refine (eY.out SN mO.out.lo).mono ?_
        rintro e W23 ⟨s,rfl,hz23,hl23,XA⟩
        have MI:=ae (mO.out.grow XA)
        have hS23:dJ w zb zo m ic k v W23:=dJ.of MI.out.it MI.out.lo HR.out hzb
        have HZ23:Hid (fG (w.heap.size+3) (.slice Az k cz) W23 s Z):=ae (fG.of hz23 hl23 mO.out.lt mO.out.nY)
        have HB23:=ae ((XA.block _ (Array.getElem?_eq_some_iff.1 rC.out).1).trans rC.out)
        clear hz23 hl23 XA
        refine hK.out _ _ hS23 (fun _=>?_)
        clear hK K
        refine ax ?_
        refine aag 14 ( .agg #[.string (aT k),I Z.cal.aK, .slice s.A Z.cal.au.length s.a,I Z.cal.bz, .slice s.B Z.cal.rules.length s.b,I Z.start, .slice s.C Z.trans.length s.c,I Z.hor, .slice s.D Z.aB.length s.d]) 48 rfl rfl hS23 (bQ rfl 90 _ rfl #[.string (aT k),I Z.cal.aK, .slice s.A Z.cal.au.length s.a,I Z.cal.bz, .slice s.B Z.cal.rules.length s.b,I Z.start, .slice s.C Z.trans.length s.c,I Z.hor, .slice s.D Z.aB.length s.d] (by kernel_rfl)) ?_
        refine ax ?_
        refine aV 15 (fun K hK=>?_)
        go_simp
        have jd:=ae (MI.out.grow (ag W23 (.cells #[.string (aT k),I Z.cal.aK, .slice s.A Z.cal.au.length s.a,I Z.cal.bz, .slice s.B Z.cal.rules.length s.b,I Z.start, .slice s.C Z.trans.length s.c,I Z.hor, .slice s.D Z.aB.length s.d] 90)))
        have hS24:dJ w zb zo m ic k v (W23.alloc (.cells #[.string (aT k),I Z.cal.aK, .slice s.A Z.cal.au.length s.a,I Z.cal.bz, .slice s.B Z.cal.rules.length s.b,I Z.start, .slice s.C Z.trans.length s.c,I Z.hor, .slice s.D Z.aB.length s.d] 90)):=dJ.of jd.out.it jd.out.lo HR.out hzb
        refine hK.out _ _ hS24 (fun _=>?_)
        clear hK K
        refine ax ?_
        refine aV 16 (fun K hK=>?_)
        have tV:=MI.out.lt
        refine step_append_lies _ (by rfl) _ _ _ (by rfl) (w.heap.size+3) 90 JB (.agg iV) 9 144 Tryz.underlying35 HI1.out yt.out oJ.out lH.out rfl (by omega) (.slice Az k cz) k (aQ ys) (by rfl) jd.out.own ⟨W23.heap.size,0,none⟩ 1 1 (⟨⟨aT k,Z⟩,s⟩:cZ).cells.toList (by rfl) rfl (bI _ _ _ _ rfl) (kG (⟨⟨aT k,Z⟩,s⟩:cZ)) (by omega) (by unfold maxLen;omega) (by omega) (by simp;omega) _ rfl ?_
        intro gg cap w6 hown6 hgrow6 dQ _
        obtain ⟨gu,kX,gy⟩:=MI.out.mid _ hgrow6
        have hS6:dJ w zb zo m ic k v w6:=dJ.of gu gy HR.out hzb
        have gG:Hid (nN w #[.slice (some ⟨zb,zo,none⟩) m ic,Extern.Stop.cell wd] T (k+1) (some ⟨gg,0,none⟩) cap (ys++ [(⟨⟨aT k,Z⟩,s⟩:cZ)]) (w6.setCell ⟨w.heap.size+2,3,none⟩ (.slice (some ⟨gg,0,none⟩) (k+1) cap))):=ae (MI.out.add HZ23.out rfl hown6 hgrow6 dQ)
        have wH:w6.cell? ⟨w.heap.size+2,3,none⟩=some (.slice Az k cz):=(kX.cell 3).trans (bC _ _)
        have f66:w6.frozen? ⟨w.heap.size+2,3,none⟩=false:=kX.dK 3
        clear hown6 hgrow6 dQ gu kX gy
        refine hK.out _ _ hS6 (fun _=>?_)
        clear hK K
        try simp only [Act.put,List.setIfInBounds_toArray]
        refine aC 17 (.pointer (some ⟨w.heap.size+2,3,none⟩)) 51 hS6 (fun w' hSw=>?_) ?_
        ·obtain ⟨s0,_⟩:=hSw
         go_simp
        try simp only [Act.put]
        refine aV 18 (fun K hK=>?_)
        go_simp
        have hS7:dJ w zb zo m ic k v (w6.setCell ⟨w.heap.size+2,3,none⟩ (.slice (some ⟨gg,0,none⟩) (k+1) cap)):=dJ.of gG.out.it gG.out.lo HR.out hzb
        refine hK.out _ _ hS7 (fun _=>?_)
        clear hK K
        refine wpAnyH_done (by kernel_rfl) ?_ _
        go_wp2_with fail
        go_meet
        exact ⟨rfl,some ⟨gg,0,none⟩,cap,s,gG.out⟩
       ·go_simp
        refine (eY.out SN mO.out.lo).mono ?_
        rintro e RD ⟨s,rfl,hz25,hl25,XB⟩
        have zu:=ae (mO.out.grow XB)
        have Xp:dJ w zb zo m ic k v RD:=dJ.of zu.out.it zu.out.lo HR.out hzb
        have HZ25:Hid (fG (w.heap.size+3) (.slice Az k cz) RD s Z):=ae (fG.of hz25 hl25 mO.out.lt mO.out.nY)
        have HB25:=ae ((XB.block _ (Array.getElem?_eq_some_iff.1 rC.out).1).trans rC.out)
        clear hz25 hl25 XB
        refine hK.out _ _ Xp (fun _=>?_)
        clear hK K
        refine ax ?_
        refine aag 14 ( .agg #[.string (aT k),I Z.cal.aK, .slice s.A Z.cal.au.length s.a,I Z.cal.bz, .slice s.B Z.cal.rules.length s.b,I Z.start, .slice s.C Z.trans.length s.c,I Z.hor, .slice s.D Z.aB.length s.d]) 48 rfl rfl Xp (bQ rfl 90 _ rfl #[.string (aT k),I Z.cal.aK, .slice s.A Z.cal.au.length s.a,I Z.cal.bz, .slice s.B Z.cal.rules.length s.b,I Z.start, .slice s.C Z.trans.length s.c,I Z.hor, .slice s.D Z.aB.length s.d] (by kernel_rfl)) ?_
        refine ax ?_
        refine jr 1 15 (fun K hK=>?_) (fun K hK=>?_)
        ·have z3:RD.cell? ⟨w.heap.size+2,3,none⟩=some (.slice Az k cz):=(zu.out.t.cell 3).trans (bC _ _)
         go_simp
         refine hK.out _ _ Xp (fun _=>?_)
         clear hK K z3
         refine ax ?_
         refine aV 15 (fun K hK=>?_)
         go_simp
         have jd:=ae (zu.out.grow (ag RD (.cells #[.string (aT k),I Z.cal.aK, .slice s.A Z.cal.au.length s.a,I Z.cal.bz, .slice s.B Z.cal.rules.length s.b,I Z.start, .slice s.C Z.trans.length s.c,I Z.hor, .slice s.D Z.aB.length s.d] 90)))
         have hS27:dJ w zb zo m ic k v (RD.alloc (.cells #[.string (aT k),I Z.cal.aK, .slice s.A Z.cal.au.length s.a,I Z.cal.bz, .slice s.B Z.cal.rules.length s.b,I Z.start, .slice s.C Z.trans.length s.c,I Z.hor, .slice s.D Z.aB.length s.d] 90)):=dJ.of jd.out.it jd.out.lo HR.out hzb
         refine hK.out _ _ hS27 (fun _=>?_)
         clear hK K
         refine ax ?_
         refine aV 16 (fun K hK=>?_)
         have tV:=zu.out.lt
         refine step_append_lies _ (by rfl) _ _ _ (by rfl) (w.heap.size+3) 90 JB (.agg iV) 9 144 Tryz.underlying35 HI1.out yt.out oJ.out lH.out rfl (by omega) (.slice Az k cz) k (aQ ys) (by rfl) jd.out.own ⟨RD.heap.size,0,none⟩ 1 1 (⟨⟨aT k,Z⟩,s⟩:cZ).cells.toList (by rfl) rfl (bI _ _ _ _ rfl) (kG (⟨⟨aT k,Z⟩,s⟩:cZ)) (by omega) (by unfold maxLen;omega) (by omega) (by simp;omega) _ rfl ?_
         intro gg cap w6 hown6 hgrow6 dQ _
         obtain ⟨gu,kX,gy⟩:=zu.out.mid _ hgrow6
         have hS6:dJ w zb zo m ic k v w6:=dJ.of gu gy HR.out hzb
         have gG:Hid (nN w #[.slice (some ⟨zb,zo,none⟩) m ic,Extern.Stop.cell wd] T (k+1) (some ⟨gg,0,none⟩) cap (ys++ [(⟨⟨aT k,Z⟩,s⟩:cZ)]) (w6.setCell ⟨w.heap.size+2,3,none⟩ (.slice (some ⟨gg,0,none⟩) (k+1) cap))):=ae (zu.out.add HZ25.out rfl hown6 hgrow6 dQ)
         have wH:w6.cell? ⟨w.heap.size+2,3,none⟩=some (.slice Az k cz):=(kX.cell 3).trans (bC _ _)
         have f66:w6.frozen? ⟨w.heap.size+2,3,none⟩=false:=kX.dK 3
         clear hown6 hgrow6 dQ gu kX gy
         refine hK.out _ _ hS6 (fun _=>?_)
         clear hK K
         try simp only [Act.put,List.setIfInBounds_toArray]
         refine aC 17 (.pointer (some ⟨w.heap.size+2,3,none⟩)) 51 hS6 (fun w' hSw=>?_) ?_
         ·obtain ⟨s0,_⟩:=hSw
          go_simp
         try simp only [Act.put]
         refine aV 18 (fun K hK=>?_)
         go_simp
         have hS7:dJ w zb zo m ic k v (w6.setCell ⟨w.heap.size+2,3,none⟩ (.slice (some ⟨gg,0,none⟩) (k+1) cap)):=dJ.of gG.out.it gG.out.lo HR.out hzb
         refine hK.out _ _ hS7 (fun _=>?_)
         clear hK K
         refine wpAnyH_done (by kernel_rfl) ?_ _
         go_wp2_with fail
         go_meet
         exact ⟨rfl,some ⟨gg,0,none⟩,cap,s,gG.out⟩
        ·go_simp
         have jd:=ae (zu.out.grow (ag RD (.cells #[.string (aT k),I Z.cal.aK, .slice s.A Z.cal.au.length s.a,I Z.cal.bz, .slice s.B Z.cal.rules.length s.b,I Z.start, .slice s.C Z.trans.length s.c,I Z.hor, .slice s.D Z.aB.length s.d] 90)))
         have hS28:dJ w zb zo m ic k v (RD.alloc (.cells #[.string (aT k),I Z.cal.aK, .slice s.A Z.cal.au.length s.a,I Z.cal.bz, .slice s.B Z.cal.rules.length s.b,I Z.start, .slice s.C Z.trans.length s.c,I Z.hor, .slice s.D Z.aB.length s.d] 90)):=dJ.of jd.out.it jd.out.lo HR.out hzb
         refine hK.out _ _ hS28 (fun _=>?_)
         clear hK K
         refine ax ?_
         refine aV 1 (fun K hK=>?_)
         have z3:(RD.alloc (.cells #[.string (aT k),I Z.cal.aK, .slice s.A Z.cal.au.length s.a,I Z.cal.bz, .slice s.B Z.cal.rules.length s.b,I Z.start, .slice s.C Z.trans.length s.c,I Z.hor, .slice s.D Z.aB.length s.d] 90)).cell? ⟨w.heap.size+2,3,none⟩=some (.slice Az k cz):=(jd.out.t.cell 3).trans (bC _ _)
         go_simp
         refine hK.out _ _ hS28 (fun _=>?_)
         clear hK K z3
         refine ax ?_
         refine aV 16 (fun K hK=>?_)
         have tV:=zu.out.lt
         refine step_append_lies _ (by rfl) _ _ _ (by rfl) (w.heap.size+3) 90 JB (.agg iV) 9 144 Tryz.underlying35 HI1.out yt.out oJ.out lH.out rfl (by omega) (.slice Az k cz) k (aQ ys) (by rfl) jd.out.own ⟨RD.heap.size,0,none⟩ 1 1 (⟨⟨aT k,Z⟩,s⟩:cZ).cells.toList (by rfl) rfl (bI _ _ _ _ rfl) (kG (⟨⟨aT k,Z⟩,s⟩:cZ)) (by omega) (by unfold maxLen;omega) (by omega) (by simp;omega) _ rfl ?_
         intro gg cap w6 hown6 hgrow6 dQ _
         obtain ⟨gu,kX,gy⟩:=zu.out.mid _ hgrow6
         have hS6:dJ w zb zo m ic k v w6:=dJ.of gu gy HR.out hzb
         have gG:Hid (nN w #[.slice (some ⟨zb,zo,none⟩) m ic,Extern.Stop.cell wd] T (k+1) (some ⟨gg,0,none⟩) cap (ys++ [(⟨⟨aT k,Z⟩,s⟩:cZ)]) (w6.setCell ⟨w.heap.size+2,3,none⟩ (.slice (some ⟨gg,0,none⟩) (k+1) cap))):=ae (zu.out.add HZ25.out rfl hown6 hgrow6 dQ)
         have wH:w6.cell? ⟨w.heap.size+2,3,none⟩=some (.slice Az k cz):=(kX.cell 3).trans (bC _ _)
         have f66:w6.frozen? ⟨w.heap.size+2,3,none⟩=false:=kX.dK 3
         clear hown6 hgrow6 dQ gu kX gy
         refine hK.out _ _ hS6 (fun _=>?_)
         clear hK K
         try simp only [Act.put,List.setIfInBounds_toArray]
         refine aC 17 (.pointer (some ⟨w.heap.size+2,3,none⟩)) 51 hS6 (fun w' hSw=>?_) ?_
         ·obtain ⟨s0,_⟩:=hSw
          go_simp
         try simp only [Act.put]
         refine aV 18 (fun K hK=>?_)
         go_simp
         have hS7:dJ w zb zo m ic k v (w6.setCell ⟨w.heap.size+2,3,none⟩ (.slice (some ⟨gg,0,none⟩) (k+1) cap)):=dJ.of gG.out.it gG.out.lo HR.out hzb
         refine hK.out _ _ hS7 (fun _=>?_)
         clear hK K
         refine wpAnyH_done (by kernel_rfl) ?_ _
         go_wp2_with fail
         go_meet
         exact ⟨rfl,some ⟨gg,0,none⟩,cap,s,gG.out⟩
      ·go_simp
       refine (eY.out SN mO.out.lo).mono ?_
       rintro e Ir ⟨s,rfl,hz30,hl30,XC⟩
       have tK:=ae (mO.out.grow XC)
       have Eh:dJ w zb zo m ic k v Ir:=dJ.of tK.out.it tK.out.lo HR.out hzb
       have WY:Hid (fG (w.heap.size+3) (.slice Az k cz) Ir s Z):=ae (fG.of hz30 hl30 mO.out.lt mO.out.nY)
       have Y2:=ae ((XC.block _ (Array.getElem?_eq_some_iff.1 rC.out).1).trans rC.out)
       clear hz30 hl30 XC
       refine hK.out _ _ Eh (fun _=>?_)
       clear hK K
       refine ax ?_
       refine jr 1 6 (fun K hK=>?_) (fun K hK=>?_)
       ·have z3:Ir.cell? ⟨w.heap.size+2,3,none⟩=some (.slice Az k cz):=(tK.out.t.cell 3).trans (bC _ _)
        go_simp
        refine hK.out _ _ Eh (fun _=>?_)
        clear hK K z3
        refine ax ?_
        refine aV 6 (fun K hK=>?_)
        have hcv:=je Ir Po (97+(k:Int)) Y2.out
        go_simp
        refine hK.out _ _ Eh (fun _=>?_)
        clear hK K hcv
        refine ax ?_
        refine aC 7 (.string (⟨#[122]⟩++⟨#[UInt8.ofNat (97+(k:Int)).toNat]⟩)) 41 Eh (fun w' hSw=>?_) ?_
        ·obtain ⟨s0,_⟩:=hSw
         go_simp
        refine ax ?_
        rw [iC]
        refine aag 14 ( .agg #[.string (aT k),I Z.cal.aK, .slice s.A Z.cal.au.length s.a,I Z.cal.bz, .slice s.B Z.cal.rules.length s.b,I Z.start, .slice s.C Z.trans.length s.c,I Z.hor, .slice s.D Z.aB.length s.d]) 48 rfl rfl Eh (bQ rfl 90 _ rfl #[.string (aT k),I Z.cal.aK, .slice s.A Z.cal.au.length s.a,I Z.cal.bz, .slice s.B Z.cal.rules.length s.b,I Z.start, .slice s.C Z.trans.length s.c,I Z.hor, .slice s.D Z.aB.length s.d] (by kernel_rfl)) ?_
        refine ax ?_
        refine aV 15 (fun K hK=>?_)
        go_simp
        have jd:=ae (tK.out.grow (ag Ir (.cells #[.string (aT k),I Z.cal.aK, .slice s.A Z.cal.au.length s.a,I Z.cal.bz, .slice s.B Z.cal.rules.length s.b,I Z.start, .slice s.C Z.trans.length s.c,I Z.hor, .slice s.D Z.aB.length s.d] 90)))
        have hS33:dJ w zb zo m ic k v (Ir.alloc (.cells #[.string (aT k),I Z.cal.aK, .slice s.A Z.cal.au.length s.a,I Z.cal.bz, .slice s.B Z.cal.rules.length s.b,I Z.start, .slice s.C Z.trans.length s.c,I Z.hor, .slice s.D Z.aB.length s.d] 90)):=dJ.of jd.out.it jd.out.lo HR.out hzb
        refine hK.out _ _ hS33 (fun _=>?_)
        clear hK K
        refine ax ?_
        refine aV 16 (fun K hK=>?_)
        have tV:=tK.out.lt
        refine step_append_lies _ (by rfl) _ _ _ (by rfl) (w.heap.size+3) 90 JB (.agg iV) 9 144 Tryz.underlying35 HI1.out yt.out oJ.out lH.out rfl (by omega) (.slice Az k cz) k (aQ ys) (by rfl) jd.out.own ⟨Ir.heap.size,0,none⟩ 1 1 (⟨⟨aT k,Z⟩,s⟩:cZ).cells.toList (by rfl) rfl (bI _ _ _ _ rfl) (kG (⟨⟨aT k,Z⟩,s⟩:cZ)) (by omega) (by unfold maxLen;omega) (by omega) (by simp;omega) _ rfl ?_
        intro gg cap w6 hown6 hgrow6 dQ _
        obtain ⟨gu,kX,gy⟩:=tK.out.mid _ hgrow6
        have hS6:dJ w zb zo m ic k v w6:=dJ.of gu gy HR.out hzb
        have gG:Hid (nN w #[.slice (some ⟨zb,zo,none⟩) m ic,Extern.Stop.cell wd] T (k+1) (some ⟨gg,0,none⟩) cap (ys++ [(⟨⟨aT k,Z⟩,s⟩:cZ)]) (w6.setCell ⟨w.heap.size+2,3,none⟩ (.slice (some ⟨gg,0,none⟩) (k+1) cap))):=ae (tK.out.add WY.out rfl hown6 hgrow6 dQ)
        have wH:w6.cell? ⟨w.heap.size+2,3,none⟩=some (.slice Az k cz):=(kX.cell 3).trans (bC _ _)
        have f66:w6.frozen? ⟨w.heap.size+2,3,none⟩=false:=kX.dK 3
        clear hown6 hgrow6 dQ gu kX gy
        refine hK.out _ _ hS6 (fun _=>?_)
        clear hK K
        try simp only [Act.put,List.setIfInBounds_toArray]
        refine aC 17 (.pointer (some ⟨w.heap.size+2,3,none⟩)) 51 hS6 (fun w' hSw=>?_) ?_
        ·obtain ⟨s0,_⟩:=hSw
         go_simp
        try simp only [Act.put]
        refine aV 18 (fun K hK=>?_)
        go_simp
        have hS7:dJ w zb zo m ic k v (w6.setCell ⟨w.heap.size+2,3,none⟩ (.slice (some ⟨gg,0,none⟩) (k+1) cap)):=dJ.of gG.out.it gG.out.lo HR.out hzb
        refine hK.out _ _ hS7 (fun _=>?_)
        clear hK K
        refine wpAnyH_done (by kernel_rfl) ?_ _
        go_wp2_with fail
        go_meet
        exact ⟨rfl,some ⟨gg,0,none⟩,cap,s,gG.out⟩
       ·have hcv:=je Ir Po (97+(k:Int)) Y2.out
        go_simp
        refine hK.out _ _ Eh (fun _=>?_)
        clear hK K hcv
        refine ax ?_
        refine aC 7 (.string (⟨#[122]⟩++⟨#[UInt8.ofNat (97+(k:Int)).toNat]⟩)) 41 Eh (fun w' hSw=>?_) ?_
        ·obtain ⟨s0,_⟩:=hSw
         go_simp
        refine ax ?_
        rw [iC]
        refine aag 14 ( .agg #[.string (aT k),I Z.cal.aK, .slice s.A Z.cal.au.length s.a,I Z.cal.bz, .slice s.B Z.cal.rules.length s.b,I Z.start, .slice s.C Z.trans.length s.c,I Z.hor, .slice s.D Z.aB.length s.d]) 48 rfl rfl Eh (bQ rfl 90 _ rfl #[.string (aT k),I Z.cal.aK, .slice s.A Z.cal.au.length s.a,I Z.cal.bz, .slice s.B Z.cal.rules.length s.b,I Z.start, .slice s.C Z.trans.length s.c,I Z.hor, .slice s.D Z.aB.length s.d] (by kernel_rfl)) ?_
        refine ax ?_
        refine jr 1 15 (fun K hK=>?_) (fun K hK=>?_)
        ·have z3:Ir.cell? ⟨w.heap.size+2,3,none⟩=some (.slice Az k cz):=(tK.out.t.cell 3).trans (bC _ _)
         go_simp
         refine hK.out _ _ Eh (fun _=>?_)
         clear hK K z3
         refine ax ?_
         refine aV 15 (fun K hK=>?_)
         go_simp
         have jd:=ae (tK.out.grow (ag Ir (.cells #[.string (aT k),I Z.cal.aK, .slice s.A Z.cal.au.length s.a,I Z.cal.bz, .slice s.B Z.cal.rules.length s.b,I Z.start, .slice s.C Z.trans.length s.c,I Z.hor, .slice s.D Z.aB.length s.d] 90)))
         have hS36:dJ w zb zo m ic k v (Ir.alloc (.cells #[.string (aT k),I Z.cal.aK, .slice s.A Z.cal.au.length s.a,I Z.cal.bz, .slice s.B Z.cal.rules.length s.b,I Z.start, .slice s.C Z.trans.length s.c,I Z.hor, .slice s.D Z.aB.length s.d] 90)):=dJ.of jd.out.it jd.out.lo HR.out hzb
         refine hK.out _ _ hS36 (fun _=>?_)
         clear hK K
         refine ax ?_
         refine aV 16 (fun K hK=>?_)
         have tV:=tK.out.lt
         refine step_append_lies _ (by rfl) _ _ _ (by rfl) (w.heap.size+3) 90 JB (.agg iV) 9 144 Tryz.underlying35 HI1.out yt.out oJ.out lH.out rfl (by omega) (.slice Az k cz) k (aQ ys) (by rfl) jd.out.own ⟨Ir.heap.size,0,none⟩ 1 1 (⟨⟨aT k,Z⟩,s⟩:cZ).cells.toList (by rfl) rfl (bI _ _ _ _ rfl) (kG (⟨⟨aT k,Z⟩,s⟩:cZ)) (by omega) (by unfold maxLen;omega) (by omega) (by simp;omega) _ rfl ?_
         intro gg cap w6 hown6 hgrow6 dQ _
         obtain ⟨gu,kX,gy⟩:=tK.out.mid _ hgrow6
         have hS6:dJ w zb zo m ic k v w6:=dJ.of gu gy HR.out hzb
         have gG:Hid (nN w #[.slice (some ⟨zb,zo,none⟩) m ic,Extern.Stop.cell wd] T (k+1) (some ⟨gg,0,none⟩) cap (ys++ [(⟨⟨aT k,Z⟩,s⟩:cZ)]) (w6.setCell ⟨w.heap.size+2,3,none⟩ (.slice (some ⟨gg,0,none⟩) (k+1) cap))):=ae (tK.out.add WY.out rfl hown6 hgrow6 dQ)
         have wH:w6.cell? ⟨w.heap.size+2,3,none⟩=some (.slice Az k cz):=(kX.cell 3).trans (bC _ _)
         have f66:w6.frozen? ⟨w.heap.size+2,3,none⟩=false:=kX.dK 3
         clear hown6 hgrow6 dQ gu kX gy
         refine hK.out _ _ hS6 (fun _=>?_)
         clear hK K
         try simp only [Act.put,List.setIfInBounds_toArray]
         refine aC 17 (.pointer (some ⟨w.heap.size+2,3,none⟩)) 51 hS6 (fun w' hSw=>?_) ?_
         ·obtain ⟨s0,_⟩:=hSw
          go_simp
         try simp only [Act.put]
         refine aV 18 (fun K hK=>?_)
         go_simp
         have hS7:dJ w zb zo m ic k v (w6.setCell ⟨w.heap.size+2,3,none⟩ (.slice (some ⟨gg,0,none⟩) (k+1) cap)):=dJ.of gG.out.it gG.out.lo HR.out hzb
         refine hK.out _ _ hS7 (fun _=>?_)
         clear hK K
         refine wpAnyH_done (by kernel_rfl) ?_ _
         go_wp2_with fail
         go_meet
         exact ⟨rfl,some ⟨gg,0,none⟩,cap,s,gG.out⟩
        ·go_simp
         have jd:=ae (tK.out.grow (ag Ir (.cells #[.string (aT k),I Z.cal.aK, .slice s.A Z.cal.au.length s.a,I Z.cal.bz, .slice s.B Z.cal.rules.length s.b,I Z.start, .slice s.C Z.trans.length s.c,I Z.hor, .slice s.D Z.aB.length s.d] 90)))
         have hS37:dJ w zb zo m ic k v (Ir.alloc (.cells #[.string (aT k),I Z.cal.aK, .slice s.A Z.cal.au.length s.a,I Z.cal.bz, .slice s.B Z.cal.rules.length s.b,I Z.start, .slice s.C Z.trans.length s.c,I Z.hor, .slice s.D Z.aB.length s.d] 90)):=dJ.of jd.out.it jd.out.lo HR.out hzb
         refine hK.out _ _ hS37 (fun _=>?_)
         clear hK K
         refine ax ?_
         refine aV 1 (fun K hK=>?_)
         have z3:(Ir.alloc (.cells #[.string (aT k),I Z.cal.aK, .slice s.A Z.cal.au.length s.a,I Z.cal.bz, .slice s.B Z.cal.rules.length s.b,I Z.start, .slice s.C Z.trans.length s.c,I Z.hor, .slice s.D Z.aB.length s.d] 90)).cell? ⟨w.heap.size+2,3,none⟩=some (.slice Az k cz):=(jd.out.t.cell 3).trans (bC _ _)
         go_simp
         refine hK.out _ _ hS37 (fun _=>?_)
         clear hK K z3
         refine ax ?_
         refine aV 16 (fun K hK=>?_)
         have tV:=tK.out.lt
         refine step_append_lies _ (by rfl) _ _ _ (by rfl) (w.heap.size+3) 90 JB (.agg iV) 9 144 Tryz.underlying35 HI1.out yt.out oJ.out lH.out rfl (by omega) (.slice Az k cz) k (aQ ys) (by rfl) jd.out.own ⟨Ir.heap.size,0,none⟩ 1 1 (⟨⟨aT k,Z⟩,s⟩:cZ).cells.toList (by rfl) rfl (bI _ _ _ _ rfl) (kG (⟨⟨aT k,Z⟩,s⟩:cZ)) (by omega) (by unfold maxLen;omega) (by omega) (by simp;omega) _ rfl ?_
         intro gg cap w6 hown6 hgrow6 dQ _
         obtain ⟨gu,kX,gy⟩:=tK.out.mid _ hgrow6
         have hS6:dJ w zb zo m ic k v w6:=dJ.of gu gy HR.out hzb
         have gG:Hid (nN w #[.slice (some ⟨zb,zo,none⟩) m ic,Extern.Stop.cell wd] T (k+1) (some ⟨gg,0,none⟩) cap (ys++ [(⟨⟨aT k,Z⟩,s⟩:cZ)]) (w6.setCell ⟨w.heap.size+2,3,none⟩ (.slice (some ⟨gg,0,none⟩) (k+1) cap))):=ae (tK.out.add WY.out rfl hown6 hgrow6 dQ)
         have wH:w6.cell? ⟨w.heap.size+2,3,none⟩=some (.slice Az k cz):=(kX.cell 3).trans (bC _ _)
         have f66:w6.frozen? ⟨w.heap.size+2,3,none⟩=false:=kX.dK 3
         clear hown6 hgrow6 dQ gu kX gy
         refine hK.out _ _ hS6 (fun _=>?_)
         clear hK K
         try simp only [Act.put,List.setIfInBounds_toArray]
         refine aC 17 (.pointer (some ⟨w.heap.size+2,3,none⟩)) 51 hS6 (fun w' hSw=>?_) ?_
         ·obtain ⟨s0,_⟩:=hSw
          go_simp
         try simp only [Act.put]
         refine aV 18 (fun K hK=>?_)
         go_simp
         have hS7:dJ w zb zo m ic k v (w6.setCell ⟨w.heap.size+2,3,none⟩ (.slice (some ⟨gg,0,none⟩) (k+1) cap)):=dJ.of gG.out.it gG.out.lo HR.out hzb
         refine hK.out _ _ hS7 (fun _=>?_)
         clear hK K
         refine wpAnyH_done (by kernel_rfl) ?_ _
         go_wp2_with fail
         go_meet
         exact ⟨rfl,some ⟨gg,0,none⟩,cap,s,gG.out⟩
     ·go_simp
      refine (eY.out V uF.out.lo).mono ?_
      rintro e FV ⟨s,rfl,hz39,hl39,hb39⟩
      have OZ:=ae (uF.out.grow hb39)
      have hS39:dJ w zb zo m ic k v FV:=dJ.of OZ.out.it OZ.out.lo HR.out hzb
      have HZ39:Hid (fG (w.heap.size+3) (.slice Az k cz) FV s Z):=ae (fG.of hz39 hl39 uF.out.lt uF.out.nY)
      clear hz39 hl39 hb39
      refine hK.out _ _ hS39 (fun _=>?_)
      clear hK K
      refine ax ?_
      refine jr 1 5 (fun K hK=>?_) (fun K hK=>?_)
      ·have z3:FV.cell? ⟨w.heap.size+2,3,none⟩=some (.slice Az k cz):=(OZ.out.t.cell 3).trans (bC _ _)
       go_simp
       refine hK.out _ _ hS39 (fun _=>?_)
       clear hK K z3
       refine ax ?_
       refine aV 5 (fun K hK=>?_)
       go_simp
       have IX:=ae (OZ.out.grow (ag FV (.cells #[.int .u8 (97+(k:Int))] 5)))
       have VJ:Hid ((FV.alloc (.cells #[.int .u8 (97+(k:Int))] 5)).heap[FV.heap.size]? =some (.cells #[.int .u8 (97+(k:Int))] 5 (0,0))):=ae (heap_alloc_last _ _)
       have PW:dJ w zb zo m ic k v (FV.alloc (.cells #[.int .u8 (97+(k:Int))] 5)):=dJ.of IX.out.it IX.out.lo HR.out hzb
       have HZ41:=ae (HZ39.out.grow (ag FV (.cells #[.int .u8 (97+(k:Int))] 5)))
       refine hK.out _ _ PW (fun _=>?_)
       clear hK K
       refine ax ?_
       generalize (FV.alloc (.cells #[.int .u8 (97+(k:Int))] 5))=W41 at IX VJ PW HZ41 ⊢
       generalize FV.heap.size=bb41 at VJ ⊢
       refine aV 6 (fun K hK=>?_)
       have hcv:=je W41 bb41 (97+(k:Int)) VJ.out
       go_simp
       refine hK.out _ _ PW (fun _=>?_)
       clear hK K hcv
       refine ax ?_
       refine aC 7 (.string (⟨#[122]⟩++⟨#[UInt8.ofNat (97+(k:Int)).toNat]⟩)) 41 PW (fun w' hSw=>?_) ?_
       ·obtain ⟨s0,_⟩:=hSw
        go_simp
       refine ax ?_
       rw [iC]
       refine aag 14 ( .agg #[.string (aT k),I Z.cal.aK, .slice s.A Z.cal.au.length s.a,I Z.cal.bz, .slice s.B Z.cal.rules.length s.b,I Z.start, .slice s.C Z.trans.length s.c,I Z.hor, .slice s.D Z.aB.length s.d]) 48 rfl rfl PW (bQ rfl 90 _ rfl #[.string (aT k),I Z.cal.aK, .slice s.A Z.cal.au.length s.a,I Z.cal.bz, .slice s.B Z.cal.rules.length s.b,I Z.start, .slice s.C Z.trans.length s.c,I Z.hor, .slice s.D Z.aB.length s.d] (by kernel_rfl)) ?_
       refine ax ?_
       refine aV 15 (fun K hK=>?_)
       go_simp
       have jd:=ae (IX.out.grow (ag W41 (.cells #[.string (aT k),I Z.cal.aK, .slice s.A Z.cal.au.length s.a,I Z.cal.bz, .slice s.B Z.cal.rules.length s.b,I Z.start, .slice s.C Z.trans.length s.c,I Z.hor, .slice s.D Z.aB.length s.d] 90)))
       have hS43:dJ w zb zo m ic k v (W41.alloc (.cells #[.string (aT k),I Z.cal.aK, .slice s.A Z.cal.au.length s.a,I Z.cal.bz, .slice s.B Z.cal.rules.length s.b,I Z.start, .slice s.C Z.trans.length s.c,I Z.hor, .slice s.D Z.aB.length s.d] 90)):=dJ.of jd.out.it jd.out.lo HR.out hzb
       refine hK.out _ _ hS43 (fun _=>?_)
       clear hK K
       refine ax ?_
       refine aV 16 (fun K hK=>?_)
       have tV:=IX.out.lt
       refine step_append_lies _ (by rfl) _ _ _ (by rfl) (w.heap.size+3) 90 JB (.agg iV) 9 144 Tryz.underlying35 HI1.out yt.out oJ.out lH.out rfl (by omega) (.slice Az k cz) k (aQ ys) (by rfl) jd.out.own ⟨W41.heap.size,0,none⟩ 1 1 (⟨⟨aT k,Z⟩,s⟩:cZ).cells.toList (by rfl) rfl (bI _ _ _ _ rfl) (kG (⟨⟨aT k,Z⟩,s⟩:cZ)) (by omega) (by unfold maxLen;omega) (by omega) (by simp;omega) _ rfl ?_
       intro gg cap w6 hown6 hgrow6 dQ _
       obtain ⟨gu,kX,gy⟩:=IX.out.mid _ hgrow6
       have hS6:dJ w zb zo m ic k v w6:=dJ.of gu gy HR.out hzb
       have gG:Hid (nN w #[.slice (some ⟨zb,zo,none⟩) m ic,Extern.Stop.cell wd] T (k+1) (some ⟨gg,0,none⟩) cap (ys++ [(⟨⟨aT k,Z⟩,s⟩:cZ)]) (w6.setCell ⟨w.heap.size+2,3,none⟩ (.slice (some ⟨gg,0,none⟩) (k+1) cap))):=ae (IX.out.add HZ41.out rfl hown6 hgrow6 dQ)
       have wH:w6.cell? ⟨w.heap.size+2,3,none⟩=some (.slice Az k cz):=(kX.cell 3).trans (bC _ _)
       have f66:w6.frozen? ⟨w.heap.size+2,3,none⟩=false:=kX.dK 3
       clear hown6 hgrow6 dQ gu kX gy
       refine hK.out _ _ hS6 (fun _=>?_)
       clear hK K
       try simp only [Act.put,List.setIfInBounds_toArray]
       refine aC 17 (.pointer (some ⟨w.heap.size+2,3,none⟩)) 51 hS6 (fun w' hSw=>?_) ?_
       ·obtain ⟨s0,_⟩:=hSw
        go_simp
       try simp only [Act.put]
       refine aV 18 (fun K hK=>?_)
       go_simp
       have hS7:dJ w zb zo m ic k v (w6.setCell ⟨w.heap.size+2,3,none⟩ (.slice (some ⟨gg,0,none⟩) (k+1) cap)):=dJ.of gG.out.it gG.out.lo HR.out hzb
       refine hK.out _ _ hS7 (fun _=>?_)
       clear hK K
       refine wpAnyH_done (by kernel_rfl) ?_ _
       go_wp2_with fail
       go_meet
       exact ⟨rfl,some ⟨gg,0,none⟩,cap,s,gG.out⟩
      ·go_simp
       have rO:=ae (OZ.out.grow (ag FV (.cells #[.int .u8 (97+(k:Int))] 5)))
       have RQ:Hid ((FV.alloc (.cells #[.int .u8 (97+(k:Int))] 5)).heap[FV.heap.size]? =some (.cells #[.int .u8 (97+(k:Int))] 5 (0,0))):=ae (heap_alloc_last _ _)
       have BN:dJ w zb zo m ic k v (FV.alloc (.cells #[.int .u8 (97+(k:Int))] 5)):=dJ.of rO.out.it rO.out.lo HR.out hzb
       have SI:=ae (HZ39.out.grow (ag FV (.cells #[.int .u8 (97+(k:Int))] 5)))
       refine hK.out _ _ BN (fun _=>?_)
       clear hK K
       refine ax ?_
       generalize (FV.alloc (.cells #[.int .u8 (97+(k:Int))] 5))=KY at rO RQ BN SI ⊢
       generalize FV.heap.size=bb44 at RQ ⊢
       refine jr 1 6 (fun K hK=>?_) (fun K hK=>?_)
       ·have z3:KY.cell? ⟨w.heap.size+2,3,none⟩=some (.slice Az k cz):=(rO.out.t.cell 3).trans (bC _ _)
        go_simp
        refine hK.out _ _ BN (fun _=>?_)
        clear hK K z3
        refine ax ?_
        refine aV 6 (fun K hK=>?_)
        have hcv:=je KY bb44 (97+(k:Int)) RQ.out
        go_simp
        refine hK.out _ _ BN (fun _=>?_)
        clear hK K hcv
        refine ax ?_
        refine aC 7 (.string (⟨#[122]⟩++⟨#[UInt8.ofNat (97+(k:Int)).toNat]⟩)) 41 BN (fun w' hSw=>?_) ?_
        ·obtain ⟨s0,_⟩:=hSw
         go_simp
        refine ax ?_
        rw [iC]
        refine aag 14 ( .agg #[.string (aT k),I Z.cal.aK, .slice s.A Z.cal.au.length s.a,I Z.cal.bz, .slice s.B Z.cal.rules.length s.b,I Z.start, .slice s.C Z.trans.length s.c,I Z.hor, .slice s.D Z.aB.length s.d]) 48 rfl rfl BN (bQ rfl 90 _ rfl #[.string (aT k),I Z.cal.aK, .slice s.A Z.cal.au.length s.a,I Z.cal.bz, .slice s.B Z.cal.rules.length s.b,I Z.start, .slice s.C Z.trans.length s.c,I Z.hor, .slice s.D Z.aB.length s.d] (by kernel_rfl)) ?_
        refine ax ?_
        refine aV 15 (fun K hK=>?_)
        go_simp
        have jd:=ae (rO.out.grow (ag KY (.cells #[.string (aT k),I Z.cal.aK, .slice s.A Z.cal.au.length s.a,I Z.cal.bz, .slice s.B Z.cal.rules.length s.b,I Z.start, .slice s.C Z.trans.length s.c,I Z.hor, .slice s.D Z.aB.length s.d] 90)))
        have hS47:dJ w zb zo m ic k v (KY.alloc (.cells #[.string (aT k),I Z.cal.aK, .slice s.A Z.cal.au.length s.a,I Z.cal.bz, .slice s.B Z.cal.rules.length s.b,I Z.start, .slice s.C Z.trans.length s.c,I Z.hor, .slice s.D Z.aB.length s.d] 90)):=dJ.of jd.out.it jd.out.lo HR.out hzb
        refine hK.out _ _ hS47 (fun _=>?_)
        clear hK K
        refine ax ?_
        refine aV 16 (fun K hK=>?_)
        have tV:=rO.out.lt
        refine step_append_lies _ (by rfl) _ _ _ (by rfl) (w.heap.size+3) 90 JB (.agg iV) 9 144 Tryz.underlying35 HI1.out yt.out oJ.out lH.out rfl (by omega) (.slice Az k cz) k (aQ ys) (by rfl) jd.out.own ⟨KY.heap.size,0,none⟩ 1 1 (⟨⟨aT k,Z⟩,s⟩:cZ).cells.toList (by rfl) rfl (bI _ _ _ _ rfl) (kG (⟨⟨aT k,Z⟩,s⟩:cZ)) (by omega) (by unfold maxLen;omega) (by omega) (by simp;omega) _ rfl ?_
        intro gg cap w6 hown6 hgrow6 dQ _
        obtain ⟨gu,kX,gy⟩:=rO.out.mid _ hgrow6
        have hS6:dJ w zb zo m ic k v w6:=dJ.of gu gy HR.out hzb
        have gG:Hid (nN w #[.slice (some ⟨zb,zo,none⟩) m ic,Extern.Stop.cell wd] T (k+1) (some ⟨gg,0,none⟩) cap (ys++ [(⟨⟨aT k,Z⟩,s⟩:cZ)]) (w6.setCell ⟨w.heap.size+2,3,none⟩ (.slice (some ⟨gg,0,none⟩) (k+1) cap))):=ae (rO.out.add SI.out rfl hown6 hgrow6 dQ)
        have wH:w6.cell? ⟨w.heap.size+2,3,none⟩=some (.slice Az k cz):=(kX.cell 3).trans (bC _ _)
        have f66:w6.frozen? ⟨w.heap.size+2,3,none⟩=false:=kX.dK 3
        clear hown6 hgrow6 dQ gu kX gy
        refine hK.out _ _ hS6 (fun _=>?_)
        clear hK K
        try simp only [Act.put,List.setIfInBounds_toArray]
        refine aC 17 (.pointer (some ⟨w.heap.size+2,3,none⟩)) 51 hS6 (fun w' hSw=>?_) ?_
        ·obtain ⟨s0,_⟩:=hSw
         go_simp
        try simp only [Act.put]
        refine aV 18 (fun K hK=>?_)
        go_simp
        have hS7:dJ w zb zo m ic k v (w6.setCell ⟨w.heap.size+2,3,none⟩ (.slice (some ⟨gg,0,none⟩) (k+1) cap)):=dJ.of gG.out.it gG.out.lo HR.out hzb
        refine hK.out _ _ hS7 (fun _=>?_)
        clear hK K
        refine wpAnyH_done (by kernel_rfl) ?_ _
        go_wp2_with fail
        go_meet
        exact ⟨rfl,some ⟨gg,0,none⟩,cap,s,gG.out⟩
       ·have hcv:=je KY bb44 (97+(k:Int)) RQ.out
        go_simp
        refine hK.out _ _ BN (fun _=>?_)
        clear hK K hcv
        refine ax ?_
        refine aC 7 (.string (⟨#[122]⟩++⟨#[UInt8.ofNat (97+(k:Int)).toNat]⟩)) 41 BN (fun w' hSw=>?_) ?_
        ·obtain ⟨s0,_⟩:=hSw
         go_simp
        refine ax ?_
        rw [iC]
        refine aag 14 ( .agg #[.string (aT k),I Z.cal.aK, .slice s.A Z.cal.au.length s.a,I Z.cal.bz, .slice s.B Z.cal.rules.length s.b,I Z.start, .slice s.C Z.trans.length s.c,I Z.hor, .slice s.D Z.aB.length s.d]) 48 rfl rfl BN (bQ rfl 90 _ rfl #[.string (aT k),I Z.cal.aK, .slice s.A Z.cal.au.length s.a,I Z.cal.bz, .slice s.B Z.cal.rules.length s.b,I Z.start, .slice s.C Z.trans.length s.c,I Z.hor, .slice s.D Z.aB.length s.d] (by kernel_rfl)) ?_
        refine ax ?_
        refine jr 1 15 (fun K hK=>?_) (fun K hK=>?_)
        ·have z3:KY.cell? ⟨w.heap.size+2,3,none⟩=some (.slice Az k cz):=(rO.out.t.cell 3).trans (bC _ _)
         go_simp
         refine hK.out _ _ BN (fun _=>?_)
         clear hK K z3
         refine ax ?_
         refine aV 15 (fun K hK=>?_)
         go_simp
         have jd:=ae (rO.out.grow (ag KY (.cells #[.string (aT k),I Z.cal.aK, .slice s.A Z.cal.au.length s.a,I Z.cal.bz, .slice s.B Z.cal.rules.length s.b,I Z.start, .slice s.C Z.trans.length s.c,I Z.hor, .slice s.D Z.aB.length s.d] 90)))
         have hS50:dJ w zb zo m ic k v (KY.alloc (.cells #[.string (aT k),I Z.cal.aK, .slice s.A Z.cal.au.length s.a,I Z.cal.bz, .slice s.B Z.cal.rules.length s.b,I Z.start, .slice s.C Z.trans.length s.c,I Z.hor, .slice s.D Z.aB.length s.d] 90)):=dJ.of jd.out.it jd.out.lo HR.out hzb
         refine hK.out _ _ hS50 (fun _=>?_)
         clear hK K
         refine ax ?_
         refine aV 16 (fun K hK=>?_)
         have tV:=rO.out.lt
         refine step_append_lies _ (by rfl) _ _ _ (by rfl) (w.heap.size+3) 90 JB (.agg iV) 9 144 Tryz.underlying35 HI1.out yt.out oJ.out lH.out rfl (by omega) (.slice Az k cz) k (aQ ys) (by rfl) jd.out.own ⟨KY.heap.size,0,none⟩ 1 1 (⟨⟨aT k,Z⟩,s⟩:cZ).cells.toList (by rfl) rfl (bI _ _ _ _ rfl) (kG (⟨⟨aT k,Z⟩,s⟩:cZ)) (by omega) (by unfold maxLen;omega) (by omega) (by simp;omega) _ rfl ?_
         intro gg cap w6 hown6 hgrow6 dQ _
         obtain ⟨gu,kX,gy⟩:=rO.out.mid _ hgrow6
         have hS6:dJ w zb zo m ic k v w6:=dJ.of gu gy HR.out hzb
         have gG:Hid (nN w #[.slice (some ⟨zb,zo,none⟩) m ic,Extern.Stop.cell wd] T (k+1) (some ⟨gg,0,none⟩) cap (ys++ [(⟨⟨aT k,Z⟩,s⟩:cZ)]) (w6.setCell ⟨w.heap.size+2,3,none⟩ (.slice (some ⟨gg,0,none⟩) (k+1) cap))):=ae (rO.out.add SI.out rfl hown6 hgrow6 dQ)
         have wH:w6.cell? ⟨w.heap.size+2,3,none⟩=some (.slice Az k cz):=(kX.cell 3).trans (bC _ _)
         have f66:w6.frozen? ⟨w.heap.size+2,3,none⟩=false:=kX.dK 3
         clear hown6 hgrow6 dQ gu kX gy
         refine hK.out _ _ hS6 (fun _=>?_)
         clear hK K
         try simp only [Act.put,List.setIfInBounds_toArray]
         refine aC 17 (.pointer (some ⟨w.heap.size+2,3,none⟩)) 51 hS6 (fun w' hSw=>?_) ?_
         ·obtain ⟨s0,_⟩:=hSw
          go_simp
         try simp only [Act.put]
         refine aV 18 (fun K hK=>?_)
         go_simp
         have hS7:dJ w zb zo m ic k v (w6.setCell ⟨w.heap.size+2,3,none⟩ (.slice (some ⟨gg,0,none⟩) (k+1) cap)):=dJ.of gG.out.it gG.out.lo HR.out hzb
         refine hK.out _ _ hS7 (fun _=>?_)
         clear hK K
         refine wpAnyH_done (by kernel_rfl) ?_ _
         go_wp2_with fail
         go_meet
         exact ⟨rfl,some ⟨gg,0,none⟩,cap,s,gG.out⟩
        ·go_simp
         have jd:=ae (rO.out.grow (ag KY (.cells #[.string (aT k),I Z.cal.aK, .slice s.A Z.cal.au.length s.a,I Z.cal.bz, .slice s.B Z.cal.rules.length s.b,I Z.start, .slice s.C Z.trans.length s.c,I Z.hor, .slice s.D Z.aB.length s.d] 90)))
         have hS51:dJ w zb zo m ic k v (KY.alloc (.cells #[.string (aT k),I Z.cal.aK, .slice s.A Z.cal.au.length s.a,I Z.cal.bz, .slice s.B Z.cal.rules.length s.b,I Z.start, .slice s.C Z.trans.length s.c,I Z.hor, .slice s.D Z.aB.length s.d] 90)):=dJ.of jd.out.it jd.out.lo HR.out hzb
         refine hK.out _ _ hS51 (fun _=>?_)
         clear hK K
         refine ax ?_
         refine aV 1 (fun K hK=>?_)
         have z3:(KY.alloc (.cells #[.string (aT k),I Z.cal.aK, .slice s.A Z.cal.au.length s.a,I Z.cal.bz, .slice s.B Z.cal.rules.length s.b,I Z.start, .slice s.C Z.trans.length s.c,I Z.hor, .slice s.D Z.aB.length s.d] 90)).cell? ⟨w.heap.size+2,3,none⟩=some (.slice Az k cz):=(jd.out.t.cell 3).trans (bC _ _)
         go_simp
         refine hK.out _ _ hS51 (fun _=>?_)
         clear hK K z3
         refine ax ?_
         refine aV 16 (fun K hK=>?_)
         have tV:=rO.out.lt
         refine step_append_lies _ (by rfl) _ _ _ (by rfl) (w.heap.size+3) 90 JB (.agg iV) 9 144 Tryz.underlying35 HI1.out yt.out oJ.out lH.out rfl (by omega) (.slice Az k cz) k (aQ ys) (by rfl) jd.out.own ⟨KY.heap.size,0,none⟩ 1 1 (⟨⟨aT k,Z⟩,s⟩:cZ).cells.toList (by rfl) rfl (bI _ _ _ _ rfl) (kG (⟨⟨aT k,Z⟩,s⟩:cZ)) (by omega) (by unfold maxLen;omega) (by omega) (by simp;omega) _ rfl ?_
         intro gg cap w6 hown6 hgrow6 dQ _
         obtain ⟨gu,kX,gy⟩:=rO.out.mid _ hgrow6
         have hS6:dJ w zb zo m ic k v w6:=dJ.of gu gy HR.out hzb
         have gG:Hid (nN w #[.slice (some ⟨zb,zo,none⟩) m ic,Extern.Stop.cell wd] T (k+1) (some ⟨gg,0,none⟩) cap (ys++ [(⟨⟨aT k,Z⟩,s⟩:cZ)]) (w6.setCell ⟨w.heap.size+2,3,none⟩ (.slice (some ⟨gg,0,none⟩) (k+1) cap))):=ae (rO.out.add SI.out rfl hown6 hgrow6 dQ)
         have wH:w6.cell? ⟨w.heap.size+2,3,none⟩=some (.slice Az k cz):=(kX.cell 3).trans (bC _ _)
         have f66:w6.frozen? ⟨w.heap.size+2,3,none⟩=false:=kX.dK 3
         clear hown6 hgrow6 dQ gu kX gy
         refine hK.out _ _ hS6 (fun _=>?_)
         clear hK K
         try simp only [Act.put,List.setIfInBounds_toArray]
         refine aC 17 (.pointer (some ⟨w.heap.size+2,3,none⟩)) 51 hS6 (fun w' hSw=>?_) ?_
         ·obtain ⟨s0,_⟩:=hSw
          go_simp
         try simp only [Act.put]
         refine aV 18 (fun K hK=>?_)
         go_simp
         have hS7:dJ w zb zo m ic k v (w6.setCell ⟨w.heap.size+2,3,none⟩ (.slice (some ⟨gg,0,none⟩) (k+1) cap)):=dJ.of gG.out.it gG.out.lo HR.out hzb
         refine hK.out _ _ hS7 (fun _=>?_)
         clear hK K
         refine wpAnyH_done (by kernel_rfl) ?_ _
         go_wp2_with fail
         go_meet
         exact ⟨rfl,some ⟨gg,0,none⟩,cap,s,gG.out⟩
    case rest=>
     obtain ⟨rfl,Az2,cz2,s,hw2⟩:=hcut
     have HW2:=ae hw2
     clear hw2 HX0
     go_wp2_with fail
     go_roundw
     case rel=>exact ⟨k+1,Az2,cz2,_,by omega,by omega,by go_num,by rw [List.length_append,pg.out];rfl,by rw [List.map_append,IZ.out,JJ vs k v HVK.out,Ou.out];rfl,HW2.out⟩
     case measure=>simp [intOf];omega
   ·have HEX:Hid (∃k Az cz ys,k≤3∧ys.length=k∧ys.map (·.e)=sH vs∧nN w #[.slice A m ic,Extern.Stop.cell wd] T k Az cz ys wr):=ae ⟨k,Az,cz,ys,hk3,pg.out,by
     rw [IZ.out]
     unfold sH
     rcases Nat.lt_or_ge k 3 with h|h
     ·have e:k=vs.length:=by have:=HM.out;omega
      rw [List.take_of_length_le (by omega),List.take_of_length_le (by omega)]
     ·rw [show k=3 by omega],HX0.out⟩
    have hex:¬(k:Int)<(m:Int)∨((k:Int)<(m:Int)∧¬(k:Int)<3):=by omega
    rcases hex with h1|⟨h1,h2⟩
    all_goals
     go_wp2_with fail
     go_meet
     exact HEX.out
 case rest=>
  obtain ⟨k,Az,cz,ys,hk3,hyl,hye,hw⟩:=hcut
  have HW:=ae hw
  have pg:=ae hyl
  have IZ:=ae hye
  clear hw hyl hye
  have IG:Hid (T.prev.length=32):=ae (by rw [←HT.out];rfl)
  have Sj:Hid (T.bG.length=32):=ae (by rw [←HT.out];rfl)
  have Ou:Hid ((ai bJ (.slice none 0 0)).size=68):=ae (bn _ _ rfl rfl)
  have i1:¬(0:Int)<(n:Int):=by have:=HN0.out;omega
  have eX:Hid ((Tryz.prog.info? 37).map (·.size)=some (ai T (.slice Az k cz)).size):=ae (bV _ _ IG.out Sj.out)
  have CE:Hid ((ai bJ (.slice none 0 0)).size=(ai T (.slice Az k cz)).size):=ae (by rw [Ou.out,bn _ _ IG.out Sj.out])
  go_wp2_with (first
   |((with_reducible refine gU 37 ?_);go_must (refine aX rfl _ _ rfl (w.heap.size+2) rfl (ai T (.slice Az k cz)) HW.out.t.jB _ Tryz.underlying37 rfl eX.out ?_))
   |((with_reducible refine gV 37 ?_);go_must (refine wpList_store_row rfl _ _ _ rfl (w.heap.size+1) (ai T (.slice Az k cz)) rfl rfl 37 (ai bJ (.slice none 0 0)) HW.out.r.var eX.out CE.out (bf _ _ _ _) ?_)))
  refine bodyPost_ret (v:= .agg (ai T (.slice Az k cz))) (results_cell_row rfl _ _ (w.heap.size+1) _ (ai T (.slice Az k cz)) (0,0) _ rfl (setRow_heap _ _ _ _ _ _ HW.out.r.var) Tryz.underlying37 rfl eX.out) rfl ?_
  obtain ⟨f1,f2⟩:=HW.out.fin IG.out Sj.out (ai T (.slice Az k cz))
  exact ⟨_,by simp only [pg.out];rfl,f1,by rw [←HT.out];exact HII.out.symm,by rw [←HT.out],by rw [←HT.out];exact HWI.out.symm,fun _=>by rw [←HT.out],IZ.out,HW.out.low,f2⟩
end Go.Proofs.YtdibbemgpikgjaaGreatDoor
