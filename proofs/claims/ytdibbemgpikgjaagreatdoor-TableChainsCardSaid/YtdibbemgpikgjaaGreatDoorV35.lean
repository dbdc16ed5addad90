/- The texts Kh0, in this order. -/
import Derived.Test.YtdibbemgpikgjaaGreatDoorV00
import Derived.Test.YtdibbemgpikgjaaGreatDoorV34
namespace Go.Proofs.YtdibbemgpikgjaaGreatDoor
open Go Go.RowKit
set_option maxRecDepth 10000 in
set_option maxHeartbeats 8000000 in
theorem XZ (x:Bo) (G O:Option Addr) (gc oc:Nat) (w:World) (Qb:x.cal.toNat%2=0) (hgl:x.bT.length≤9223372036854775807) (hol:x.dE.length≤9223372036854775807) (hg:az w w.heap.size G (x.bT.map Extern.Stop.cell)) (ho:az w w.heap.size O (x.dE.map Extern.Stop.cell)):
  Calls Tryz.prog 32 #[.agg (eP x G O gc oc)] w (KQ w (eu x)):=by
 have HG:=ae hg
 have HO:=ae ho
 have Jw:(eP x G O gc oc)[1]? =some (.slice G x.bT.length gc):=rfl
 have Jy:(eP x G O gc oc)[2]? =some (.slice O x.dE.length oc):=rfl
 have Qe:(eP x G O gc oc)[0]? =some (.int .u8 (x.st.toNat:Int)):=rfl
 have Gy:(eP x G O gc oc)[12]? =some (.int .u8 (x.cal.toNat:Int)):=rfl
 have Qg:(eP x G O gc oc)[3]? =some (.int .u8 (x.bh.toNat:Int)):=rfl
 have Gz:(eP x G O gc oc)[13]? =some (.bool x.rules):=rfl
 obtain ⟨gl,Jq⟩:∃n,x.bT.length=n:=⟨_,rfl⟩
 obtain ⟨ol,Jt⟩:∃n,x.dE.length=n:=⟨_,rfl⟩
 rw [Jq] at Jw hgl
 rw [Jt] at Jy hol
 have VU:=ae Jq
 have IE:=ae Jt
 have hpm:Int.tmod (x.cal.toNat:Int) 2=0:=by rw [Int.tmod_eq_emod_of_nonneg (by omega)];omega
 have rG:=ae Qb
 clear Jq Jt hg ho Qb
 have vw:=ae (And.intro Qe (And.intro Jw (And.intro Jy (And.intro Qg (And.intro Gy Gz)))))
 clear Qe Jw Jy Qg Gy Gz
 obtain ⟨xs,hxs⟩:∃a,eP x G O gc oc=a:=⟨_,rfl⟩
 rw [hxs] at vw ⊢
 have FK:=ae hxs
 clear hxs
 have H0:=ae (M0.start w xs 88)
 have c0:((w.alloc (.cells xs 88)).alloc (.cells iE 67)).cell? ⟨w.heap.size,0,none⟩=some (.int .u8 (x.st.toNat:Int)):=(H0.out.x.2 0).trans vw.out.1
 go_enter Tryz.func32,Tryz.ntmps32
 go_wp2_with (with_reducible refine bP 67 ?_;refine bW rfl _ rfl iE (by kernel_rfl) ?_)
 refine (mD x.st.toNat _ (dh _)).mono ?_
 rintro e w1 ⟨rfl,hb1⟩
 have H1:=ae (H0.out.grow hb1)
 clear hb1 H0 c0
 obtain ⟨st,hst⟩:∃v,jh x.st.toNat=v:=⟨_,rfl⟩
 rw [hst]
 have HST:=ae hst
 clear hst
 have H2:Hid (MZ w xs (w1.heap.size+1) (w1.heap.size+2) #[I 2, .slice (some ⟨w1.heap.size,0,none⟩) 2 2,I (-1), .slice none 0 0,I st, .slice none 0 0,I 0, .slice none 0 0] (some ⟨w1.heap.size,0,none⟩) none none [I 7,I 6] [] [] (((w1.alloc (.cells #[I 7,I 6] 3)).alloc (.cells #[I 0, .slice none 0 0,I 0, .slice none 0 0,I 0, .slice none 0 0,I 0, .slice none 0 0] 67)).setRow (w1.heap.size+1) #[I 2, .slice (some ⟨w1.heap.size,0,none⟩) 2 2,I (-1), .slice none 0 0,I st, .slice none 0 0,I 0, .slice none 0 0])):=ae (H1.out.Yj _ _ rfl)
 have hone:(#[I 2, .slice (some ⟨w1.heap.size,0,none⟩) 2 2,I (-1), .slice none 0 0,I st, .slice none 0 0,I 0, .slice none 0 0]:Array Value).all (·.oneCell')=true:=by simp [Value.oneCell']
 have c12:(((w1.alloc (.cells #[I 7,I 6] 3)).alloc (.cells #[I 0, .slice none 0 0,I 0, .slice none 0 0,I 0, .slice none 0 0,I 0, .slice none 0 0] 67)).setRow (w1.heap.size+1) #[I 2, .slice (some ⟨w1.heap.size,0,none⟩) 2 2,I (-1), .slice none 0 0,I st, .slice none 0 0,I 0, .slice none 0 0]).cell? ⟨w.heap.size,12,none⟩=some (.int .u8 (x.cal.toNat:Int)):=(H2.out.x.2 12).trans vw.out.2.2.2.2.1
 go_upto_region 4 with (first
  |((with_reducible refine gV 67 ?_);go_must (refine wpList_store_row rfl _ _ _ rfl (w1.heap.size+1) #[I 2, .slice (some ⟨w1.heap.size,0,none⟩) 2 2,I (-1), .slice none 0 0,I st, .slice none 0 0,I 0, .slice none 0 0] rfl rfl 67 iE (heap_alloc2_new w1 _ _) (by kernel_rfl) rfl hone ?_)))
 generalize (((w1.alloc (.cells #[I 7,I 6] 3)).alloc (.cells #[I 0, .slice none 0 0,I 0, .slice none 0 0,I 0, .slice none 0 0,I 0, .slice none 0 0] 67)).setRow (w1.heap.size+1) #[I 2, .slice (some ⟨w1.heap.size,0,none⟩) 2 2,I (-1), .slice none 0 0,I st, .slice none 0 0,I 0, .slice none 0 0])=W2 at H2 ⊢
 clear c12 hone H1
 obtain ⟨zb,hzb⟩:∃b,w1.heap.size+1=b:=⟨_,rfl⟩
 obtain ⟨mb,hmb⟩:∃b,w1.heap.size=b:=⟨_,rfl⟩
 obtain ⟨B,hB⟩:∃b,w1.heap.size+2=b:=⟨_,rfl⟩
 rw [hzb,hB,hmb] at H2
 rw [hzb,hmb]
 clear hzb hmb hB
 obtain ⟨cnt,hcnt⟩:∃n,jq x=n:=⟨_,rfl⟩
 have hcl:=Eu x
 have hco:=Lu x
 rw [hcnt,VU.out,IE.out] at hcl hco
 have rE:=ae hcnt
 have HCO:=ae hco
 clear hcnt hco
 obtain ⟨i0,hi,hz0,hz1,hz2⟩:=info_parts vJ
 go_upto_block 0 with fail
 go_cut [4] (fun a wx=>a= .int .i64 (rY x.bT cnt)∧∃cc C,fD B wx C cnt cc (gz x.bT x.dE cnt)∧MZ w xs zb B #[I 2, .slice (some ⟨mb,0,none⟩) 2 2,I (-1), .slice none 0 0,I st,(.slice C cnt cc),I 0, .slice none 0 0] (some ⟨mb,0,none⟩) none none [I 7,I 6] [] [] wx)
 case first=>
  go_wp2_with fail
  go_loopw [4,5] (fun a i wr=>Vk w x xs zb B (fun v=> #[I 2, .slice (some ⟨mb,0,none⟩) 2 2,I (-1), .slice none 0 0,I st,v,I 0, .slice none 0 0]) (some ⟨mb,0,none⟩) none [I 7,I 6] [] cnt a i wr) (fun _ i _=>cnt - (intOf i).toNat)
  case atStart=>exact ⟨0,0,none,Nat.zero_le _,rfl,by go_num,World.ownsRow_nil _ _ _ _,H2.out⟩
  case round=>
   obtain ⟨k,cc,C,hk,rfl,rfl,hto,hmz⟩:=hrel
   have HT:=ae hto
   have HX:=ae hmz
   clear hto hmz H2
   have x1:wr.cell? ⟨w.heap.size,1,none⟩=some (.slice G gl gc):=(HX.out.x.2 1).trans vw.out.2.1
   have x2:wr.cell? ⟨w.heap.size,2,none⟩=some (.slice O ol oc):=(HX.out.x.2 2).trans vw.out.2.2.1
   obtain ⟨ak,hak⟩:∃v,rY x.bT k=v:=⟨_,rfl⟩
   have hab:=wP x.bT k
   rw [hak] at hab ⊢
   have YZ:=ae hak
   clear hak
   by_cases hlt:k<cnt
   ·obtain ⟨gb,gf,hG,hgb,hgc⟩:=oM HG.out HX.out.up (by rw [VU.out];omega)
    obtain ⟨ob,of,hO,hob,hoc⟩:=oM HO.out HX.out.up (by rw [IE.out];omega)
    subst hG hO
    have g0:=hgc k (by rw [VU.out];omega)
    have o0:=hoc k (by rw [IE.out];omega)
    obtain ⟨gk,hgk⟩:∃b,x.bT[k]?.getD 0=b:=⟨_,rfl⟩
    obtain ⟨ok,hok⟩:∃b,x.dE[k]?.getD 0=b:=⟨_,rfl⟩
    rw [hgk] at g0
    rw [hok] at o0
    have hg8:=dh gk
    have hat:rY x.bT (k+1)=ak+2160+20*(gk.toNat:Int):=by rw [←YZ.out,←hgk];rfl
    have HAT:=ae hat
    have HOK:=ae hok
    have qK:=ae (fun W=>mD ok.toNat W (dh ok))
    clear hgc hoc hgk hok hat
    obtain ⟨gn,hgn⟩:∃n,gk.toNat=n:=⟨_,rfl⟩
    rw [hgn] at g0 hg8 HAT
    obtain ⟨on,hon⟩:∃n,ok.toNat=n:=⟨_,rfl⟩
    rw [hon] at o0 qK
    have HON:=ae hon
    clear hgn hon
    have j1:(k:Int)<(gl:Int):=by omega
    have j2:(k:Int)<(ol:Int):=by omega
    have j3:(k:Int)<3:=by omega
    have j0:(0:Int)≤(k:Int):=by omega
    have z5:wr.cell? ⟨zb,5,none⟩=some (.slice C k cc):=HX.out.cell 5
    obtain ⟨ov,hov⟩:∃v,jh on=v:=⟨_,rfl⟩
    rw [hov] at qK
    have HOV:Hid (jh (x.dE[k]?.getD 0).toNat=ov):=ae (by rw [HOK.out,HON.out];exact hov)
    clear hov
    have hbsz:B≤wr.heap.size:=HX.out.sz
    have BO:zb<B:=HX.out.hi
    go_wp2_with fail
    go_region_law (first
     |(refine step_append_lies _ (by rfl) _ _ _ (by rfl) B 127 i0 (.agg #[I 0,I 0]) 2 16 Tryz.underlying64 hi hz0 hz1 hz2 rfl (by omega) (.slice C k cc) k ((gz x.bT x.dE k).flatMap Tr.cells) (by rfl) (kT.out.alloc _) ⟨w5.heap.size,0,none⟩ 1 1 [I (ak+2160+20*(gn:Int)),I ov] (by rfl) rfl (cell_two_new _ _ _ _) (sN ⟨ak+2160+20*(gn:Int),ov⟩) (by omega) (by unfold maxLen;omega) (by omega) (by simp;omega) _ rfl ?_;intro gg cap w6 hown6 hgrow6 dQ hlt6;have jo:=ae ((mX.out.grow (ag w5 (.cells #[I (ak+2160+20*(gn:Int)),I ov] 127))).grown hgrow6 (AB kT.out));have wH:w6.cell? ⟨zb,5,none⟩=some (.slice C k cc):=jo.out.cell 5;have f66:w6.frozen? ⟨zb,5,none⟩=false:=jo.out.dK 5;have qY:=ae hown6;clear hown6 hgrow6 dQ)
     |(go_simp;go_at_call 52;refine (qK.out _).mono ?_;rintro e w5 ⟨rfl,hb5⟩;have mX:=ae (HX.out.drew.grow hb5);have kT:Hid (fD B w5 C k cc (gz x.bT x.dE k)):=ae (fD.below (show fD B wr.drew C k cc _ from HT.out) hb5);have z55:w5.cell? ⟨zb,5,none⟩=some (.slice C k cc):=mX.out.cell 5;have hsz5:B≤w5.heap.size:=mX.out.sz;have hzl5:zb<w5.heap.size:=mX.out.Oe;clear hb5))
    all_goals
     go_wp2_with fail
     go_roundw
     case rel=>exact ⟨k+1,cap,some ⟨gg,0,none⟩,by omega,by rw [HAT.out],by go_num,fD.La (by unfold fD;rw [Ae,HAT.out,HOV.out];exact qY.out) BO _,jo.out.store 5 (.slice (some ⟨gg,0,none⟩) (k+1) cap)⟩
     case measure=>simp [intOf];omega
   ·obtain rfl:k=cnt:=by omega
    have hex:¬(k:Int)<(gl:Int)∨((k:Int)<(gl:Int)∧¬(k:Int)<(ol:Int))∨((k:Int)<(gl:Int)∧(k:Int)<(ol:Int)∧¬(k:Int)<3):=by have:=HCO.out;omega
    rcases hex with h1|⟨h1,h2⟩|⟨h1,h2,h3⟩
    all_goals
     go_wp2_with fail
     go_meet
     exact ⟨by rw [YZ.out],cc,C,HT.out,HX.out⟩
 case rest=>
  obtain ⟨rfl,cc,C,hto,hmz⟩:=hcut
  have HT:=ae hto
  have HX:=ae hmz
  clear hto hmz
  have hab:=wP x.bT cnt
  obtain ⟨ac,hac⟩:∃v,rY x.bT cnt=v:=⟨_,rfl⟩
  rw [hac] at hab ⊢
  have hb8:=dh x.bh
  obtain ⟨hz,hhz⟩:∃v,ac+2160+20*(x.bh.toNat:Int)=v:=⟨_,rfl⟩
  have HHZ:Hid (rY x.bT cnt+2160+20*(x.bh.toNat:Int)=hz):=ae (by rw [hac];exact hhz)
  have hzb1:hz≤100000:=by omega
  have hzb0:0≤hz:=by omega
  clear hac
  have x3:wc.cell? ⟨w.heap.size,3,none⟩=some (.int .u8 (x.bh.toNat:Int)):=(HX.out.x.2 3).trans vw.out.2.2.2.1
  have z6:wc.cell? ⟨zb,6,none⟩=some (I 0):=HX.out.cell 6
  have f6:wc.frozen? ⟨zb,6,none⟩=false:=HX.out.dK 6
  go_upto_region 11 with fail
  have H4:Hid (MZ w xs zb B #[I 2, .slice (some ⟨mb,0,none⟩) 2 2,I (-1), .slice none 0 0,I st, .slice C cnt cc,I hz, .slice none 0 0] (some ⟨mb,0,none⟩) none none [I 7,I 6] [] [] (wc.setCell ⟨zb,6,none⟩ (I hz))):=ae (HX.out.store 6 (I hz))
  have HT4:Hid (fD B (wc.setCell ⟨zb,6,none⟩ (I hz)) C cnt cc (gz x.bT x.dE cnt)):=ae (HT.out.La HX.out.hi _)
  clear x3 z6 f6 HT HX hab hb8 hhz
  generalize wc.setCell ⟨zb,6,none⟩ (.int .i64 hz)=W4 at H4 HT4 ⊢
  have x13:W4.cell? ⟨w.heap.size,13,none⟩=some (.bool x.rules):=(H4.out.x.2 13).trans vw.out.2.2.2.2.2
  have rq:Hid (MZ w xs zb W4.heap.size #[I 2, .slice (some ⟨mb,0,none⟩) 2 2,I (-1), .slice none 0 0,I st, .slice C cnt cc,I hz, .slice none 0 0] (some ⟨mb,0,none⟩) none C [I 7,I 6] [] ((gz x.bT x.dE cnt).flatMap Tr.cells) W4):=ae (H4.out.next HT4.out (by have:=H4.out.lo;have:=H4.out.hi;omega))
  have Qk:ay (y8 x) ⟨some ⟨mb,0,none⟩,2,none,0,C,cc,none,0⟩= #[I 2, .slice (some ⟨mb,0,none⟩) 2 2,I (-1), .slice none 0 0,I st, .slice C cnt cc,I hz, .slice none 0 0]:=H9 x _ _ _ _ rG.out rE.out HST.out HHZ.out
  have WZ:=ae Qk
  clear Qk H4 HT4
  obtain ⟨rl,hrl⟩:∃b,x.rules=b:=⟨_,rfl⟩
  rw [hrl] at x13
  have Z8:=ae hrl
  clear hrl
  cases rl with
  |false=>
   have Gx:eu x=y8 x:=by unfold eu;rw [if_neg (by rw [Z8.out];simp)]
   have hone:(#[I 2, .slice (some ⟨mb,0,none⟩) 2 2,I (-1), .slice none 0 0,I st, .slice C cnt cc,I hz, .slice none 0 0]:Array Value).all (·.oneCell')=true:=by simp [Value.oneCell']
   have rJ:Hid (Row W4 zb #[I 2, .slice (some ⟨mb,0,none⟩) 2 2,I (-1), .slice none 0 0,I st, .slice C cnt cc,I hz, .slice none 0 0]):=ae ⟨rq.out.Oe,fun i=>rq.out.cell i⟩
   have eY:=ae Gx
   clear Gx
   go_wp2_with (first
    |((with_reducible refine gU 67 ?_);go_must (refine aU rfl _ _ rfl zb rfl #[I 2, .slice (some ⟨mb,0,none⟩) 2 2,I (-1), .slice none 0 0,I st, .slice C cnt cc,I hz, .slice none 0 0] rJ.out _ Tryz.underlying67 rfl (by kernel_rfl) ?_))
    |((with_reducible refine gV 67 ?_);go_must (refine wpList_store_row rfl _ _ _ rfl (w.heap.size+1) #[I 2, .slice (some ⟨mb,0,none⟩) 2 2,I (-1), .slice none 0 0,I st, .slice C cnt cc,I hz, .slice none 0 0] rfl rfl 67 iE rq.out.res (by kernel_rfl) rfl hone ?_)))
   obtain ⟨d1,d2,d3,d4⟩:=rq.out.done #[I 2, .slice (some ⟨mb,0,none⟩) 2 2,I (-1), .slice none 0 0,I st, .slice C cnt cc,I hz, .slice none 0 0]
   refine bodyPost_ret (v:= .agg #[I 2, .slice (some ⟨mb,0,none⟩) 2 2,I (-1), .slice none 0 0,I st, .slice C cnt cc,I hz, .slice none 0 0]) (results_cell_row rfl _ _ (w.heap.size+1) _ #[I 2, .slice (some ⟨mb,0,none⟩) 2 2,I (-1), .slice none 0 0,I st, .slice C cnt cc,I hz, .slice none 0 0] (0,0) _ rfl (setRow_heap _ _ _ _ _ _ rq.out.res) Tryz.underlying67 rfl (by kernel_rfl)) rfl ?_
   refine ⟨⟨some ⟨mb,0,none⟩,2,none,0,C,cc,none,0⟩,by rw [eY.out,WZ.out],?_,?_,d4⟩
   ·rw [eY.out]
    exact y9 x rG.out rE.out d1 d3
   ·rw [eY.out]
    exact Bf x rG.out rE.out (rq.out.Qu.low (Nat.le_add_right _ _)) (rq.out.RH.low (Nat.le_add_right _ _))
  |true=>
   obtain ⟨B5,Fe⟩:∃n,W4.heap.size=n:=⟨_,rfl⟩
   rw [Fe] at rq
   have BO:zb<B5:=rq.out.hi
   have hzw:w.heap.size+2≤zb:=rq.out.lo
   clear Fe
   obtain ⟨i1,hyi,uM,uN,uO⟩:=info_parts Et
   go_upto_block 2 with fail
   clear x13
   go_cut [6] (fun i wx=>i= .int .i64 2∧∃D dc,wx.ownsRow B5 129 5 (.slice D 2 dc) 2 ([gX 0 x.a0 x.a1 x.a2 x.a3,gX 1 x.b0 x.b1 x.b2 x.b3].flatMap Yr.cells)∧MZ w xs zb B5 #[I 2, .slice (some ⟨mb,0,none⟩) 2 2,I (-1), .slice none 0 0,I st, .slice C cnt cc,I hz,(.slice D 2 dc)] (some ⟨mb,0,none⟩) none C [I 7,I 6] [] ((gz x.bT x.dE cnt).flatMap Tr.cells) wx)
   case first=>
    go_wp2_with fail
    go_loopw [6] (fun i wr=>∃(k dc:Nat) (D:Option Addr),k≤2∧i= .int .i64 k∧wr.ownsRow B5 129 5 (.slice D k dc) k (([gX 0 x.a0 x.a1 x.a2 x.a3,gX 1 x.b0 x.b1 x.b2 x.b3].take k).flatMap Yr.cells)∧MZ w xs zb B5 #[I 2, .slice (some ⟨mb,0,none⟩) 2 2,I (-1), .slice none 0 0,I st, .slice C cnt cc,I hz,(.slice D k dc)] (some ⟨mb,0,none⟩) none C [I 7,I 6] [] ((gz x.bT x.dE cnt).flatMap Tr.cells) wr) (fun i _=>2 - (intOf i).toNat)
    case atStart=>exact ⟨0,0,none,Nat.zero_le _,by go_num,World.ownsRow_nil _ _ _ _,rq.out⟩
    case round=>
     obtain ⟨k,dc,D,hk,rfl,hyo,hmz⟩:=hrel
     have zA:=ae hyo
     have HX:=ae hmz
     clear hyo hmz rq
     have hk3:k=0∨k=1∨k=2:=by omega
     rcases hk3 with rfl|rfl|rfl
     ·have x4:wr.cell? ⟨w.heap.size,4,none⟩=some (.int .u8 (x.a0.toNat:Int)):=(HX.out.x.2 4).trans (by rw [←FK.out];rfl)
      have x5:wr.cell? ⟨w.heap.size,5,none⟩=some (.int .u8 (x.a1.toNat:Int)):=(HX.out.x.2 5).trans (by rw [←FK.out];rfl)
      have x6:wr.cell? ⟨w.heap.size,6,none⟩=some (.int .u8 (x.a2.toNat:Int)):=(HX.out.x.2 6).trans (by rw [←FK.out];rfl)
      have x7:wr.cell? ⟨w.heap.size,7,none⟩=some (.int .u8 (x.a3.toNat:Int)):=(HX.out.x.2 7).trans (by rw [←FK.out];rfl)
      have l0:=dh x.a0
      have l1:=dh x.a1
      have l2:=dh x.a2
      have l3:=dh x.a3
      obtain ⟨na,hna⟩:∃n,x.a0.toNat=n:=⟨_,rfl⟩
      obtain ⟨nb,hnb⟩:∃n,x.a1.toNat=n:=⟨_,rfl⟩
      obtain ⟨nc,hnc⟩:∃n,x.a2.toNat=n:=⟨_,rfl⟩
      obtain ⟨nd,hnd⟩:∃n,x.a3.toNat=n:=⟨_,rfl⟩
      rw [hna] at x4 l0
      rw [hnb] at x5 l1
      rw [hnc] at x6 l2
      rw [hnd] at x7 l3
      obtain ⟨ma,P8⟩:∃n,na%3=n:=⟨_,rfl⟩
      obtain ⟨mc,hmc⟩:∃n,nc%5=n:=⟨_,rfl⟩
      obtain ⟨md,hmd⟩:∃n,nd%2=n:=⟨_,rfl⟩
      have t0:Int.tmod (na:Int) 3=(ma:Int):=by rw [Int.tmod_eq_emod_of_nonneg (by omega)];omega
      have t2:Int.tmod (nc:Int) 5=(mc:Int):=by rw [Int.tmod_eq_emod_of_nonneg (by omega)];omega
      have t3:Int.tmod (nd:Int) 2=(md:Int):=by rw [Int.tmod_eq_emod_of_nonneg (by omega)];omega
      have u0:(ma:Int)%256=ma:=by omega
      have u2:(mc:Int)%256=mc:=by omega
      have u3:(md:Int)%256=md:=by omega
      have Js:md=0∨md=1:=by omega
      have qK:=ae (fun W=>mD mc W (by omega))
      obtain ⟨ov,hov⟩:∃v,jh mc=v:=⟨_,rfl⟩
      rw [hov] at qK
      have yS:Hid (gX 0 x.a0 x.a1 x.a2 x.a3=⟨1,if md=1 then 5 else 1,(ma:Int),((nb*5:Nat):Int),ov⟩):=ae (by unfold gX;rw [hna,hnb,hnc,hnd,P8,hmc,hmd,hov];rfl)
      clear hna hnb hnc hnd P8 hmc hmd hov
      have hwl:w.heap.size<wr.heap.size:=HX.out.x.1
      go_upto_region 17 with fail
      have HV:Hid (MZ w xs zb B5 #[I 2, .slice (some ⟨mb,0,none⟩) 2 2,I (-1), .slice none 0 0,I st, .slice C cnt cc,I hz,(.slice D 0 dc)] (some ⟨mb,0,none⟩) none C [I 7,I 6] [] ((gz x.bT x.dE cnt).flatMap Tr.cells) (wr.alloc (.cells #[.int .u8 (na:Int), .int .u8 (nb:Int), .int .u8 (nc:Int), .int .u8 (nd:Int)] 85))):=ae (HX.out.grow (ag wr _))
      have DU:Hid (World.ownsRow (wr.alloc (.cells #[.int .u8 (na:Int), .int .u8 (nb:Int), .int .u8 (nc:Int), .int .u8 (nd:Int)] 85)) B5 129 5 (.slice D 0 dc) 0 (([]:List Yr).flatMap Yr.cells)):=ae (zA.out.alloc _)
      have DT:Hid (∀g,(Value.slice D 0 dc).ownBlock=some g→g<wr.heap.size):=ae (fun g hg=>(World.ownsRow.lt zA.out g hg).2)
      have mf:=ae (Row.new wr #[.int .u8 (na:Int), .int .u8 (nb:Int), .int .u8 (nc:Int), .int .u8 (nd:Int)] 85)
      have Jl:B5≤wr.heap.size:=HX.out.sz
      obtain ⟨yv,hyv⟩:∃n,wr.heap.size=n:=⟨_,rfl⟩
      rw [hyv] at mf Jl DT
      rw [hyv]
      clear x4 x5 x6 x7 l0 l2 l3 hwl
      generalize wr.alloc (.cells #[.int .u8 (na:Int), .int .u8 (nb:Int), .int .u8 (nc:Int), .int .u8 (nd:Int)] 85)=V at HV DU mf ⊢
      clear hyv HX zA
      have hzv:zb<yv:=by omega
      have XX:yv<V.heap.size:=mf.out.1
      have hw1:IntKind.i64.wrap 1=1:=by rw [IntKind.wrap_i64];omega
      have TQ:IntKind.i64.wrap (ma:Int)=ma:=by rw [IntKind.wrap_i64];omega
      have hwb:IntKind.i64.wrap (nb:Int)=nb:=by rw [IntKind.wrap_i64];omega
      have hwc:IntKind.i64.wrap ((nb:Int)*5)=(nb:Int)*5:=by rw [IntKind.wrap_i64];omega
      go_cut [107] (fun _ wx=>∃gg cap,wx.ownsRow B5 129 5 (.slice (some ⟨gg,0,none⟩) 1 cap) 1 (([]:List Yr).flatMap Yr.cells++Yr.cells ⟨1,1,(ma:Int),(nb:Int)*5,ov⟩)∧MZ w xs zb B5 #[I 2, .slice (some ⟨mb,0,none⟩) 2 2,I (-1), .slice none 0 0,I st, .slice C cnt cc,I hz,(.slice (some ⟨gg,0,none⟩) 1 cap)] (some ⟨mb,0,none⟩) none C [I 7,I 6] [] ((gz x.bT x.dE cnt).flatMap Tr.cells) wx∧Row wx yv #[.int .u8 (na:Int), .int .u8 (nb:Int), .int .u8 (nc:Int), .int .u8 (nd:Int)])
      case first=>
       have hS0:(lF yv (.int .u8 (na:Int)) (.int .u8 (nb:Int)) (.int .u8 (nc:Int)) (.int .u8 (nd:Int))) V.drew:=lF.of ⟨mf.out.1,mf.out.2⟩
       refine wp_region_held_drew (S:=(lF yv (.int .u8 (na:Int)) (.int .u8 (nb:Int)) (.int .u8 (nc:Int)) (.int .u8 (nd:Int)))) (by kernel_rfl) hS0 (fun _=>?_)
       refine aC 0 (.pointer (some ⟨zb,7,none⟩)) 89 hS0 (fun w' hSw=>?_) ?_
       ·obtain ⟨s0,s1,s2,s3⟩:=hSw
        go_simp
       refine ax ?_
       refine aC 2 (.int .i64 0) 91 hS0 (fun w' hSw=>?_) ?_
       ·obtain ⟨s0,s1,s2,s3⟩:=hSw
        go_simp
       refine ax ?_
       refine aC 3 (.int .i64 1) 92 hS0 (fun w' hSw=>?_) ?_
       ·obtain ⟨s0,s1,s2,s3⟩:=hSw
        go_simp
       refine ax ?_
       refine aC 4 (.pointer (some ⟨yv,0,none⟩)) 93 hS0 (fun w' hSw=>?_) ?_
       ·obtain ⟨s0,s1,s2,s3⟩:=hSw
        go_simp
       refine ax ?_
       refine aC 5 (.int .u8 (na:Int)) 94 hS0 (fun w' hSw=>?_) ?_
       ·obtain ⟨s0,s1,s2,s3⟩:=hSw
        go_simp
       refine ax ?_
       refine aC 6 (.int .u8 (ma:Int)) 95 hS0 (fun w' hSw=>?_) ?_
       ·obtain ⟨s0,s1,s2,s3⟩:=hSw
        go_simp
       refine ax ?_
       refine aC 7 (.int .i64 (ma:Int)) 96 hS0 (fun w' hSw=>?_) ?_
       ·obtain ⟨s0,s1,s2,s3⟩:=hSw
        go_simp
       refine ax ?_
       refine aC 8 (.pointer (some ⟨yv,1,none⟩)) 97 hS0 (fun w' hSw=>?_) ?_
       ·obtain ⟨s0,s1,s2,s3⟩:=hSw
        go_simp
       refine ax ?_
       refine aC 9 (.int .u8 (nb:Int)) 98 hS0 (fun w' hSw=>?_) ?_
       ·obtain ⟨s0,s1,s2,s3⟩:=hSw
        go_simp
       refine ax ?_
       refine aC 10 (.int .i64 (nb:Int)) 99 hS0 (fun w' hSw=>?_) ?_
       ·obtain ⟨s0,s1,s2,s3⟩:=hSw
        go_simp
       refine ax ?_
       refine aC 11 (.int .i64 ((nb:Int)*5)) 100 hS0 (fun w' hSw=>?_) ?_
       ·obtain ⟨s0,s1,s2,s3⟩:=hSw
        go_simp
       refine ax ?_
       refine aC 12 (.pointer (some ⟨yv,2,none⟩)) 101 hS0 (fun w' hSw=>?_) ?_
       ·obtain ⟨s0,s1,s2,s3⟩:=hSw
        go_simp
       refine ax ?_
       refine aC 13 (.int .u8 (nc:Int)) 102 hS0 (fun w' hSw=>?_) ?_
       ·obtain ⟨s0,s1,s2,s3⟩:=hSw
        go_simp
       refine ax ?_
       refine aC 14 (.int .u8 (mc:Int)) 103 hS0 (fun w' hSw=>?_) ?_
       ·obtain ⟨s0,s1,s2,s3⟩:=hSw
        go_simp
       refine ax ?_
       refine jr 1 15 (fun K hK=>?_) (fun K hK=>?_)
       ·have z7:V.drew.cell? ⟨zb,7,none⟩=some (.slice D 0 dc):=HV.out.drew.cell 7
        go_simp
        refine hK.out _ _ hS0 (fun hS1=>?_)
        clear hK K z7
        refine ax ?_
        refine aV 15 (fun K hK=>?_)
        go_simp
        refine (qK.out _).mono ?_
        rintro e w5 ⟨rfl,hb5⟩
        have mX:=ae (HV.out.drew.grow hb5)
        have kT:Hid (w5.ownsRow B5 129 5 (.slice D 0 dc) 0 (([]:List Yr).flatMap Yr.cells)):=ae (own_below (show World.ownsRow V.drew _ _ _ _ _ _ from DU.out) hb5)
        have l9:Hid (Row w5 yv #[.int .u8 (na:Int), .int .u8 (nb:Int), .int .u8 (nc:Int), .int .u8 (nd:Int)]):=ae ((show Row V.drew yv _ from ⟨mf.out.1,mf.out.2⟩).keep hb5)
        have hsz5:B5≤w5.heap.size:=mX.out.sz
        clear hb5
        refine hK.out _ _ (lF.of l9.out) (fun hS5=>?_)
        clear hK K
        refine ax ?_
        refine aC 16 (.agg #[I 1,I 1,I (ma:Int),I ((nb:Int)*5),I ov]) 105 hS5 (fun w' hSw=>?_) ?_
        ·obtain ⟨s0,s1,s2,s3⟩:=hSw
         go_simp
        refine ax ?_
        refine aV 17 (fun K hK=>?_)
        go_simp
        have yu:=ae (l9.out.keep (ag w5 (.cells #[I 1,I 1,I (ma:Int),I ((nb:Int)*5),I ov] 129)))
        refine hK.out _ _ (lF.of yu.out) (fun Jm=>?_)
        clear hK K
        refine ax ?_
        refine aV 18 (fun K hK=>?_)
        refine step_append_lies _ (by rfl) _ _ _ (by rfl) B5 129 i1 (.agg #[I 0,I 0,I 0,I 0,I 0]) 5 40 Tryz.underlying65 hyi uM uN uO rfl (by omega) (.slice D 0 dc) 0 (([]:List Yr).flatMap Yr.cells) (by rfl) (kT.out.alloc _) ⟨w5.heap.size,0,none⟩ 1 1 (Yr.cells ⟨1,1,(ma:Int),(nb:Int)*5,ov⟩) (by rfl) rfl (bI _ _ _ _ rfl) (lU ⟨1,1,(ma:Int),(nb:Int)*5,ov⟩) (by omega) (by unfold maxLen;omega) (by omega) (by simp;omega) _ rfl ?_
        intro gg cap w6 hown6 hgrow6 _ _
        have jo:=ae ((mX.out.grow (ag w5 (.cells #[I 1,I 1,I (ma:Int),I ((nb:Int)*5),I ov] 129))).grown hgrow6 (own_base kT.out))
        have mM:=ae ((l9.out.keep (ag w5 (.cells #[I 1,I 1,I (ma:Int),I ((nb:Int)*5),I ov] 129))).grown hgrow6 (kY DT.out))
        have qY:=ae hown6
        clear hown6 hgrow6
        refine hK.out _ _ (lF.of mM.out) (fun hS6=>?_)
        clear hK K
        try simp only [Act.put,List.setIfInBounds_toArray]
        refine aC 19 (.pointer (some ⟨zb,7,none⟩)) 108 hS6 (fun w' hSw=>?_) ?_
        ·obtain ⟨s0,s1,s2,s3⟩:=hSw
         go_simp
        try simp only [Act.put]
        refine aV 20 (fun K hK=>?_)
        have wH:w6.cell? ⟨zb,7,none⟩=some (.slice D 0 dc):=jo.out.cell 7
        have f66:w6.frozen? ⟨zb,7,none⟩=false:=jo.out.dK 7
        go_simp
        have gG:=ae (jo.out.store 7 (.slice (some ⟨gg,0,none⟩) 1 cap))
        have rH:Hid (Row (w6.setCell ⟨zb,7,none⟩ (.slice (some ⟨gg,0,none⟩) 1 cap)) yv #[.int .u8 (na:Int), .int .u8 (nb:Int), .int .u8 (nc:Int), .int .u8 (nd:Int)]):=ae ⟨by simpa using mM.out.1,fun i=>(World.cell?_setCell_other _ _ _ _ (by first|(simp;done)|(simp;omega))).trans (mM.out.2 i)⟩
        refine hK.out _ _ (lF.of rH.out) (fun _=>?_)
        clear hK K
        refine wpAnyH_done (by kernel_rfl) ?_ _
        go_wp2_with fail
        go_meet
        exact ⟨gg,cap,ownsRow_setCell_below (a:=⟨zb,7,none⟩) qY.out BO _,gG.out,rH.out⟩
       ·go_simp
        refine (qK.out _).mono ?_
        rintro e w5 ⟨rfl,hb5⟩
        have mX:=ae (HV.out.drew.grow hb5)
        have kT:Hid (w5.ownsRow B5 129 5 (.slice D 0 dc) 0 (([]:List Yr).flatMap Yr.cells)):=ae (own_below (show World.ownsRow V.drew _ _ _ _ _ _ from DU.out) hb5)
        have l9:Hid (Row w5 yv #[.int .u8 (na:Int), .int .u8 (nb:Int), .int .u8 (nc:Int), .int .u8 (nd:Int)]):=ae ((show Row V.drew yv _ from ⟨mf.out.1,mf.out.2⟩).keep hb5)
        have hsz5:B5≤w5.heap.size:=mX.out.sz
        clear hb5
        refine hK.out _ _ (lF.of l9.out) (fun hS5=>?_)
        clear hK K
        refine ax ?_
        refine aC 16 (.agg #[I 1,I 1,I (ma:Int),I ((nb:Int)*5),I ov]) 105 hS5 (fun w' hSw=>?_) ?_
        ·obtain ⟨s0,s1,s2,s3⟩:=hSw
         go_simp
        refine ax ?_
        refine jr 1 17 (fun K hK=>?_) (fun K hK=>?_)
        ·have z7:w5.cell? ⟨zb,7,none⟩=some (.slice D 0 dc):=mX.out.cell 7
         go_simp
         refine hK.out _ _ hS5 (fun hS1=>?_)
         clear hK K z7
         refine ax ?_
         refine aV 17 (fun K hK=>?_)
         go_simp
         have yu:=ae (l9.out.keep (ag w5 (.cells #[I 1,I 1,I (ma:Int),I ((nb:Int)*5),I ov] 129)))
         refine hK.out _ _ (lF.of yu.out) (fun Jm=>?_)
         clear hK K
         refine ax ?_
         refine aV 18 (fun K hK=>?_)
         refine step_append_lies _ (by rfl) _ _ _ (by rfl) B5 129 i1 (.agg #[I 0,I 0,I 0,I 0,I 0]) 5 40 Tryz.underlying65 hyi uM uN uO rfl (by omega) (.slice D 0 dc) 0 (([]:List Yr).flatMap Yr.cells) (by rfl) (kT.out.alloc _) ⟨w5.heap.size,0,none⟩ 1 1 (Yr.cells ⟨1,1,(ma:Int),(nb:Int)*5,ov⟩) (by rfl) rfl (bI _ _ _ _ rfl) (lU ⟨1,1,(ma:Int),(nb:Int)*5,ov⟩) (by omega) (by unfold maxLen;omega) (by omega) (by simp;omega) _ rfl ?_
         intro gg cap w6 hown6 hgrow6 _ _
         have jo:=ae ((mX.out.grow (ag w5 (.cells #[I 1,I 1,I (ma:Int),I ((nb:Int)*5),I ov] 129))).grown hgrow6 (own_base kT.out))
         have mM:=ae ((l9.out.keep (ag w5 (.cells #[I 1,I 1,I (ma:Int),I ((nb:Int)*5),I ov] 129))).grown hgrow6 (kY DT.out))
         have qY:=ae hown6
         clear hown6 hgrow6
         refine hK.out _ _ (lF.of mM.out) (fun hS6=>?_)
         clear hK K
         try simp only [Act.put,List.setIfInBounds_toArray]
         refine aC 19 (.pointer (some ⟨zb,7,none⟩)) 108 hS6 (fun w' hSw=>?_) ?_
         ·obtain ⟨s0,s1,s2,s3⟩:=hSw
          go_simp
         try simp only [Act.put]
         refine aV 20 (fun K hK=>?_)
         have wH:w6.cell? ⟨zb,7,none⟩=some (.slice D 0 dc):=jo.out.cell 7
         have f66:w6.frozen? ⟨zb,7,none⟩=false:=jo.out.dK 7
         go_simp
         have gG:=ae (jo.out.store 7 (.slice (some ⟨gg,0,none⟩) 1 cap))
         have rH:Hid (Row (w6.setCell ⟨zb,7,none⟩ (.slice (some ⟨gg,0,none⟩) 1 cap)) yv #[.int .u8 (na:Int), .int .u8 (nb:Int), .int .u8 (nc:Int), .int .u8 (nd:Int)]):=ae ⟨by simpa using mM.out.1,fun i=>(World.cell?_setCell_other _ _ _ _ (by first|(simp;done)|(simp;omega))).trans (mM.out.2 i)⟩
         refine hK.out _ _ (lF.of rH.out) (fun _=>?_)
         clear hK K
         refine wpAnyH_done (by kernel_rfl) ?_ _
         go_wp2_with fail
         go_meet
         exact ⟨gg,cap,ownsRow_setCell_below (a:=⟨zb,7,none⟩) qY.out BO _,gG.out,rH.out⟩
        ·go_simp
         have yu:=ae (l9.out.keep (ag w5 (.cells #[I 1,I 1,I (ma:Int),I ((nb:Int)*5),I ov] 129)))
         refine hK.out _ _ (lF.of yu.out) (fun Jm=>?_)
         clear hK K
         refine ax ?_
         refine aV 1 (fun K hK=>?_)
         have HXB:=ae (mX.out.grow (ag w5 (.cells #[I 1,I 1,I (ma:Int),I ((nb:Int)*5),I ov] 129)))
         have z7:(w5.alloc (.cells #[I 1,I 1,I (ma:Int),I ((nb:Int)*5),I ov] 129)).cell? ⟨zb,7,none⟩=some (.slice D 0 dc):=HXB.out.cell 7
         go_simp
         refine hK.out _ _ Jm (fun hS1=>?_)
         clear hK K z7
         refine ax ?_
         refine aV 18 (fun K hK=>?_)
         refine step_append_lies _ (by rfl) _ _ _ (by rfl) B5 129 i1 (.agg #[I 0,I 0,I 0,I 0,I 0]) 5 40 Tryz.underlying65 hyi uM uN uO rfl (by omega) (.slice D 0 dc) 0 (([]:List Yr).flatMap Yr.cells) (by rfl) (kT.out.alloc _) ⟨w5.heap.size,0,none⟩ 1 1 (Yr.cells ⟨1,1,(ma:Int),(nb:Int)*5,ov⟩) (by rfl) rfl (bI _ _ _ _ rfl) (lU ⟨1,1,(ma:Int),(nb:Int)*5,ov⟩) (by omega) (by unfold maxLen;omega) (by omega) (by simp;omega) _ rfl ?_
         intro gg cap w6 hown6 hgrow6 _ _
         have jo:=ae ((mX.out.grow (ag w5 (.cells #[I 1,I 1,I (ma:Int),I ((nb:Int)*5),I ov] 129))).grown hgrow6 (own_base kT.out))
         have mM:=ae ((l9.out.keep (ag w5 (.cells #[I 1,I 1,I (ma:Int),I ((nb:Int)*5),I ov] 129))).grown hgrow6 (kY DT.out))
         have qY:=ae hown6
         clear hown6 hgrow6
         refine hK.out _ _ (lF.of mM.out) (fun hS6=>?_)
         clear hK K
         try simp only [Act.put,List.setIfInBounds_toArray]
         refine aC 19 (.pointer (some ⟨zb,7,none⟩)) 108 hS6 (fun w' hSw=>?_) ?_
         ·obtain ⟨s0,s1,s2,s3⟩:=hSw
          go_simp
         try simp only [Act.put]
         refine aV 20 (fun K hK=>?_)
         have wH:w6.cell? ⟨zb,7,none⟩=some (.slice D 0 dc):=jo.out.cell 7
         have f66:w6.frozen? ⟨zb,7,none⟩=false:=jo.out.dK 7
         go_simp
         have gG:=ae (jo.out.store 7 (.slice (some ⟨gg,0,none⟩) 1 cap))
         have rH:Hid (Row (w6.setCell ⟨zb,7,none⟩ (.slice (some ⟨gg,0,none⟩) 1 cap)) yv #[.int .u8 (na:Int), .int .u8 (nb:Int), .int .u8 (nc:Int), .int .u8 (nd:Int)]):=ae ⟨by simpa using mM.out.1,fun i=>(World.cell?_setCell_other _ _ _ _ (by first|(simp;done)|(simp;omega))).trans (mM.out.2 i)⟩
         refine hK.out _ _ (lF.of rH.out) (fun _=>?_)
         clear hK K
         refine wpAnyH_done (by kernel_rfl) ?_ _
         go_wp2_with fail
         go_meet
         exact ⟨gg,cap,ownsRow_setCell_below (a:=⟨zb,7,none⟩) qY.out BO _,gG.out,rH.out⟩
      case rest=>
       obtain ⟨gg,cap,hown,hmz,En⟩:=hcut
       have IC:=ae hown
       have OJ:=ae hmz
       have hgl:gg<wc.heap.size:=(World.ownsRow.lt hown gg rfl).2
       have hgB:B5≤gg:=(World.ownsRow.lt hown gg rfl).1
       have y3:wc.cell? ⟨yv,3,none⟩=some (.int .u8 (nd:Int)):=En.2 3
       have z7:wc.cell? ⟨zb,7,none⟩=some (.slice (some ⟨gg,0,none⟩) 1 cap):=hmz.cell 7
       have q1:wc.cell? ⟨gg,1,none⟩=some (I 1):=(hown.cellAt 1 (by omega)).trans rfl
       have qf:∀j,wc.frozen? ⟨gg,j,none⟩=false:=fun j=>hown.frozenAt j
       clear hown hmz En
       rcases Js with rfl|rfl
       ·go_wp2_with fail
        go_roundw
        case rel=>
         have hy:=yS.out
         rw [if_neg (by omega)] at hy
         refine ⟨1,cap,some ⟨gg,0,none⟩,by omega,by go_num,?_,OJ.out⟩
         have h:=IC.out
         have e:([gX 0 x.a0 x.a1 x.a2 x.a3,gX 1 x.b0 x.b1 x.b2 x.b3].take 1).flatMap Yr.cells=([]:List Yr).flatMap Yr.cells++Yr.cells ⟨1,1,(ma:Int),(nb:Int)*5,ov⟩:=by
          show [gX 0 x.a0 x.a1 x.a2 x.a3].flatMap Yr.cells=_
          rw [hy]
          simp [Yr.cells]
         rw [e]
         exact h
        case measure=>simp [intOf]
       ·go_wp2_with fail
        go_roundw
        case rel=>
         have hy:=yS.out
         rw [if_pos rfl] at hy
         refine ⟨1,cap,some ⟨gg,0,none⟩,by omega,by go_num,?_,OJ.out.grown (IC.out.stored 1 (I 5)).2 (fun g hg=>by injection hg with hg;omega)⟩
         have h:=(IC.out.stored 1 (I 5)).1
         have e:([gX 0 x.a0 x.a1 x.a2 x.a3,gX 1 x.b0 x.b1 x.b2 x.b3].take 1).flatMap Yr.cells=(([]:List Yr).flatMap Yr.cells++Yr.cells ⟨1,1,(ma:Int),(nb:Int)*5,ov⟩).set 1 (I 5):=by
          show [gX 0 x.a0 x.a1 x.a2 x.a3].flatMap Yr.cells=_
          rw [hy]
          simp [Yr.cells]
         rw [e]
         exact h
        case measure=>simp [intOf]
     ·have x4:wr.cell? ⟨w.heap.size,8,none⟩=some (.int .u8 (x.b0.toNat:Int)):=(HX.out.x.2 8).trans (by rw [←FK.out];rfl)
      have x5:wr.cell? ⟨w.heap.size,9,none⟩=some (.int .u8 (x.b1.toNat:Int)):=(HX.out.x.2 9).trans (by rw [←FK.out];rfl)
      have x6:wr.cell? ⟨w.heap.size,10,none⟩=some (.int .u8 (x.b2.toNat:Int)):=(HX.out.x.2 10).trans (by rw [←FK.out];rfl)
      have x7:wr.cell? ⟨w.heap.size,11,none⟩=some (.int .u8 (x.b3.toNat:Int)):=(HX.out.x.2 11).trans (by rw [←FK.out];rfl)
      have l0:=dh x.b0
      have l1:=dh x.b1
      have l2:=dh x.b2
      have l3:=dh x.b3
      obtain ⟨na,hna⟩:∃n,x.b0.toNat=n:=⟨_,rfl⟩
      obtain ⟨nb,hnb⟩:∃n,x.b1.toNat=n:=⟨_,rfl⟩
      obtain ⟨nc,hnc⟩:∃n,x.b2.toNat=n:=⟨_,rfl⟩
      obtain ⟨nd,hnd⟩:∃n,x.b3.toNat=n:=⟨_,rfl⟩
      rw [hna] at x4 l0
      rw [hnb] at x5 l1
      rw [hnc] at x6 l2
      rw [hnd] at x7 l3
      obtain ⟨ma,P8⟩:∃n,na%3=n:=⟨_,rfl⟩
      obtain ⟨mc,hmc⟩:∃n,nc%5=n:=⟨_,rfl⟩
      obtain ⟨md,hmd⟩:∃n,nd%2=n:=⟨_,rfl⟩
      have t0:Int.tmod (na:Int) 3=(ma:Int):=by rw [Int.tmod_eq_emod_of_nonneg (by omega)];omega
      have t2:Int.tmod (nc:Int) 5=(mc:Int):=by rw [Int.tmod_eq_emod_of_nonneg (by omega)];omega
      have t3:Int.tmod (nd:Int) 2=(md:Int):=by rw [Int.tmod_eq_emod_of_nonneg (by omega)];omega
      have u0:(ma:Int)%256=ma:=by omega
      have u2:(mc:Int)%256=mc:=by omega
      have u3:(md:Int)%256=md:=by omega
      have Js:md=0∨md=1:=by omega
      have qK:=ae (fun W=>mD mc W (by omega))
      obtain ⟨ov,hov⟩:∃v,jh mc=v:=⟨_,rfl⟩
      rw [hov] at qK
      have yS:Hid (gX 1 x.b0 x.b1 x.b2 x.b3=⟨2,if md=1 then 5 else 1,(ma:Int),((nb*5:Nat):Int),ov⟩):=ae (by unfold gX;rw [hna,hnb,hnc,hnd,P8,hmc,hmd,hov];rfl)
      clear hna hnb hnc hnd P8 hmc hmd hov
      have hwl:w.heap.size<wr.heap.size:=HX.out.x.1
      go_upto_region 17 with fail
      have HV:Hid (MZ w xs zb B5 #[I 2, .slice (some ⟨mb,0,none⟩) 2 2,I (-1), .slice none 0 0,I st, .slice C cnt cc,I hz,(.slice D 1 dc)] (some ⟨mb,0,none⟩) none C [I 7,I 6] [] ((gz x.bT x.dE cnt).flatMap Tr.cells) (wr.alloc (.cells #[.int .u8 (na:Int), .int .u8 (nb:Int), .int .u8 (nc:Int), .int .u8 (nd:Int)] 85))):=ae (HX.out.grow (ag wr _))
      have DU:Hid (World.ownsRow (wr.alloc (.cells #[.int .u8 (na:Int), .int .u8 (nb:Int), .int .u8 (nc:Int), .int .u8 (nd:Int)] 85)) B5 129 5 (.slice D 1 dc) 1 ([gX 0 x.a0 x.a1 x.a2 x.a3].flatMap Yr.cells)):=ae (zA.out.alloc _)
      have DT:Hid (∀g,(Value.slice D 1 dc).ownBlock=some g→g<wr.heap.size):=ae (fun g hg=>(World.ownsRow.lt zA.out g hg).2)
      have mf:=ae (Row.new wr #[.int .u8 (na:Int), .int .u8 (nb:Int), .int .u8 (nc:Int), .int .u8 (nd:Int)] 85)
      have Jl:B5≤wr.heap.size:=HX.out.sz
      obtain ⟨yv,hyv⟩:∃n,wr.heap.size=n:=⟨_,rfl⟩
      rw [hyv] at mf Jl DT
      rw [hyv]
      clear x4 x5 x6 x7 l0 l2 l3 hwl
      generalize wr.alloc (.cells #[.int .u8 (na:Int), .int .u8 (nb:Int), .int .u8 (nc:Int), .int .u8 (nd:Int)] 85)=V at HV DU mf ⊢
      clear hyv HX zA
      have hzv:zb<yv:=by omega
      have XX:yv<V.heap.size:=mf.out.1
      have hw1:IntKind.i64.wrap 2=2:=by rw [IntKind.wrap_i64];omega
      have TQ:IntKind.i64.wrap (ma:Int)=ma:=by rw [IntKind.wrap_i64];omega
      have hwb:IntKind.i64.wrap (nb:Int)=nb:=by rw [IntKind.wrap_i64];omega
      have hwc:IntKind.i64.wrap ((nb:Int)*5)=(nb:Int)*5:=by rw [IntKind.wrap_i64];omega
      go_cut [107] (fun _ wx=>∃gg cap,wx.ownsRow B5 129 5 (.slice (some ⟨gg,0,none⟩) 2 cap) 2 ([gX 0 x.a0 x.a1 x.a2 x.a3].flatMap Yr.cells++Yr.cells ⟨2,1,(ma:Int),(nb:Int)*5,ov⟩)∧MZ w xs zb B5 #[I 2, .slice (some ⟨mb,0,none⟩) 2 2,I (-1), .slice none 0 0,I st, .slice C cnt cc,I hz,(.slice (some ⟨gg,0,none⟩) 2 cap)] (some ⟨mb,0,none⟩) none C [I 7,I 6] [] ((gz x.bT x.dE cnt).flatMap Tr.cells) wx∧Row wx yv #[.int .u8 (na:Int), .int .u8 (nb:Int), .int .u8 (nc:Int), .int .u8 (nd:Int)])
      case first=>
       have hS0:(lF yv (.int .u8 (na:Int)) (.int .u8 (nb:Int)) (.int .u8 (nc:Int)) (.int .u8 (nd:Int))) V.drew:=lF.of ⟨mf.out.1,mf.out.2⟩
       refine wp_region_held_drew (S:=(lF yv (.int .u8 (na:Int)) (.int .u8 (nb:Int)) (.int .u8 (nc:Int)) (.int .u8 (nd:Int)))) (by kernel_rfl) hS0 (fun _=>?_)
       refine aC 0 (.pointer (some ⟨zb,7,none⟩)) 89 hS0 (fun w' hSw=>?_) ?_
       ·obtain ⟨s0,s1,s2,s3⟩:=hSw
        go_simp
       refine ax ?_
       refine aC 2 (.int .i64 1) 91 hS0 (fun w' hSw=>?_) ?_
       ·obtain ⟨s0,s1,s2,s3⟩:=hSw
        go_simp
       refine ax ?_
       refine aC 3 (.int .i64 2) 92 hS0 (fun w' hSw=>?_) ?_
       ·obtain ⟨s0,s1,s2,s3⟩:=hSw
        go_simp
       refine ax ?_
       refine aC 4 (.pointer (some ⟨yv,0,none⟩)) 93 hS0 (fun w' hSw=>?_) ?_
       ·obtain ⟨s0,s1,s2,s3⟩:=hSw
        go_simp
       refine ax ?_
       refine aC 5 (.int .u8 (na:Int)) 94 hS0 (fun w' hSw=>?_) ?_
       ·obtain ⟨s0,s1,s2,s3⟩:=hSw
        go_simp
       refine ax ?_
       refine aC 6 (.int .u8 (ma:Int)) 95 hS0 (fun w' hSw=>?_) ?_
       ·obtain ⟨s0,s1,s2,s3⟩:=hSw
        go_simp
       refine ax ?_
       refine aC 7 (.int .i64 (ma:Int)) 96 hS0 (fun w' hSw=>?_) ?_
       ·obtain ⟨s0,s1,s2,s3⟩:=hSw
        go_simp
       refine ax ?_
       refine aC 8 (.pointer (some ⟨yv,1,none⟩)) 97 hS0 (fun w' hSw=>?_) ?_
       ·obtain ⟨s0,s1,s2,s3⟩:=hSw
        go_simp
       refine ax ?_
       refine aC 9 (.int .u8 (nb:Int)) 98 hS0 (fun w' hSw=>?_) ?_
       ·obtain ⟨s0,s1,s2,s3⟩:=hSw
        go_simp
       refine ax ?_
       refine aC 10 (.int .i64 (nb:Int)) 99 hS0 (fun w' hSw=>?_) ?_
       ·obtain ⟨s0,s1,s2,s3⟩:=hSw
        go_simp
       refine ax ?_
       refine aC 11 (.int .i64 ((nb:Int)*5)) 100 hS0 (fun w' hSw=>?_) ?_
       ·obtain ⟨s0,s1,s2,s3⟩:=hSw
        go_simp
       refine ax ?_
       refine aC 12 (.pointer (some ⟨yv,2,none⟩)) 101 hS0 (fun w' hSw=>?_) ?_
       ·obtain ⟨s0,s1,s2,s3⟩:=hSw
        go_simp
       refine ax ?_
       refine aC 13 (.int .u8 (nc:Int)) 102 hS0 (fun w' hSw=>?_) ?_
       ·obtain ⟨s0,s1,s2,s3⟩:=hSw
        go_simp
       refine ax ?_
       refine aC 14 (.int .u8 (mc:Int)) 103 hS0 (fun w' hSw=>?_) ?_
       ·obtain ⟨s0,s1,s2,s3⟩:=hSw
        go_simp
       refine ax ?_
       refine jr 1 15 (fun K hK=>?_) (fun K hK=>?_)
       ·have z7:V.drew.cell? ⟨zb,7,none⟩=some (.slice D 1 dc):=HV.out.drew.cell 7
        go_simp
        refine hK.out _ _ hS0 (fun hS1=>?_)
        clear hK K z7
        refine ax ?_
        refine aV 15 (fun K hK=>?_)
        go_simp
        refine (qK.out _).mono ?_
        rintro e w5 ⟨rfl,hb5⟩
        have mX:=ae (HV.out.drew.grow hb5)
        have kT:Hid (w5.ownsRow B5 129 5 (.slice D 1 dc) 1 ([gX 0 x.a0 x.a1 x.a2 x.a3].flatMap Yr.cells)):=ae (own_below (show World.ownsRow V.drew _ _ _ _ _ _ from DU.out) hb5)
        have l9:Hid (Row w5 yv #[.int .u8 (na:Int), .int .u8 (nb:Int), .int .u8 (nc:Int), .int .u8 (nd:Int)]):=ae ((show Row V.drew yv _ from ⟨mf.out.1,mf.out.2⟩).keep hb5)
        have hsz5:B5≤w5.heap.size:=mX.out.sz
        clear hb5
        refine hK.out _ _ (lF.of l9.out) (fun hS5=>?_)
        clear hK K
        refine ax ?_
        refine aC 16 (.agg #[I 2,I 1,I (ma:Int),I ((nb:Int)*5),I ov]) 105 hS5 (fun w' hSw=>?_) ?_
        ·obtain ⟨s0,s1,s2,s3⟩:=hSw
         go_simp
        refine ax ?_
        refine aV 17 (fun K hK=>?_)
        go_simp
        have yu:=ae (l9.out.keep (ag w5 (.cells #[I 2,I 1,I (ma:Int),I ((nb:Int)*5),I ov] 129)))
        refine hK.out _ _ (lF.of yu.out) (fun Jm=>?_)
        clear hK K
        refine ax ?_
        refine aV 18 (fun K hK=>?_)
        refine step_append_lies _ (by rfl) _ _ _ (by rfl) B5 129 i1 (.agg #[I 0,I 0,I 0,I 0,I 0]) 5 40 Tryz.underlying65 hyi uM uN uO rfl (by omega) (.slice D 1 dc) 1 ([gX 0 x.a0 x.a1 x.a2 x.a3].flatMap Yr.cells) (by rfl) (kT.out.alloc _) ⟨w5.heap.size,0,none⟩ 1 1 (Yr.cells ⟨2,1,(ma:Int),(nb:Int)*5,ov⟩) (by rfl) rfl (bI _ _ _ _ rfl) (lU ⟨2,1,(ma:Int),(nb:Int)*5,ov⟩) (by omega) (by unfold maxLen;omega) (by omega) (by simp;omega) _ rfl ?_
        intro gg cap w6 hown6 hgrow6 _ _
        have jo:=ae ((mX.out.grow (ag w5 (.cells #[I 2,I 1,I (ma:Int),I ((nb:Int)*5),I ov] 129))).grown hgrow6 (own_base kT.out))
        have mM:=ae ((l9.out.keep (ag w5 (.cells #[I 2,I 1,I (ma:Int),I ((nb:Int)*5),I ov] 129))).grown hgrow6 (kY DT.out))
        have qY:=ae hown6
        clear hown6 hgrow6
        refine hK.out _ _ (lF.of mM.out) (fun hS6=>?_)
        clear hK K
        try simp only [Act.put,List.setIfInBounds_toArray]
        refine aC 19 (.pointer (some ⟨zb,7,none⟩)) 108 hS6 (fun w' hSw=>?_) ?_
        ·obtain ⟨s0,s1,s2,s3⟩:=hSw
         go_simp
        try simp only [Act.put]
        refine aV 20 (fun K hK=>?_)
        have wH:w6.cell? ⟨zb,7,none⟩=some (.slice D 1 dc):=jo.out.cell 7
        have f66:w6.frozen? ⟨zb,7,none⟩=false:=jo.out.dK 7
        go_simp
        have gG:=ae (jo.out.store 7 (.slice (some ⟨gg,0,none⟩) 2 cap))
        have rH:Hid (Row (w6.setCell ⟨zb,7,none⟩ (.slice (some ⟨gg,0,none⟩) 2 cap)) yv #[.int .u8 (na:Int), .int .u8 (nb:Int), .int .u8 (nc:Int), .int .u8 (nd:Int)]):=ae ⟨by simpa using mM.out.1,fun i=>(World.cell?_setCell_other _ _ _ _ (by first|(simp;done)|(simp;omega))).trans (mM.out.2 i)⟩
        refine hK.out _ _ (lF.of rH.out) (fun _=>?_)
        clear hK K
        refine wpAnyH_done (by kernel_rfl) ?_ _
        go_wp2_with fail
        go_meet
        exact ⟨gg,cap,ownsRow_setCell_below (a:=⟨zb,7,none⟩) qY.out BO _,gG.out,rH.out⟩
       ·go_simp
        refine (qK.out _).mono ?_
        rintro e w5 ⟨rfl,hb5⟩
        have mX:=ae (HV.out.drew.grow hb5)
        have kT:Hid (w5.ownsRow B5 129 5 (.slice D 1 dc) 1 ([gX 0 x.a0 x.a1 x.a2 x.a3].flatMap Yr.cells)):=ae (own_below (show World.ownsRow V.drew _ _ _ _ _ _ from DU.out) hb5)
        have l9:Hid (Row w5 yv #[.int .u8 (na:Int), .int .u8 (nb:Int), .int .u8 (nc:Int), .int .u8 (nd:Int)]):=ae ((show Row V.drew yv _ from ⟨mf.out.1,mf.out.2⟩).keep hb5)
        have hsz5:B5≤w5.heap.size:=mX.out.sz
        clear hb5
        refine hK.out _ _ (lF.of l9.out) (fun hS5=>?_)
        clear hK K
        refine ax ?_
        refine aC 16 (.agg #[I 2,I 1,I (ma:Int),I ((nb:Int)*5),I ov]) 105 hS5 (fun w' hSw=>?_) ?_
        ·obtain ⟨s0,s1,s2,s3⟩:=hSw
         go_simp
        refine ax ?_
        refine jr 1 17 (fun K hK=>?_) (fun K hK=>?_)
        ·have z7:w5.cell? ⟨zb,7,none⟩=some (.slice D 1 dc):=mX.out.cell 7
         go_simp
         refine hK.out _ _ hS5 (fun hS1=>?_)
         clear hK K z7
         refine ax ?_
         refine aV 17 (fun K hK=>?_)
         go_simp
         have yu:=ae (l9.out.keep (ag w5 (.cells #[I 2,I 1,I (ma:Int),I ((nb:Int)*5),I ov] 129)))
         refine hK.out _ _ (lF.of yu.out) (fun Jm=>?_)
         clear hK K
         refine ax ?_
         refine aV 18 (fun K hK=>?_)
         refine step_append_lies _ (by rfl) _ _ _ (by rfl) B5 129 i1 (.agg #[I 0,I 0,I 0,I 0,I 0]) 5 40 Tryz.underlying65 hyi uM uN uO rfl (by omega) (.slice D 1 dc) 1 ([gX 0 x.a0 x.a1 x.a2 x.a3].flatMap Yr.cells) (by rfl) (kT.out.alloc _) ⟨w5.heap.size,0,none⟩ 1 1 (Yr.cells ⟨2,1,(ma:Int),(nb:Int)*5,ov⟩) (by rfl) rfl (bI _ _ _ _ rfl) (lU ⟨2,1,(ma:Int),(nb:Int)*5,ov⟩) (by omega) (by unfold maxLen;omega) (by omega) (by simp;omega) _ rfl ?_
         intro gg cap w6 hown6 hgrow6 _ _
         have jo:=ae ((mX.out.grow (ag w5 (.cells #[I 2,I 1,I (ma:Int),I ((nb:Int)*5),I ov] 129))).grown hgrow6 (own_base kT.out))
         have mM:=ae ((l9.out.keep (ag w5 (.cells #[I 2,I 1,I (ma:Int),I ((nb:Int)*5),I ov] 129))).grown hgrow6 (kY DT.out))
         have qY:=ae hown6
         clear hown6 hgrow6
         refine hK.out _ _ (lF.of mM.out) (fun hS6=>?_)
         clear hK K
         try simp only [Act.put,List.setIfInBounds_toArray]
         refine aC 19 (.pointer (some ⟨zb,7,none⟩)) 108 hS6 (fun w' hSw=>?_) ?_
         ·obtain ⟨s0,s1,s2,s3⟩:=hSw
          go_simp
         try simp only [Act.put]
         refine aV 20 (fun K hK=>?_)
         have wH:w6.cell? ⟨zb,7,none⟩=some (.slice D 1 dc):=jo.out.cell 7
         have f66:w6.frozen? ⟨zb,7,none⟩=false:=jo.out.dK 7
         go_simp
         have gG:=ae (jo.out.store 7 (.slice (some ⟨gg,0,none⟩) 2 cap))
         have rH:Hid (Row (w6.setCell ⟨zb,7,none⟩ (.slice (some ⟨gg,0,none⟩) 2 cap)) yv #[.int .u8 (na:Int), .int .u8 (nb:Int), .int .u8 (nc:Int), .int .u8 (nd:Int)]):=ae ⟨by simpa using mM.out.1,fun i=>(World.cell?_setCell_other _ _ _ _ (by first|(simp;done)|(simp;omega))).trans (mM.out.2 i)⟩
         refine hK.out _ _ (lF.of rH.out) (fun _=>?_)
         clear hK K
         refine wpAnyH_done (by kernel_rfl) ?_ _
         go_wp2_with fail
         go_meet
         exact ⟨gg,cap,ownsRow_setCell_below (a:=⟨zb,7,none⟩) qY.out BO _,gG.out,rH.out⟩
        ·go_simp
         have yu:=ae (l9.out.keep (ag w5 (.cells #[I 2,I 1,I (ma:Int),I ((nb:Int)*5),I ov] 129)))
         refine hK.out _ _ (lF.of yu.out) (fun Jm=>?_)
         clear hK K
         refine ax ?_
         refine aV 1 (fun K hK=>?_)
         have HXB:=ae (mX.out.grow (ag w5 (.cells #[I 2,I 1,I (ma:Int),I ((nb:Int)*5),I ov] 129)))
         have z7:(w5.alloc (.cells #[I 2,I 1,I (ma:Int),I ((nb:Int)*5),I ov] 129)).cell? ⟨zb,7,none⟩=some (.slice D 1 dc):=HXB.out.cell 7
         go_simp
         refine hK.out _ _ Jm (fun hS1=>?_)
         clear hK K z7
         refine ax ?_
         refine aV 18 (fun K hK=>?_)
         refine step_append_lies _ (by rfl) _ _ _ (by rfl) B5 129 i1 (.agg #[I 0,I 0,I 0,I 0,I 0]) 5 40 Tryz.underlying65 hyi uM uN uO rfl (by omega) (.slice D 1 dc) 1 ([gX 0 x.a0 x.a1 x.a2 x.a3].flatMap Yr.cells) (by rfl) (kT.out.alloc _) ⟨w5.heap.size,0,none⟩ 1 1 (Yr.cells ⟨2,1,(ma:Int),(nb:Int)*5,ov⟩) (by rfl) rfl (bI _ _ _ _ rfl) (lU ⟨2,1,(ma:Int),(nb:Int)*5,ov⟩) (by omega) (by unfold maxLen;omega) (by omega) (by simp;omega) _ rfl ?_
         intro gg cap w6 hown6 hgrow6 _ _
         have jo:=ae ((mX.out.grow (ag w5 (.cells #[I 2,I 1,I (ma:Int),I ((nb:Int)*5),I ov] 129))).grown hgrow6 (own_base kT.out))
         have mM:=ae ((l9.out.keep (ag w5 (.cells #[I 2,I 1,I (ma:Int),I ((nb:Int)*5),I ov] 129))).grown hgrow6 (kY DT.out))
         have qY:=ae hown6
         clear hown6 hgrow6
         refine hK.out _ _ (lF.of mM.out) (fun hS6=>?_)
         clear hK K
         try simp only [Act.put,List.setIfInBounds_toArray]
         refine aC 19 (.pointer (some ⟨zb,7,none⟩)) 108 hS6 (fun w' hSw=>?_) ?_
         ·obtain ⟨s0,s1,s2,s3⟩:=hSw
          go_simp
         try simp only [Act.put]
         refine aV 20 (fun K hK=>?_)
         have wH:w6.cell? ⟨zb,7,none⟩=some (.slice D 1 dc):=jo.out.cell 7
         have f66:w6.frozen? ⟨zb,7,none⟩=false:=jo.out.dK 7
         go_simp
         have gG:=ae (jo.out.store 7 (.slice (some ⟨gg,0,none⟩) 2 cap))
         have rH:Hid (Row (w6.setCell ⟨zb,7,none⟩ (.slice (some ⟨gg,0,none⟩) 2 cap)) yv #[.int .u8 (na:Int), .int .u8 (nb:Int), .int .u8 (nc:Int), .int .u8 (nd:Int)]):=ae ⟨by simpa using mM.out.1,fun i=>(World.cell?_setCell_other _ _ _ _ (by first|(simp;done)|(simp;omega))).trans (mM.out.2 i)⟩
         refine hK.out _ _ (lF.of rH.out) (fun _=>?_)
         clear hK K
         refine wpAnyH_done (by kernel_rfl) ?_ _
         go_wp2_with fail
         go_meet
         exact ⟨gg,cap,ownsRow_setCell_below (a:=⟨zb,7,none⟩) qY.out BO _,gG.out,rH.out⟩
      case rest=>
       obtain ⟨gg,cap,hown,hmz,En⟩:=hcut
       have IC:=ae hown
       have OJ:=ae hmz
       have hgl:gg<wc.heap.size:=(World.ownsRow.lt hown gg rfl).2
       have hgB:B5≤gg:=(World.ownsRow.lt hown gg rfl).1
       have y3:wc.cell? ⟨yv,3,none⟩=some (.int .u8 (nd:Int)):=En.2 3
       have z7:wc.cell? ⟨zb,7,none⟩=some (.slice (some ⟨gg,0,none⟩) 2 cap):=hmz.cell 7
       have q1:wc.cell? ⟨gg,6,none⟩=some (I 1):=(hown.cellAt 6 (by omega)).trans rfl
       have qf:∀j,wc.frozen? ⟨gg,j,none⟩=false:=fun j=>hown.frozenAt j
       clear hown hmz En
       rcases Js with rfl|rfl
       ·go_wp2_with fail
        go_roundw
        case rel=>
         have hy:=yS.out
         rw [if_neg (by omega)] at hy
         refine ⟨2,cap,some ⟨gg,0,none⟩,by omega,by go_num,?_,OJ.out⟩
         have h:=IC.out
         have e:([gX 0 x.a0 x.a1 x.a2 x.a3,gX 1 x.b0 x.b1 x.b2 x.b3].take 2).flatMap Yr.cells= [gX 0 x.a0 x.a1 x.a2 x.a3].flatMap Yr.cells++Yr.cells ⟨2,1,(ma:Int),(nb:Int)*5,ov⟩:=by
          show [gX 0 x.a0 x.a1 x.a2 x.a3,gX 1 x.b0 x.b1 x.b2 x.b3].flatMap Yr.cells=_
          rw [hy]
          simp [Yr.cells]
         rw [e]
         exact h
        case measure=>simp [intOf]
       ·go_wp2_with fail
        go_roundw
        case rel=>
         have hy:=yS.out
         rw [if_pos rfl] at hy
         refine ⟨2,cap,some ⟨gg,0,none⟩,by omega,by go_num,?_,OJ.out.grown (IC.out.stored 6 (I 5)).2 (fun g hg=>by injection hg with hg;omega)⟩
         have h:=(IC.out.stored 6 (I 5)).1
         have e:([gX 0 x.a0 x.a1 x.a2 x.a3,gX 1 x.b0 x.b1 x.b2 x.b3].take 2).flatMap Yr.cells=([gX 0 x.a0 x.a1 x.a2 x.a3].flatMap Yr.cells++Yr.cells ⟨2,1,(ma:Int),(nb:Int)*5,ov⟩).set 6 (I 5):=by
          show [gX 0 x.a0 x.a1 x.a2 x.a3,gX 1 x.b0 x.b1 x.b2 x.b3].flatMap Yr.cells=_
          rw [hy]
          simp [Yr.cells]
         rw [e]
         exact h
        case measure=>simp [intOf]
     ·go_wp2_with fail
      go_meet
      exact ⟨rfl,D,dc,zA.out,HX.out⟩
   case rest=>
    obtain ⟨rfl,D,dc,hyo,hmz⟩:=hcut
    have zA:=ae hyo
    have HX:=ae hmz
    clear hyo hmz rq hyi uM uN uO
    have Ql:ay (KC x) ⟨some ⟨mb,0,none⟩,2,none,0,C,cc,D,dc⟩= #[I 2, .slice (some ⟨mb,0,none⟩) 2 2,I (-1), .slice none 0 0,I st, .slice C cnt cc,I hz,(.slice D 2 dc)]:=by
     have h:=WZ.out
     unfold ay at h ⊢
     unfold KC
     simp only [List.length_cons,List.length_nil,Nat.zero_add,Nat.reduceAdd]
     have e0:(y8 x).aB= []:=rfl
     rw [e0] at h
     injection h with h
     simp only [List.cons.injEq] at h
     obtain ⟨h0,h1,h2,h3,h4,h5,h6,_⟩:=h
     rw [h0,h1,h2,h3,h4,h5,h6]
    have HZ1:=ae Ql
    have hval:Calls Tryz.prog 53 #[.agg #[I 2, .slice (some ⟨mb,0,none⟩) 2 2,I (-1), .slice none 0 0,I st, .slice C cnt cc,I hz,(.slice D 2 dc)]] wc (Gives (.int .i64 (wV (KC x))) wc):=by
     have h1:=HX.out.Qu.at HX.out.sz
     have h2:=HX.out.VB.at HX.out.sz
     have h3:=HX.out.RH.at HX.out.sz
     have h0:=y9 x rG.out rE.out (s:=⟨some ⟨mb,0,none⟩,2,none,0,C,cc,D,dc⟩) h1 h3
     have h:=Aq (KC x) ⟨some ⟨mb,0,none⟩,2,none,0,C,cc,D,dc⟩ wc (Q8 x) ⟨h0.au,h0.rules,h0.trans,az.dW zA.out⟩
     rw [HZ1.out] at h
     exact h
    have rJ:Hid (Row wc zb #[I 2, .slice (some ⟨mb,0,none⟩) 2 2,I (-1), .slice none 0 0,I st, .slice C cnt cc,I hz,(.slice D 2 dc)]):=ae ⟨HX.out.Oe,fun i=>HX.out.cell i⟩
    have gI:=ae hval
    clear hval Ql
    go_wp2_with ((with_reducible refine gU 67 ?_);go_must (refine aU rfl _ _ rfl zb rfl #[I 2, .slice (some ⟨mb,0,none⟩) 2 2,I (-1), .slice none 0 0,I st, .slice C cnt cc,I hz,(.slice D 2 dc)] rJ.out _ Tryz.underlying67 rfl (by kernel_rfl) ?_))
    refine gI.out.mono ?_
    rintro e w8 ⟨rfl,hb8⟩
    have wF:=ae (HX.out.grow hb8)
    have WU:Hid (w8.ownsRow B5 129 5 (.slice D 2 dc) 2 ([gX 0 x.a0 x.a1 x.a2 x.a3,gX 1 x.b0 x.b1 x.b2 x.b3].flatMap Yr.cells)):=ae (own_below zA.out hb8)
    clear hb8 gI rJ HX zA
    obtain ⟨rv,En⟩:∃v,wV (KC x)=v:=⟨_,rfl⟩
    rw [En]
    have mf:=ae En
    clear En
    by_cases hr0:rv=0
    ·subst hr0
     have hone:(#[I 2, .slice (some ⟨mb,0,none⟩) 2 2,I (-1), .slice none 0 0,I st, .slice C cnt cc,I hz,(.slice D 2 dc)]:Array Value).all (·.oneCell')=true:=by simp [Value.oneCell']
     have rJ:Hid (Row w8 zb #[I 2, .slice (some ⟨mb,0,none⟩) 2 2,I (-1), .slice none 0 0,I st, .slice C cnt cc,I hz,(.slice D 2 dc)]):=ae ⟨wF.out.Oe,fun i=>wF.out.cell i⟩
     have eY:Hid (eu x=KC x):=ae (by unfold eu;rw [if_pos ⟨Z8.out,mf.out⟩])
     go_wp2_with (first
      |((with_reducible refine gU 67 ?_);go_must (refine aU rfl _ _ rfl zb rfl #[I 2, .slice (some ⟨mb,0,none⟩) 2 2,I (-1), .slice none 0 0,I st, .slice C cnt cc,I hz,(.slice D 2 dc)] rJ.out _ Tryz.underlying67 rfl (by kernel_rfl) ?_))
      |((with_reducible refine gV 67 ?_);go_must (refine wpList_store_row rfl _ _ _ rfl (w.heap.size+1) #[I 2, .slice (some ⟨mb,0,none⟩) 2 2,I (-1), .slice none 0 0,I st, .slice C cnt cc,I hz,(.slice D 2 dc)] rfl rfl 67 iE wF.out.res (by kernel_rfl) rfl hone ?_)))
     obtain ⟨d1,d2,d3,d4⟩:=wF.out.done #[I 2, .slice (some ⟨mb,0,none⟩) 2 2,I (-1), .slice none 0 0,I st, .slice C cnt cc,I hz,(.slice D 2 dc)]
     have d5:az (w8.setRow (w.heap.size+1) #[I 2, .slice (some ⟨mb,0,none⟩) 2 2,I (-1), .slice none 0 0,I st, .slice C cnt cc,I hz,(.slice D 2 dc)]) (w8.setRow (w.heap.size+1) #[I 2, .slice (some ⟨mb,0,none⟩) 2 2,I (-1), .slice none 0 0,I st, .slice C cnt cc,I hz,(.slice D 2 dc)]).heap.size D ([gX 0 x.a0 x.a1 x.a2 x.a3,gX 1 x.b0 x.b1 x.b2 x.b3].flatMap Yr.cells):=by
      have h1:LZ (w.heap.size+2) w8.heap.size zb w8 D ([gX 0 x.a0 x.a1 x.a2 x.a3,gX 1 x.b0 x.b1 x.b2 x.b3].flatMap Yr.cells):=LZ.dW WU.out (by omega) BO (Nat.le_refl _)
      exact (h1.aP fun k hk _ _=>setRow_other _ _ k _ (by omega)).at (by simp [World.setRow])
     have h0:=y9 x rG.out rE.out (s:=⟨some ⟨mb,0,none⟩,2,none,0,C,cc,D,dc⟩) d1 d3
     refine bodyPost_ret (v:= .agg #[I 2, .slice (some ⟨mb,0,none⟩) 2 2,I (-1), .slice none 0 0,I st, .slice C cnt cc,I hz,(.slice D 2 dc)]) (results_cell_row rfl _ _ (w.heap.size+1) _ #[I 2, .slice (some ⟨mb,0,none⟩) 2 2,I (-1), .slice none 0 0,I st, .slice C cnt cc,I hz,(.slice D 2 dc)] (0,0) _ rfl (setRow_heap _ _ _ _ _ _ wF.out.res) Tryz.underlying67 rfl (by kernel_rfl)) rfl ?_
     have l5:LZ (w.heap.size+2) w8.heap.size zb w8 D ([gX 0 x.a0 x.a1 x.a2 x.a3,gX 1 x.b0 x.b1 x.b2 x.b3].flatMap Yr.cells):=LZ.dW WU.out (by omega) BO (Nat.le_refl _)
     have l0:zG w.heap.size ⟨some ⟨mb,0,none⟩,2,none,0,C,cc,D,dc⟩ (y8 x):=(Bf x rG.out rE.out (wF.out.Qu.low (Nat.le_add_right _ _)) (wF.out.RH.low (Nat.le_add_right _ _)))
     refine ⟨⟨some ⟨mb,0,none⟩,2,none,0,C,cc,D,dc⟩,by rw [eY.out,HZ1.out],?_,?_,d4⟩
     ·rw [eY.out]
      exact ⟨h0.au,h0.rules,h0.trans,d5⟩
     ·rw [eY.out]
      exact ⟨l0.1,l0.2.1,l0.2.2.1,l5.low (Nat.le_add_right _ _)⟩
    ·have hne:(rv !=0)=true:=by simp [hr0]
     have eY:Hid (eu x=y8 x):=ae (by unfold eu;rw [if_neg (by intro h;exact hr0 (mf.out.symm.trans h.2))])
     have z7:w8.cell? ⟨zb,7,none⟩=some (.slice D 2 dc):=wF.out.cell 7
     have f7:w8.frozen? ⟨zb,7,none⟩=false:=wF.out.dK 7
     go_upto_region 22 with fail
     have rP:Hid (MZ w xs zb B5 #[I 2, .slice (some ⟨mb,0,none⟩) 2 2,I (-1), .slice none 0 0,I st, .slice C cnt cc,I hz,(.slice none 0 0)] (some ⟨mb,0,none⟩) none C [I 7,I 6] [] ((gz x.bT x.dE cnt).flatMap Tr.cells) (w8.setCell ⟨zb,7,none⟩ (.slice none 0 0))):=ae (wF.out.store 7 (.slice none 0 0))
     clear z7 f7 WU wF
     generalize w8.setCell ⟨zb,7,none⟩ (.slice none 0 0)=W9 at rP ⊢
     have hone:(#[I 2, .slice (some ⟨mb,0,none⟩) 2 2,I (-1), .slice none 0 0,I st, .slice C cnt cc,I hz,(.slice none 0 0)]:Array Value).all (·.oneCell')=true:=by simp [Value.oneCell']
     have rJ:Hid (Row W9 zb #[I 2, .slice (some ⟨mb,0,none⟩) 2 2,I (-1), .slice none 0 0,I st, .slice C cnt cc,I hz,(.slice none 0 0)]):=ae ⟨rP.out.Oe,fun i=>rP.out.cell i⟩
     go_wp2_with (first
      |((with_reducible refine gU 67 ?_);go_must (refine aU rfl _ _ rfl zb rfl #[I 2, .slice (some ⟨mb,0,none⟩) 2 2,I (-1), .slice none 0 0,I st, .slice C cnt cc,I hz,(.slice none 0 0)] rJ.out _ Tryz.underlying67 rfl (by kernel_rfl) ?_))
      |((with_reducible refine gV 67 ?_);go_must (refine wpList_store_row rfl _ _ _ rfl (w.heap.size+1) #[I 2, .slice (some ⟨mb,0,none⟩) 2 2,I (-1), .slice none 0 0,I st, .slice C cnt cc,I hz,(.slice none 0 0)] rfl rfl 67 iE rP.out.res (by kernel_rfl) rfl hone ?_)))
     obtain ⟨d1,d2,d3,d4⟩:=rP.out.done #[I 2, .slice (some ⟨mb,0,none⟩) 2 2,I (-1), .slice none 0 0,I st, .slice C cnt cc,I hz,(.slice none 0 0)]
     have h0:=y9 x rG.out rE.out (s:=⟨some ⟨mb,0,none⟩,2,none,0,C,cc,none,0⟩) d1 d3
     refine bodyPost_ret (v:= .agg #[I 2, .slice (some ⟨mb,0,none⟩) 2 2,I (-1), .slice none 0 0,I st, .slice C cnt cc,I hz,(.slice none 0 0)]) (results_cell_row rfl _ _ (w.heap.size+1) _ #[I 2, .slice (some ⟨mb,0,none⟩) 2 2,I (-1), .slice none 0 0,I st, .slice C cnt cc,I hz,(.slice none 0 0)] (0,0) _ rfl (setRow_heap _ _ _ _ _ _ rP.out.res) Tryz.underlying67 rfl (by kernel_rfl)) rfl ?_
     refine ⟨⟨some ⟨mb,0,none⟩,2,none,0,C,cc,none,0⟩,by rw [eY.out,WZ.out],?_,?_,d4⟩
     ·rw [eY.out]
      exact h0
     ·rw [eY.out]
      exact (Bf x rG.out rE.out (rP.out.Qu.low (Nat.le_add_right _ _)) (rP.out.RH.low (Nat.le_add_right _ _)))
end Go.Proofs.YtdibbemgpikgjaaGreatDoor
