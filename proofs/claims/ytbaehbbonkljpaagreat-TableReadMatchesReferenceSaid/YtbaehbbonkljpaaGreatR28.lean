/- The texts La, Qh, Lb, Va, in this order. -/
import Derived.Test.YtbaehbbonkljpaaGreatR00
import Derived.Test.YtbaehbbonkljpaaGreatR05
import Derived.Test.YtbaehbbonkljpaaGreatR09
import Derived.Test.YtbaehbbonkljpaaGreatR14
import Derived.Test.YtbaehbbonkljpaaGreatR27
set_option maxRecDepth 10000
set_option maxHeartbeats 8000000
namespace Go.Proofs.YtbaehbbonkljpaaGreat
open Go Go.RowKit
section
variable {P:Program} {ops:Array Oper} {a:Act} {w:World} {rest:List Oper} {o:Oper}
theorem y8 {Q:Act→Prop} (hw:Region.wanted o (yielded ops a.tmps)=true) (ty:TypeId) (x:Operand) (ho:o.op= .load ty x) (g:Nat) (hx:a.eval x= .pointer (some ⟨g,0,none⟩)) (cs:Array Value) (hr:oL w g cs)
  (d:TypeDesc) (hu:P.underlying ty=some d) (hd:d.isRow=true) (hi:(P.info? ty).map (·.size)=some cs.size)
  (h:wpStill P ops w Q rest (a.put o.dst (.agg cs))):wpStill P ops w Q (o::rest) a:=by
 refine wpStill_step fun K hK=>?_;rw [if_pos hw];have hc:w.rangeAt g 0 cs.toList:=fun j v hv=>by rw [Nat.zero_add,hr.2 j];simpa using hv
 unfold Oper.still execOp;simp only [ho,hx,Instr.loadAt,Instr.sureAddr,Sem.run_bind,Sem.run_pure,Result.andThen_ok,run_loadVar_mid w g 0 ty cs.toList d hc hu hd (by rw [hi];simp)];exact ⟨rfl,hK _ (by simpa using h)⟩
end
def cD (bs:List UInt8):Array Value:=(ay bs).toArray
theorem kY (bs:List UInt8):(cD bs).size=bs.length:=by simp [cD,ay]
theorem uX (bs:List UInt8):(cD bs).all (·.oneCell')=true:=by
 rw [Array.all_eq_true_iff_forall_mem];intro v hv;have h:v∈bs.map Extern.Stop.cell:=by simpa [cD,ay] using hv
 obtain ⟨x,_,rfl⟩:=List.mem_map.1 h;rfl
theorem cD_set (bs:List UInt8) (i:Nat) (x:UInt8):(cD bs).setIfInBounds i (Extern.Stop.cell x)=cD (bs.set i x):=by
 simp [cD,ay,List.map_set]
theorem cD_get (bs:List UInt8) (i:Nat) (h:i<bs.length):(cD bs)[i]? =some (Extern.Stop.cell (bs[i]?.getD 0)):=by
 simp [cD,ay,h]
def d32:List UInt8:=List.replicate 32 0
theorem sJ:(Tryz.prog.info? 24).map (fun i=>(i.zero,i.size))=some (some (.agg (cD d32)),(cD d32).size):=by kernel_rfl
theorem zA:d32.length=32:=by simp [d32]
def Zu:List Int:= [1779033703,3144134277,1013904242,2773480762,1359893119,2600822924,528734635,1541459225]
structure CW (w:World) (zs:List Int) (W:World):Prop where
 r:AV w.heap.size 24 (cD d32) W
 s:AV (w.heap.size+1) 171 (aF zs) W
 lo:Below w.heap.size w W
theorem CW.start (w:World) (z:List Int):CW w Zu (((w.alloc (.cells (cD d32) 24)).alloc (.cells (aF z) 171)).setRow (w.heap.size+1) (aF Zu)):=
 ⟨⟨(setRow_other _ _ _ _ (by omega)).trans (heap_alloc2_old w _ _)⟩,⟨setRow_heap _ _ _ _ _ _ (heap_alloc2_new w _ _)⟩,aB (ai (ag w _) (ag _ _)) (Nat.le_succ _) _⟩
theorem CW.grow {w W W':World} {zs:List Int} (h:CW w zs W) (hb:Below W.heap.size W W'):CW w zs W':=⟨h.r.below hb,h.s.below hb,ai h.lo hb⟩
theorem CW.row {w W:World} {zs:List Int} (h:CW w zs W) (ds:List Int):CW w ds (W.setRow (w.heap.size+1) (aF ds)):=
 ⟨h.r.qO (by omega) _,h.s.oO _,aB h.lo (Nat.le_succ _) _⟩
theorem CW.drew {w W:World} {zs:List Int} (h:CW w zs W):CW w zs W.drew:=⟨⟨h.r.var⟩,⟨h.s.var⟩,⟨h.lo.os,h.lo.tape,h.lo.output,h.lo.size,h.lo.block⟩⟩
theorem CW.far {w W:World} {zs:List Int} (h:CW w zs W) (b:Nat) (hb:w.heap.size+1<b) (o:Nat) (v:Value):CW w zs (W.setCell ⟨b,o,none⟩ v):=
 ⟨h.r.far (by omega) _ _,h.s.far (by omega) _ _,h.lo.setCell (p:=⟨b,o,none⟩) (show w.heap.size≤b by omega) _⟩
theorem CW.farRow {w W:World} {zs:List Int} (h:CW w zs W) (b:Nat) (hb:w.heap.size+1<b) (cs:Array Value):CW w zs (W.setRow b cs):=
 ⟨h.r.qO (by omega) _,h.s.qO (by omega) _,aB h.lo (by omega) _⟩
theorem Ej {w:World} {lo n c:Nat} {A:Option Addr} {bs:List UInt8} (h:mY lo w A n c bs) (h0:0<n):∃g cur,A=some ⟨g,0,none⟩∧lo≤g∧n≤c∧c≤maxLen∧AV g 5 cur w∧∀j,j<n→cur[j]? =some (Extern.Stop.cell (bs[j]?.getD 0)):=by
 have hl:bs.length=n:=by have:=h.1;rw [List.length_map] at this;omega
 rcases h.2 with ⟨_,hn⟩|⟨g,cap,cur,hv,hlo,hh,hnc,hcm,_,ht⟩
 ·omega
 ·injection hv with h1 _ h3;subst h3;refine ⟨g,cur,h1,hlo,hnc,hcm,⟨hh⟩,fun j hj=>?_⟩;have e:(cur.toList.take (n*1))[j]? =some (Extern.Stop.cell (bs[j]?.getD 0)):=by rw [ht,List.getElem?_map,bZ (by omega)];rfl
  rw [List.getElem?_take_of_lt (by omega)] at e;simpa using e
def DgP (w:World) (e:Ending) (w':World):Prop:=∃d:List UInt8,d.length=32∧e= .returned (.agg (cD d))∧Below w.heap.size w w'
theorem Uw (n c:Nat) (A:Option Addr) (bs:List UInt8) (w:World) (hl:bs.length=n) (h0:0<n) (hn:n≤200000) (hb:az w w.heap.size A (bs.map Extern.Stop.cell)):
  Calls Tryz.prog 60 #[.slice A n c] w (DgP w):=by
 have H0:=ae (CW.start w (List.replicate 8 0));have HB:=ae hb;have HL:=ae hl;obtain ⟨u8,Zp⟩:∃l:List Int,List.replicate 8 0=l:=⟨_,rfl⟩;have HU8:Hid ((Tryz.prog.info? 171).map (fun i=>(i.zero,i.size))=some (some (.agg (aF u8)),(aF u8).size)):=ae (by rw [←Zp];exact tZ);have HU9:Hid ((aF u8).size=(aF Zu).size):=ae (by rw [←Zp,bT,bT];simp [Zu]);have HI8:Hid ((Tryz.prog.info? 171).map (·.size)=some (aF Zu).size):=ae (by kernel_rfl);rw [Zp] at H0;have HP:Hid (∀W,Below w.heap.size w W→Calls Tryz.prog 78 #[.slice A n c] W (PadP W n)):=ae fun W h=>Ua n c A bs W hl h0 hn ((hb.keep h).more h.size);clear hb hl Zp;have hpl:=NW n;have hpm:=IL n;obtain ⟨N,hN⟩:∃N,n+9+PL n=N:=⟨_,rfl⟩;have HN:=ae hN;have hNm:N%64=0:=by omega
 have hNb:N≤200100:=by omega
 have hN0:0<N:=by omega
 clear hpl hpm hN;go_enter Tryz.func60,Tryz.ntmps60;go_upto_region 2 with (first
  |((with_reducible refine bf 24 ?_);go_must (refine aI rfl _ rfl (cD d32) sJ ?_))
  |((with_reducible refine bf 171 ?_);go_must (refine aI rfl _ rfl (aF u8) HU8.out ?_))
  |((with_reducible refine dS 171 ?_);go_must (refine wpList_store_row rfl _ _ _ rfl (w.heap.size+1) (aF Zu) (congrArg (fun b=>Value.pointer (some ⟨b,0,none⟩)) (nV w _)) rfl 171 (aF u8) (heap_alloc2_new w _ _) HI8.out HU9.out (iR _) ?_)))
 rw [nV w];generalize ((w.alloc (.cells (cD d32) 24)).alloc (.cells (aF u8) 171)).setRow (w.heap.size+1) (aF Zu)=W1 at H0 ⊢;clear HU8 HU9 HI8;go_wp2_with fail;refine (HP.out _ H0.out.lo).mono ?_;rintro e w2 ⟨ps,hpl,A2,n2,c2,hn2,rfl,hown,hk⟩;have hw1:=H0.out.s.lt;have hb2:Below W1.heap.size W1 w2:=hk.je;have H2:=ae (H0.out.grow hb2);rw [HN.out] at hpl;obtain rfl:n2=N:=by omega
 obtain ⟨pb,cur,rfl,hlo,hnc,hcm,hav,Ff⟩:=Ej hown hN0;have HAV:=ae hav;have HCU:=ae Ff;have hpb:w.heap.size+1<pb:=by omega
 have JV:Hid (ps.length=n2):=ae hpl;have hcI:(c2:Int)≤9223372036854775807:=by unfold maxLen at hcm;omega
 clear hav Ff hcm hb2 hown hk H0 HP hn2 hpl;go_wp2_with fail
 go_loopw [5] (fun i wr=>∃(k:Nat) (zs:List Int),k%64=0∧k≤n2∧i=I k∧zs.length=8∧CW w zs wr∧AV pb 5 cur wr) (fun i _=>n2 - (intOf i).toNat)
 case atStart=>exact ⟨0,Zu,rfl,Nat.zero_le _,rfl,rfl,H2.out,HAV.out⟩
 case round=>
  obtain ⟨k,zs,Xe,hk,rfl,hzl,hs,hav⟩:=hrel;have HS:=ae hs;have HA:=ae hav;have HZ:=ae hzl;clear hs hav hzl H2 HAV;by_cases hlt:(k:Int)<(n2:Int)
  ·have hk64:k+64≤n2:=by omega
   obtain ⟨k2,hk2⟩:∃q:Nat,k+64=q:=⟨_,rfl⟩;have g1:(k:Int)+64=(k2:Int):=by omega
   have g2:(k:Int)≤(k2:Int):=by omega
   have g3:(k2:Int)≤(c2:Int):=by omega
   have g4:IntKind.i64.wrap (k2:Int)=(k2:Int):=by rw [IntKind.wrap_i64];omega
   have g5:(k2:Int) - (k:Int)=64:=by omega
   have jI:=ae hk2;have hck:¬c2=k:=by omega
   have V7:Hid (oL wr.drew (w.heap.size+1) (aF zs)):=ae HS.out.drew.s.kz;have fG:Hid ((Tryz.prog.info? 171).map (·.size)=some (aF zs).size):=ae (by rw [bT,HZ.out];kernel_rfl);go_wp2_with fail;refine wp_region_still_tail 6 (by kernel_rfl) (by kernel_rfl) ?_;simp only [List.take_succ_cons,List.take_zero,List.drop_succ_cons,List.drop_zero];refine y8 rfl _ _ rfl (w.heap.size+1) rfl (aF zs) V7.out _ Tryz.underlying171 rfl fG.out ?_;repeat still_step
   refine wpStill_nil ?_;change wpList _ _ _ _ _ wr.drew;go_wp2_with fail;rw [show k2 - k=64 by omega];have QA:Hid (((ps.drop k).take 64).length=64):=ae (by have:=JV.out;rw [List.length_take,List.length_drop];omega);have HXC:Hid (∀j,j<64→wr.drew.cell? ⟨pb,k+j,none⟩=some (Extern.Stop.cell (((ps.drop k).take 64)[j]?.getD 0))):=ae (fun j hj=>(HA.out.cell (k+j)).trans ((HCU.out (k+j) (by omega)).trans (by rw [List.getElem?_take_of_lt hj,List.getElem?_drop])));obtain ⟨xs,hxs⟩:∃l,(ps.drop k).take 64=l:=⟨_,rfl⟩;rw [hxs] at QA HXC;clear hxs;refine (step_r wr.drew pb k (c2 - k) zs HZ.out xs QA.out HA.out.lt HXC.out).mono ?_;rintro e w4 ⟨zs2,hz2,rfl,hb4⟩;have CP:=ae (HS.out.drew.grow hb4);have HA4:=ae (HA.out.drew.below hb4);have HZ2:=ae hz2;have pg:Hid ((Tryz.prog.info? 171).map (·.size)=some (aF zs2).size):=ae (by rw [bT,HZ2.out];kernel_rfl);have xR:Hid ((aF zs).size=(aF zs2).size):=ae (by rw [bT,bT,HZ.out,HZ2.out]);clear hb4 hz2 HS HA V7;go_wp2_with ((with_reducible refine dS 171 ?_);go_must (refine wpList_store_row rfl _ _ _ rfl (w.heap.size+1) (aF zs2) rfl rfl 171 (aF zs) CP.out.s.var pg.out xR.out (iR _) ?_));go_roundw
   case rel=>exact ⟨k2,zs2,by have:=jI.out;omega,by have:=jI.out;omega,rfl,HZ2.out,CP.out.row _,HA4.out.qO (by omega) _⟩
   case measure=>simp [intOf];omega
  ·have HZER:Hid (Value.agg (cD d32)= .agg #[.int .u8 0, .int .u8 0, .int .u8 0, .int .u8 0, .int .u8 0, .int .u8 0, .int .u8 0, .int .u8 0, .int .u8 0, .int .u8 0, .int .u8 0, .int .u8 0, .int .u8 0, .int .u8 0, .int .u8 0, .int .u8 0, .int .u8 0, .int .u8 0, .int .u8 0, .int .u8 0, .int .u8 0, .int .u8 0, .int .u8 0, .int .u8 0, .int .u8 0, .int .u8 0, .int .u8 0, .int .u8 0, .int .u8 0, .int .u8 0, .int .u8 0, .int .u8 0]):=ae rfl;have HID:Hid ((Tryz.prog.info? 24).map (·.size)=some (cD d32).size):=ae (by kernel_rfl);clear HA;have hwr:=HS.out.s.lt;go_upto_region 8 with (first
    |((with_reducible refine bf 24 ?_);go_must (refine aI rfl _ rfl (cD d32) sJ ?_))
    |((with_reducible refine dS 24 ?_);go_must (refine wpList_store_row rfl _ _ _ rfl wr.heap.size (cD d32) rfl HZER.out.symm 24 (cD d32) (heap_alloc_last _ _) HID.out rfl (uX _) ?_)))
   have HO:Hid (AV wr.heap.size 24 (cD d32) ((wr.alloc (.cells (cD d32) 24)).setRow wr.heap.size (cD d32))):=ae ((AV.new wr _ _).oO _);have Gv:Hid (CW w zs ((wr.alloc (.cells (cD d32) 24)).setRow wr.heap.size (cD d32))):=ae ((HS.out.grow (ag wr _)).farRow _ hwr _);generalize (wr.alloc (.cells (cD d32) 24)).setRow wr.heap.size (cD d32)=W5 at HO Gv ⊢;obtain ⟨ob,hob⟩:∃b,wr.heap.size=b:=⟨_,rfl⟩;rw [hob] at HO hwr ⊢;clear hob HZER HS hlt;go_wp2_with fail
   go_loopw [7] (fun i wx=>∃(k:Nat) (ds:List UInt8),k≤32∧i=I k∧ds.length=32∧CW w zs wx∧AV ob 24 (cD ds) wx) (fun i _=>32 - (intOf i).toNat)
   case atStart=>exact ⟨0,d32,Nat.zero_le _,rfl,zA,Gv.out,HO.out⟩
   case round=>
    clear Gv HO;obtain ⟨j,ds,hj,rfl,hdl,hs,ho⟩:=hrel;have HS:=ae hs;have HO:=ae ho;have HDL:=ae hdl;clear hs ho hdl;by_cases hlt:(j:Int)<32
    ·obtain ⟨q,hq⟩:∃q:Nat,j / 4=q:=⟨_,rfl⟩;obtain ⟨r,hr⟩:∃r:Nat,j%4=r:=⟨_,rfl⟩;have hdq:Int.tdiv (j:Int) 4=(q:Int):=by rw [Int.tdiv_eq_ediv_of_nonneg (by omega)];omega
     have hmr:Int.tmod (j:Int) 4=(r:Int):=by rw [Int.tmod_eq_emod_of_nonneg (by omega)];omega
     have hdq2:(j:Int) / 4=(q:Int):=by omega
     have hmr2:(j:Int)%4=(r:Int):=by omega
     have hq8:(q:Int)<8:=by omega
     have hr4:(r:Int)<4:=by omega
     obtain ⟨s,hs⟩:∃s:Int,24 - 8*(r:Int)=s:=⟨_,rfl⟩;have hs0:0≤s:=by omega
     have hs1:s≤24:=by omega
     obtain ⟨z,hz⟩:∃z,zs[q]?.getD 0=z:=⟨_,rfl⟩;have cS:wr.cell? ⟨w.heap.size+1,q,none⟩=some (.int .u32 z):=(HS.out.s.cell q).trans (by rw [gK _ _ (by rw [HZ.out];omega),hz]);obtain ⟨o0,ho0⟩:∃x:UInt8,ds[j]?.getD 0=x:=⟨_,rfl⟩;have cO:wr.cell? ⟨ob,j,none⟩=some (Extern.Stop.cell o0):=(HO.out.cell j).trans (by rw [cD_get _ _ (by rw [HDL.out];omega),ho0]);have cf:=HO.out.eY j;clear hq hr hz ho0;go_wp2_with fail;go_roundw
     case rel=>exact ⟨j+1,ds.set j (byteOf (z / 2 ^ s.toNat)),by omega,by go_num,by rw [List.length_set,HDL.out],HS.out.far ob hwr _ _,by have h:=HO.out.put j (Extern.Stop.cell (byteOf (z / 2 ^ s.toNat)));rw [cD_set,fQ] at h;exact h⟩
     case measure=>simp [intOf];omega
    ·have HRW:Hid (oL wr ob (cD ds)):=ae HO.out.kz;have pg:Hid ((Tryz.prog.info? 24).map (·.size)=some (cD ds).size):=ae (by rw [kY,HDL.out];kernel_rfl);have mr:Hid ((cD d32).size=(cD ds).size):=ae (by rw [kY,kY,HDL.out,zA]);go_wp2_with (first
      |((with_reducible refine gz 24 ?_);go_must (refine bu rfl _ _ rfl ob rfl (cD ds) HRW.out _ Tryz.underlying24 rfl pg.out ?_))
      |((with_reducible refine dS 24 ?_);go_must (refine wpList_store_row rfl _ _ _ rfl w.heap.size (cD ds) rfl rfl 24 (cD d32) HS.out.r.var pg.out mr.out (uX _) ?_)))
     refine bodyPost_ret (v:= .agg (cD ds)) (results_cell_row rfl _ _ w.heap.size _ (cD ds) (0,0) _ rfl (setRow_heap _ _ _ _ _ _ HS.out.r.var) Tryz.underlying24 rfl pg.out) rfl ?_;exact ⟨ds,HDL.out,rfl,aB HS.out.lo (Nat.le_refl _) _⟩
theorem mg {ops:Array Oper} {rest:List Oper} {o:Oper} {a:Act} {Q:Exit→Act→World→Prop} {w:World} (hgd:o.guard=none) (sl x:Operand)
  (ho:o.op= .call {callee:= .builtin .append,args:= #[sl,x],argTypes:= #[22,22]}) (lo n c:Nat) (A:Option Addr) (bs:List UInt8) (hs:a.eval sl= .slice A n c) (hown:mY lo w A n c bs)
  (B:Nat) (A2:Option Addr) (m c2:Nat) (ds:List UInt8) (hx:a.eval x= .slice A2 m c2) (hl:ds.length=m) (hm:0<m) (hc:az w B A2 (ds.map Extern.Stop.cell)) (hlen:n+m≤1000000000) (hbase:lo≤w.heap.size)
  (h:∀A' c' w',mY lo w' A' (n+m) c' (bs++ds)→uh (.slice A n c) w (.slice A' (n+m) c') w'→wpList Tryz.prog ops Q rest (a.put o.dst (.slice A' (n+m) c')) w'):wpList Tryz.prog ops Q (o::rest) a w:=by
 obtain ⟨i0,hi,hz0,hz1,hz2⟩:=info_parts lh;obtain ⟨b,off,rfl,_,hcl⟩:=hc.there (by rw [List.length_map];omega);refine wpList_append_own_at _ hgd sl x 22 ho lo 5 i0 (.int .u8 0) 1 1 Tryz.underlying22 hi hz0 hz1 hz2 rfl (by decide) _ n (bs.map Extern.Stop.cell) hs hown ⟨b,off,none⟩ m c2 (ds.map Extern.Stop.cell) hx (by rw [List.length_map];omega) (fun j u hu=>by rw [show (⟨b,off,none⟩:Addr).add j=⟨b,off+j,none⟩ by unfold Addr.add;split<;>simp_all];exact hcl j u hu)
  (fun u hu=>by obtain ⟨y,_,rfl⟩:=List.mem_map.1 hu;rfl) (by unfold maxLen;omega) (by omega) hbase ?_
 intro v' w' hown' hg _ hat;obtain ⟨A',c',rfl⟩:=fC hown';exact h A' c' w' (by unfold mY;rw [List.map_append];exact hown') (uh.app0 hg hat)
structure V2 (w:World) (t:TypeId) (cs:Array Value) (t2:TypeId) (ds:Array Value) (W:World):Prop where
 s:AV w.heap.size t cs W
 r:AV (w.heap.size+1) t2 ds W
 lo:Below w.heap.size w W
theorem V2.start (w:World) (t:TypeId) (cs:Array Value) (t2:TypeId) (ds:Array Value):V2 w t cs t2 ds ((w.alloc (.cells cs t)).alloc (.cells ds t2)):=
 ⟨⟨heap_alloc2_old w _ _⟩,⟨heap_alloc2_new w _ _⟩,ai (ag w _) (ag _ _)⟩
theorem V2.NL {w W W':World} {t t2:TypeId} {cs ds:Array Value} {L:Nat} (h:V2 w t cs t2 ds W) (hb:Below L W W') (hL:w.heap.size+1<L):V2 w t cs t2 ds W':=
 ⟨⟨(hb.block _ (by omega)).trans h.s.var⟩,⟨(hb.block _ (by omega)).trans h.r.var⟩,h.lo.trans (hb.mono (by omega))⟩
theorem V2.grow {w W W':World} {t t2:TypeId} {cs ds:Array Value} (h:V2 w t cs t2 ds W) (hb:Below W.heap.size W W'):V2 w t cs t2 ds W':=h.NL hb h.r.lt
theorem Xn (key:List UInt8) (hk:key.length=32) (n c:Nat) (A:Option Addr) (bs:List UInt8) (w:World) (hl:bs.length=n) (h0:0<n) (hn:n≤100000) (hb:az w w.heap.size A (bs.map Extern.Stop.cell)):
  Calls Tryz.prog 40 #[.agg (cD key), .slice A n c] w (DgP w):=by
 have HB:=ae hb;have HL:=ae hl;have qA:=ae hk;have H0:=ae (V2.start w 24 (cD key) 24 (cD d32));have fG:Hid (∀d:List UInt8,d.length=32→(Tryz.prog.info? 24).map (·.size)=some (cD d).size):=ae (fun d h=>by rw [kY,h];kernel_rfl);have xR:Hid (∀d:List UInt8,d.length=32→(cD d32).size=(cD d).size):=ae (fun d h=>by rw [kY,kY,h,zA]);clear hb hl hk;go_enter Tryz.func40,Tryz.ntmps40;go_upto_region 1 with (first
  |((with_reducible refine bf 24 ?_);go_must (refine aI rfl _ rfl (cD d32) sJ ?_)))
 generalize (w.alloc (.cells (cD key) 24)).alloc (.cells (cD d32) 24)=W0 at H0 ⊢;have hw0:=H0.out.r.lt;go_wp2_with ((with_reducible refine gz 24 ?_);go_must (refine bu rfl _ _ rfl w.heap.size rfl (cD key) H0.out.s.kz _ Tryz.underlying24 rfl (fG.out _ qA.out) ?_));refine (D5 54 key W0 qA.out (by omega) (by omega)).mono ?_;rintro e w1 ⟨A1,n1,c1,l1,rfl,o1,k1⟩;have hn1:n1=64:=by rw [←l1,sG _ _ qA.out]
 subst hn1;obtain ⟨b1,hb1⟩:∃l,wo 54 key=l:=⟨_,rfl⟩;rw [hb1] at o1 l1;have H1:=ae (H0.out.grow k1.je);have G9:=ae o1;have OC:=ae l1;have hs1:W0.heap.size≤w1.heap.size:=k1.size;have HBW1:Hid (az w1 w1.heap.size A (bs.map Extern.Stop.cell)):=ae ((HB.out.keep H1.out.lo).more H1.out.lo.size);clear o1 k1 l1 hb1 H0;go_wp2_with (at_builtin;go_must (refine mg rfl _ _ rfl W0.heap.size 64 c1 A1 b1 rfl G9.out _ A n c bs rfl HL.out h0 HBW1.out (by omega) hs1 ?_));intro A2 c2 w2 o2 k2;have H2:=ae (H1.out.NL (k2.wG G9.out.base hs1) hw0);have hs2:W0.heap.size≤w2.heap.size:=Nat.le_trans hs1 k2.size;have rF:=ae o2;clear o2 k2 H1 G9 HBW1;go_wp2_with fail;refine (Uw (64+n) c2 A2 (b1++bs) w2 (by rw [bH,OC.out,HL.out]) (by omega) (by omega) (az.dO rF.out)).mono ?_;rintro e w3 ⟨d,hd,rfl,hb3⟩;have H3:=ae (H2.out.grow hb3);have HD:=ae hd;have hw3:=H3.out.r.lt;clear H2 rF hb3 hd OC;go_upto_region 3 with (first
  |((with_reducible refine bf 24 ?_);go_must (refine aI rfl _ rfl (cD d32) sJ ?_))
  |((with_reducible refine dS 24 ?_);go_must (refine wpList_store_row rfl _ _ _ rfl w3.heap.size (cD d) rfl rfl 24 (cD d32) (heap_alloc_last _ _) (fG.out _ HD.out) (xR.out _ HD.out) (uX _) ?_)))
 have H4:Hid (V2 w 24 (cD key) 24 (cD d32) ((w3.alloc (.cells (cD d32) 24)).setRow w3.heap.size (cD d))):=ae (H3.out.grow (aB (ag w3 _) (Nat.le_refl _) _));have HI4:Hid (AV w3.heap.size 24 (cD d) ((w3.alloc (.cells (cD d32) 24)).setRow w3.heap.size (cD d))):=ae ((AV.new w3 _ _).oO _);generalize (w3.alloc (.cells (cD d32) 24)).setRow w3.heap.size (cD d)=W4 at H4 HI4 ⊢;obtain ⟨ib,hib⟩:∃b,w3.heap.size=b:=⟨_,rfl⟩;rw [hib] at HI4 hw3 ⊢;clear hib H3;have hw4:=H4.out.r.lt;go_wp2_with ((with_reducible refine gz 24 ?_);go_must (refine bu rfl _ _ rfl w.heap.size rfl (cD key) H4.out.s.kz _ Tryz.underlying24 rfl (fG.out _ qA.out) ?_));refine (D5 92 key W4 qA.out (by omega) (by omega)).mono ?_;rintro e w5 ⟨A5,n5,c5,l5,rfl,o5,k5⟩;have Zl:n5=64:=by rw [←l5,sG _ _ qA.out]
 subst Zl;obtain ⟨b5,hb5⟩:∃l,wo 92 key=l:=⟨_,rfl⟩;rw [hb5] at o5 l5;have H5:=ae (H4.out.grow k5.je);have Qu:=ae (HI4.out.below k5.je);have pU:=ae o5;have YU:=ae l5;have hs5:W4.heap.size≤w5.heap.size:=k5.size;clear o5 k5 l5 hb5 H4 HI4;go_wp2_with ((with_reducible refine gz 24 ?_);go_must (refine bu rfl _ _ rfl ib rfl (cD d) Qu.out.kz _ Tryz.underlying24 rfl (fG.out _ HD.out) ?_));refine (xA d w5 HD.out).mono ?_;rintro e w6 ⟨A6,n6,c6,l6,rfl,o6,k6⟩;have QF:n6=32:=by rw [←l6,HD.out]
 subst QF;have H6:=ae (H5.out.grow k6.je);have qZ:=ae (pU.out.below k6.je);have vS:=ae (az.dO o6);have hs6:W4.heap.size≤w6.heap.size:=Nat.le_trans hs5 k6.size;clear o6 k6 l6 H5 pU Qu;go_wp2_with (at_builtin;go_must (refine mg rfl _ _ rfl W4.heap.size 64 c5 A5 b5 rfl qZ.out _ A6 32 c6 d rfl HD.out (by omega) vS.out (by omega) hs6 ?_));intro A7 c7 w7 o7 k7;have H7:=ae (H6.out.NL (k7.wG qZ.out.base hs6) hw4);have EJ:=ae o7;clear o7 k7 H6 qZ vS;go_wp2_with fail;refine (Uw (64+32) c7 A7 (b5++d) w7 (by rw [bH,YU.out,HD.out]) (by omega) (by omega) (az.dO EJ.out)).mono ?_;rintro e w8 ⟨d2,hd2,rfl,hb8⟩;have H8:=ae (H7.out.grow hb8);have HD2:=ae hd2;clear H7 EJ hb8 hd2 YU;go_wp2_with ((with_reducible refine dS 24 ?_);go_must (refine wpList_store_row rfl _ _ _ rfl (w.heap.size+1) (cD d2) rfl rfl 24 (cD d32) H8.out.r.var (fG.out _ HD2.out) (xR.out _ HD2.out) (uX _) ?_));refine bodyPost_ret (v:= .agg (cD d2)) (results_cell_row rfl _ _ (w.heap.size+1) _ (cD d2) (0,0) _ rfl (setRow_heap _ _ _ _ _ _ H8.out.r.var) Tryz.underlying24 rfl (fG.out _ HD2.out)) rfl ?_;exact ⟨d2,HD2.out,rfl,aB H8.out.lo (Nat.le_succ _) _⟩
theorem IW (a b:Nat) (w:World) (ha:a≤1000) (hb:b≤1000):Calls Tryz.prog 80 #[I (a:Int),I (b:Int)] w fun e w'=>e= .returned (I (Nat.gcd a b:Int))∧w'=w:=by
 obtain ⟨G,hG⟩:∃G,Nat.gcd a b=G:=⟨_,rfl⟩;rw [hG];have HG:=ae hG;clear hG;go_enter Tryz.func80,Tryz.ntmps80;go_wp2_with fail
 go_loopw [0,1] (fun p q wr=>∃x y:Nat,p=I (x:Int)∧q=I (y:Int)∧x≤1000∧y≤1000∧Nat.gcd x y=G∧wr=w) (fun _ q _=>(intOf q).toNat)
 case atStart=>exact ⟨a,b,rfl,rfl,ha,hb,HG.out,rfl⟩
 case round=>
  obtain ⟨x,y,rfl,rfl,hx,hy,hg,rfl⟩:=hrel;have HGG:=ae hg;clear hg;by_cases h0:y=0
  ·subst h0;have HE:Hid (x=G):=ae (by have h:=HGG.out;rwa [Nat.gcd_zero_right] at h);go_wp2_with fail;go_ret;exact ⟨by rw [←HE.out];rfl,rfl⟩
  ·have t0:((y:Int) !=0)=true:=by simp;omega
   have t1:¬(y:Int)=0:=by omega
   have t2:¬(y:Int)= -1:=by omega
   have t3:(y !=0)=true:=by simp;omega
   obtain ⟨q,hq⟩:∃q,x%y=q:=⟨_,rfl⟩;have ht:(x:Int).tmod (y:Int)=(q:Int):=by rw [←hq];simp [Int.tmod_eq_emod_of_nonneg]
   have hql:q<y:=by rw [←hq];exact Nat.mod_lt _ (by omega)
   have HN:Hid (Nat.gcd y q=G):=ae (by rw [←hq,Nat.gcd_comm,←Nat.gcd_rec,Nat.gcd_comm];exact HGG.out);clear hq;go_wp2_with fail;go_roundw
   case rel=>exact ⟨y,q,rfl,rfl,hy,by omega,HN.out,by first|trivial|rfl⟩
   case measure=>simp [intOf];omega
theorem lcm_div (Y E:Nat):Y / Nat.gcd Y E*E=Nat.lcm Y E:=by
 unfold Nat.lcm;rw [Nat.div_mul_right_comm (Nat.gcd_dvd_left Y E)]
theorem oC (c:Cal) (A R:Option Addr) (a r:Nat) (w:World) (h:nD w w.heap.size A R c):Calls Tryz.prog 62 #[.agg (aH c A a R r)] w (Gives (.bool (vC c)) w):=by
 obtain ⟨nr,hnr⟩:∃n,c.rules.length=n:=⟨_,rfl⟩;obtain ⟨n,hn⟩:∃n,c.aj.length=n:=⟨_,rfl⟩;have e0:aH c A a R r= #[I c.aJ, .slice A n a,I c.aY, .slice R nr r]:=by rw [←hn,←hnr];rfl
 rw [e0];have HV:=ae (jw.start w #[I c.aJ, .slice A n a,I c.aY, .slice R nr r] 50);obtain ⟨lp,hlp⟩:∃l,c.aY=l:=⟨_,rfl⟩;obtain ⟨ep,lL⟩:∃l,c.aJ=l:=⟨_,rfl⟩;rw [hlp,lL] at HV ⊢;have HM:=ae h.aj;have V7:=ae h.rules;have EG:Hid ((c.rules.flatMap Lr.cells).length=nr*3):=ae (by rw [cu (s:=3) Lr.cells c.rules (fun _ _=>rfl),hnr]);have uB:=ae (show c.aj.length=n∧c.rules.length=nr∧c.aY=lp∧c.aJ=ep from ⟨hn,hnr,hlp,lL⟩);obtain ⟨vb,hvb⟩:∃b,vC c=b:=⟨_,rfl⟩;rw [hvb];have JJ:=ae hvb;clear hvb;by_cases hbad:ep<0∨1048576<ep∨n<1∨16<n∨16<nr∨lp< -1∨(n:Int)≤lp∨(lp= -1∧0<nr)
 ·have hF:false=vb:=(BL fun hg=>by
   have h1:=hg.ep;have h2:=hg.ml;have h3:=hg.lp;have h4:=hg.rl;have h5:=hg.nl;omega).symm.trans JJ.out
  subst hF;have hb4:(ep<0)∨(¬ep<0∧(1048576:Int)<ep)∨(¬ep<0∧¬(1048576:Int)<ep∧(n:Int)<1)∨(¬ep<0∧¬(1048576:Int)<ep∧¬(n:Int)<1∧(16:Int)<(n:Int))∨(¬ep<0∧¬(1048576:Int)<ep∧¬(n:Int)<1∧¬(16:Int)<(n:Int)∧(16:Int)<(nr:Int))∨(¬ep<0∧¬(1048576:Int)<ep∧¬(n:Int)<1∧¬(16:Int)<(n:Int)∧¬(16:Int)<(nr:Int)∧lp< -1)∨(¬ep<0∧¬(1048576:Int)<ep∧¬(n:Int)<1∧¬(16:Int)<(n:Int)∧¬(16:Int)<(nr:Int)∧¬lp< -1∧(n:Int)≤lp)∨(¬ep<0∧¬(1048576:Int)<ep∧¬(n:Int)<1∧¬(16:Int)<(n:Int)∧¬(16:Int)<(nr:Int)∧¬lp< -1∧¬(n:Int)≤lp∧lp= -1∧(0:Int)<(nr:Int)):=by omega
  clear hbad h hnr hn hlp lL e0 HM V7;rcases hb4 with g1|⟨g1,g2⟩|⟨g1,g2,g3⟩|⟨g1,g2,g3,g4⟩|⟨g1,g2,g3,g4,g5⟩|⟨g1,g2,g3,g4,g5,g6⟩|⟨g1,g2,g3,g4,g5,g6,g7⟩|⟨g1,g2,g3,g4,g5,g6,g7,g8,g9⟩
  all_goals
   try subst g8
   go_enter Tryz.func62,Tryz.ntmps62;go_wp2_with fail;go_ret;exact ⟨rfl,HV.out.up⟩
 ·have g1:¬ep<0:=fun h=>hbad (.inl h);have g2:¬1048576<ep:=fun h=>hbad (.inr (.inl h));have g3:¬(n:Int)<1:=by omega
  have g4:¬(16:Int)<(n:Int):=by omega
  have g5:¬lp< -1:=by omega
  have g6:¬(n:Int)≤lp:=by omega
  have g7:¬(16:Int)<(nr:Int):=by omega
  have hnb:Hid (nr≤16∧1≤n∧n≤16):=ae (by omega);have hsp:((lp== -1)=true∧¬(0:Int)<(nr:Int))∨(lp== -1)=false:=by
   by_cases h:lp= -1
   ·exact .inl ⟨by simp [h],by omega⟩
   ·exact .inr (by simpa using h)
  have Z9:Hid (0≤ep∧ep≤1048576∧1≤n∧n≤16∧ -1≤lp∧lp<(n:Int)∧nr≤16∧(lp= -1→nr=0)):=ae (by omega);clear hbad h hnr hn hlp lL e0;rcases hsp with ⟨t0,g9⟩|t0
  all_goals
   go_enter Tryz.func62,Tryz.ntmps62;go_wp2_with fail
   go_loopw [3] (fun i wr=>∃k:Nat,k≤n∧i=I (k:Int)∧(∀m∈c.aj.take k,1≤m∧m≤40)∧(Row wr w.heap.size #[I ep, .slice A n a,I lp, .slice R nr r]∧Below w.heap.size w wr)) (fun i _=>n - (intOf i).toNat)
   case atStart=>exact ⟨0,Nat.zero_le _,rfl,(fun _ h=>nomatch h),HV.out.row,HV.out.up⟩
   case round=>
    obtain ⟨k,hk,rfl,hall,hrow,hb⟩:=hrel;have HB:=ae hb;have Vh:=ae hall;have HRW:=ae hrow;clear hb hall hrow HV;by_cases hlt:k<n
    ·have i0:(0:Int)≤(k:Int):=by omega
     have i1:(k:Int)<(n:Int):=by omega
     obtain ⟨x,hx⟩:∃x,c.aj[k]? =some x:=⟨_,bZ (by rw [uB.out.1];exact hlt)⟩;obtain ⟨b,off,rfl,hbl,hcl⟩:=HM.out.there (by rw [List.length_map,uB.out.1];omega);have f0:wr.cell? ⟨b,off+k,none⟩=some (I x):=(HB.out.cell (p:=⟨b,off+k,none⟩) hbl).trans (hcl k _ (by rw [List.getElem?_map,hx];rfl));have v1:wr.cell? ⟨w.heap.size,1,none⟩=some (.slice (some ⟨b,off,none⟩) n a):=HRW.out.2 1;have HX:=ae hx;clear hx hcl;by_cases hxb:x<1∨40<x
     ·have hF:false=vb:=(BL fun hg=>by
       have h1:=hg.mo x (gU HX.out);omega).symm.trans JJ.out
      subst hF;have hx4:x<1∨(¬x<1∧40<x):=by omega
      clear hxb;rcases hx4 with q1|⟨q1,q2⟩
      all_goals
       go_wp2_with fail;go_ret;exact ⟨rfl,HB.out⟩
     ·have q1:¬x<1:=fun h=>hxb (.inl h);have q2:¬40<x:=fun h=>hxb (.inr h);have HN:Hid (∀m∈c.aj.take (k+1),1≤m∧m≤40):=ae (by
       rw [jR c.aj k x HX.out];intro m hm;rcases List.mem_append.1 hm with h1|h1
       ·exact Vh.out m h1
       ·rw [List.mem_singleton.1 h1];omega)
      clear hxb;go_wp2_with fail;go_roundw
      case rel=>exact ⟨k+1,by omega,by have h16:=hnb.out;go_num,HN.out,HRW.out,HB.out⟩
      case measure=>simp [intOf];have h16:=hnb.out;omega
    ·have hkn:k=n:=by omega
     have hlt':¬(k:Int)<(n:Int):=by omega
     have HAM:Hid (∀m∈c.aj,1≤m∧m≤40):=ae (by
      have h:=Vh.out
      rwa [List.take_of_length_le (by rw [uB.out.1];omega)] at h)
     have v1:wr.cell? ⟨w.heap.size,1,none⟩=some (.slice A n a):=HRW.out.2 1;clear hlt hkn Vh;go_wp2_with fail;clear v1
     go_loopw [4,5] (fun y i wr=>∃k Y:Nat,k≤nr∧y=I (Y:Int)∧i=I (k:Int)∧1≤Y∧Y≤400∧jO c.rules 1=jO (c.rules.drop k) Y∧(Row wr w.heap.size #[I ep, .slice A n a,I lp, .slice R nr r]∧Below w.heap.size w wr)) (fun _ i _=>nr - (intOf i).toNat)
     case atStart=>exact ⟨0,1,Nat.zero_le _,rfl,rfl,by omega,by omega,rfl,HRW.out,HB.out⟩
     case round=>
      clear HRW HB hlt';obtain ⟨k,Y,hk,rfl,rfl,hy1,hy2,hp,hrow,hb⟩:=hrel;have HB:=ae hb;have HP:=ae hp;have HRW:=ae hrow;clear hb hp hrow;by_cases hlt:k<nr
      ·try (exfalso;omega)
       all_goals
        have i0:(0:Int)≤(k:Int):=by omega
        have i1:(k:Int)<(nr:Int):=by omega
        obtain ⟨x,hx⟩:∃x,c.rules[k]? =some x:=⟨_,bZ (by rw [uB.out.2.1];exact hlt)⟩;obtain ⟨b,off,rfl,hbl,hcl⟩:=V7.out.there (by rw [EG.out];omega);have hr:=aU (az.elem (s:=3) (f:=Lr.cells) (fun _ _=>rfl) hcl k x hx) HB.out hbl;have hd:c.rules.drop k=x::c.rules.drop (k+1):=by
         rw [List.drop_eq_getElem_cons (by rw [uB.out.2.1];exact hlt)];rw [bZ (by rw [uB.out.2.1];exact hlt)] at hx;injection hx with hx;rw [hx]
        rw [hd] at HP;obtain ⟨ev,re,ye⟩:=x;have f0:wr.cell? ⟨b,off+k*3,none⟩=some (I ev):=hr 0 _ rfl;have f1:wr.cell? ⟨b,off+k*3+1,none⟩=some (I re):=hr 1 _ rfl;have f2:wr.cell? ⟨b,off+k*3+2,none⟩=some (.bool ye):=hr 2 _ rfl;have v3:wr.cell? ⟨w.heap.size,3,none⟩=some (.slice (some ⟨b,off,none⟩) nr r):=HRW.out.2 3;have hne:¬b=wr.heap.size:=by have:=HB.out.size;omega
        have hlt0:w.heap.size<wr.heap.size:=HRW.out.1;have HB2:=ae (ai HB.out (ag wr (.cells #[I ev,I re, .bool ye] 131)));have HR2:=ae (HRW.out.keep (ag wr (.cells #[I ev,I re, .bool ye] 131)));by_cases hbad:ev<1∨400<ev∨re<0∨ev≤re
        ·have hF:false=vb:=(BL fun hg=>by
          have h1:=hg.per;rw [HP.out] at h1;unfold jO at h1;rw [if_pos hbad] at h1;cases h1).symm.trans JJ.out
         subst hF;have hb4:ev<1∨(¬ev<1∧400<ev)∨(¬ev<1∧¬400<ev∧re<0)∨(¬ev<1∧¬400<ev∧¬re<0∧ev≤re):=by omega
         clear hbad hd hr hcl hx;rcases hb4 with g1|⟨g1,g2⟩|⟨g1,g2,g3⟩|⟨g1,g2,g3,g4⟩
         all_goals
          go_wp2_with fail;go_ret;exact ⟨rfl,HB2.out⟩
        ·have g1:¬ev<1:=fun h=>hbad (.inl h);have g2:¬400<ev:=fun h=>hbad (.inr (.inl h));have g3:¬re<0:=fun h=>hbad (.inr (.inr (.inl h)));have g4:¬ev≤re:=fun h=>hbad (.inr (.inr (.inr h)));obtain ⟨E,rfl⟩:∃E:Nat,ev=(E:Int):=⟨ev.toNat,by omega⟩;obtain ⟨L,hL⟩:∃L,Nat.lcm Y E=L:=⟨_,rfl⟩;obtain ⟨G,hG⟩:∃G,Nat.gcd Y E=G:=⟨_,rfl⟩;obtain ⟨Q,hQ⟩:∃Q,Y / G=Q:=⟨_,rfl⟩;have hG1:0<G:=by rw [←hG];exact Nat.gcd_pos_of_pos_left _ (by omega)
         have hL1:1≤L:=by rw [←hL];exact Nat.lcm_pos (by omega) (by omega)
         have hQE:Q*E=L:=by rw [←hQ,←hG,←hL];exact lcm_div Y E
         have hQ4:Q≤400:=by rw [←hQ];exact Nat.le_trans (Nat.div_le_self _ _) hy2
         have hLb:L≤160000:=by rw [←hQE];exact Nat.mul_le_mul hQ4 (show E≤400 by omega)
         have hqi:(Y:Int).tdiv (G:Int)=(Q:Int):=by rw [←hQ,Int.tdiv_eq_ediv_of_nonneg (by omega)];rfl
         have hqe:(Q:Int)*(E:Int)=(L:Int):=by rw [←hQE];simp
         have hg0:¬(G:Int)=0:=by omega
         have hg1:¬(G:Int)= -1:=by omega
         have YQ:=ae (fun W=>IW Y E W (by omega) (by omega));rw [hG] at YQ;have hP2:jO c.rules 1=if 400<L then none else jO (c.rules.drop (k+1)) L:=by
          rw [HP.out];show (if _ then _ else _)=_;rw [if_neg hbad,Int.toNat_natCast,hL]
         have HP2:=ae hP2;clear hbad hd hr hcl hx hP2 hL HP hG hQ hQE;go_upto_region 17 with fail;go_quiet (first|(go_at_call 80;refine Calls.quiet_of_same (YQ.out _)));by_cases hL4:400<L
         ·have hF:false=vb:=(BL fun hg=>by
           have h1:=hg.per;rw [HP2.out,if_pos hL4] at h1;cases h1).symm.trans JJ.out
          subst hF;have g5:(400:Int)<(L:Int):=by omega
          go_wp2_with fail;go_ret;exact ⟨rfl,below_drewN HB2.out _⟩
         ·have g5:¬(400:Int)<(L:Int):=by omega
          go_wp2_with fail;go_roundw
          case rel=>exact ⟨k+1,L,by omega,rfl,by have h16:=hnb.out;go_num,hL1,by omega,by rw [HP2.out,if_neg hL4],⟨HR2.out.1,HR2.out.2⟩,below_drewN HB2.out _⟩
          case measure=>simp [intOf];have h16:=hnb.out;omega
      ·have hkn:k=nr:=by omega
       have hlt':¬(k:Int)<(nr:Int):=by omega
       have v3:wr.cell? ⟨w.heap.size,3,none⟩=some (.slice R nr r):=HRW.out.2 3;have hF:true=vb:=(oG (by
        have h1:=Z9.out;have h2:=uB.out;exact ⟨by omega,by omega,by omega,by omega,fun h=>by omega,HAM.out,by rw [HP.out,List.drop_of_length_le (by omega)];rfl⟩)).symm.trans JJ.out
       subst hF;clear hlt hkn;go_wp2_with fail;go_ret;exact ⟨rfl,HB.out⟩
end Go.Proofs.YtbaehbbonkljpaaGreat
