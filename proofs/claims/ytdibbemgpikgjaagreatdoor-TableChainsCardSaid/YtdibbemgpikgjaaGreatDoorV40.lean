/- The texts Lk, Ll, Lm, Lo, in this order. -/
import Derived.Test.YtdibbemgpikgjaaGreatDoorV00
import Derived.Lib.AppendZerosOnto
import Derived.Test.YtdibbemgpikgjaaGreatDoorV39
namespace Go.Proofs.YtdibbemgpikgjaaGreatDoor
open Go Go.RowKit
def z0:Zn:=⟨⟨0,[3], -1,[]⟩,60,[],0,[]⟩
def zs0 (mb:Nat):Zs:=⟨some ⟨mb,0,none⟩,1,none,0,none,0,none,0⟩
def yO:Ze:=⟨⟨#[97]⟩,z0⟩
def vt (n wd:Int) (b:Bool):Tb:=⟨2,n,wd,aY,aY,if b then [yO] else []⟩
def SimP (w:World) (e:Ending) (w':World):Prop:=∃mb,w.heap.size≤mb∧e= .returned (.agg (ay z0 (zs0 mb)))∧w'.heap[mb]? =some (.cells #[I 3] 3 (0,0))∧Below w.heap.size w w'
def VerP (w:World) (n wd:Int) (b:Bool) (e:Ending) (w':World):Prop:=
 ∃A c ys,e= .returned (.agg (ai (vt n wd b) (.slice A ys.length c)))∧fK w.heap.size w' (.slice A ys.length c) ys∧ys.map (·.e)=(vt n wd b).aS∧Below w.heap.size w w'
theorem li_z0 {lo mb:Nat} {w:World} (h:w.heap[mb]? =some (.cells #[I 3] 3 (0,0))) (hl:lo≤mb):LI lo w (some ⟨mb,0,none⟩) [3]:=
 .inr ⟨mb,0,rfl,hl,(Array.getElem?_eq_some_iff.1 h).1,fun j hj=>by
  have e:j=0:=by simp at hj;omega
  subst e
  exact cell_of_row w mb 0 _ _ _ h⟩
theorem UM {lo g mb:Nat} {w:World} (hg:w.heap[g]? =some (.cells (⟨yO,zs0 mb⟩:cZ).cells 90 (0,0))) (hl:lo≤g) (hm:w.heap[mb]? =some (.cells #[I 3] 3 (0,0))) (hm2:lo≤mb):fK lo w (.slice (some ⟨g,0,none⟩) 1 1) [⟨yO,zs0 mb⟩]:=
 ⟨⟨rfl, .inr ⟨g,1,_,rfl,hl,hg,Nat.le_refl _,by unfold maxLen;omega,rfl,rfl⟩⟩,fun x hx=>by rw [List.mem_singleton.1 hx];exact li_z0 hm hm2,fun x hx=>by rw [List.mem_singleton.1 hx];exact ⟨⟨rfl,rfl⟩,⟨rfl,rfl⟩,⟨rfl,rfl⟩⟩,fun h=>by cases h⟩
theorem UL (lo:Nat) (w:World):fK lo w (.slice none 0 0) []:=⟨World.ownsRow_nil _ _ _ _,(fun _ h=>nomatch h),(fun _ h=>nomatch h),fun _=>rfl⟩
theorem L6:fP z0:=⟨⟨⟨by decide,by decide⟩,⟨by decide,by decide⟩,rfl,rfl,fun m hm=>by rw [List.mem_singleton.1 hm];decide⟩,⟨by decide,by decide⟩,rfl,⟨by decide,by decide⟩,rfl⟩
theorem Uz (n wd:Int) (b:Bool) (h1:1≤n) (h2:n≤64) (h3:0≤wd) (h4:wd<n):jU (vt n wd b):=by
 refine ⟨⟨show (0:Int)≤2 by decide,show (2:Int)<16 by decide⟩,⟨h1,h2⟩,⟨h3,h4⟩,rfl,rfl,fun _=>rfl,by cases b<;>exact Nat.le_of_ble_eq_true rfl,fun e he=>?_,fun e he=>?_⟩
 ·cases b with
  |false=>cases he
  |true=>rw [List.mem_singleton.1 he];exact L6
 ·cases b with
  |false=>cases he
  |true=>rw [List.mem_singleton.1 he];decide
theorem EP {lo:Nat} {w:World} {n wd:Int} {b:Bool} {A:Option Addr} {c:Nat} {ys:List cZ} (h:fK lo w (.slice A ys.length c) ys) (he:ys.map (·.e)=(vt n wd b).aS):jF w w.heap.size ⟨vt n wd b,A,c,ys⟩:=by
 refine ⟨he.symm,rfl,rfl,⟨az.dW h.row,fun x hx=>?_⟩⟩
 have h0:x.e=yO:=by
  have hm:x.e∈(vt n wd b).aS:=by rw [←he];exact List.mem_map_of_mem hx
  cases b with
  |false=>cases hm
  |true=>exact List.mem_singleton.1 hm
 have hz:x.e.z=z0:=by rw [h0];rfl
 refine ⟨?_,?_,?_,?_⟩
 ·have hl:=h.au x hx
  rcases hl with hl|⟨b2,off,e1,_,h2,h3⟩
  ·exact .inl (by rw [List.length_map];exact hl)
  ·refine .inr ⟨b2,off,e1,h2,fun j u hu=>?_⟩
   rw [List.getElem?_map] at hu
   cases hj:x.e.z.cal.au[j]? with
   |none=>rw [hj] at hu;cases hu
   |some m=>
    rw [hj] at hu
    injection hu with hu
    rw [h3 j (List.getElem?_eq_some_iff.1 hj).1,hj,←hu]
    rfl
 ·rw [hz];exact .inl rfl
 ·rw [hz];exact .inl rfl
 ·rw [hz];exact .inl rfl
set_option maxRecDepth 10000 in
set_option maxHeartbeats 1000000 in
theorem QG (w:World):Calls Tryz.prog 34 #[] w (SimP w):=by
 go_enter Tryz.func34,Tryz.ntmps34
 have h1:AV w.heap.size 67 iE (w.alloc (.cells iE 67)):=AV.new w _ _
 have h2:=h1.below (ag _ (.cells #[I 3] 3))
 have h3:AV (w.heap.size+1) 3 #[I 3] ((w.alloc (.cells iE 67)).alloc (.cells #[I 3] 3)):=⟨heap_alloc2_new w _ _⟩
 have H2:=ae h2
 have H3:=ae h3
 clear h1 h2 h3
 go_wp2_with (first
  |((with_reducible refine bP 67 ?_);go_must (refine bW rfl _ rfl iE (by kernel_rfl) ?_))
  |((with_reducible refine gV 67 ?_);go_must (refine wpList_store_row rfl _ _ _ rfl w.heap.size (ay z0 (zs0 (w.heap.size+1))) rfl rfl 67 iE H2.out.var (by kernel_rfl) rfl (by kernel_rfl) ?_)))
 refine bodyPost_ret (v:= .agg (ay z0 (zs0 (w.heap.size+1)))) (results_cell_row rfl _ _ w.heap.size _ (ay z0 (zs0 (w.heap.size+1))) (0,0) _ rfl (setRow_heap _ _ _ _ _ _ H2.out.var) Tryz.underlying67 rfl (by kernel_rfl)) rfl ?_
 exact ⟨w.heap.size+1,Nat.le_succ _,rfl,(setRow_other _ _ _ _ (by omega)).trans H3.out.var,aF (ah (ag w _) (ag _ _)) (Nat.le_refl _) _⟩
set_option maxRecDepth 10000 in
set_option maxHeartbeats 2000000 in
theorem N8 (n wd:Int) (w:World):Calls Tryz.prog 19 #[I n,I wd, .bool false] w (VerP w n wd false):=by
 obtain ⟨T,hT⟩:∃T,vt n wd false=T:=⟨_,rfl⟩
 have Xq:T.prev.length=32:=by rw [←hT];rfl
 have hTm:T.bG.length=32:=by rw [←hT];rfl
 have HT:=ae hT
 have H1:Hid (AV w.heap.size 37 (ai bJ (.slice none 0 0)) (((w.alloc (.cells (ai bJ (.slice none 0 0)) 37)).alloc (.cells (ai bJ (.slice none 0 0)) 37)).setRow (w.heap.size+1) (ai T (.slice none 0 0)))):=ae ⟨(setRow_other _ _ _ _ (by omega)).trans (heap_alloc2_old w _ _)⟩
 have H2:Hid (AV (w.heap.size+1) 37 (ai T (.slice none 0 0)) (((w.alloc (.cells (ai bJ (.slice none 0 0)) 37)).alloc (.cells (ai bJ (.slice none 0 0)) 37)).setRow (w.heap.size+1) (ai T (.slice none 0 0)))):=ae ⟨setRow_heap _ _ _ _ _ _ (heap_alloc2_new w _ _)⟩
 have HB1:Hid (Below w.heap.size w (((w.alloc (.cells (ai bJ (.slice none 0 0)) 37)).alloc (.cells (ai bJ (.slice none 0 0)) 37)).setRow (w.heap.size+1) (ai T (.slice none 0 0)))):=ae (aF (ah (ag w _) (ag _ _)) (Nat.le_succ _) _)
 have eX:Hid (∀v,(Tryz.prog.info? 37).map (·.size)=some (ai T v).size):=ae fun v=>bV _ v Xq hTm
 have CE:Hid (∀v,(ai bJ (.slice none 0 0)).size=(ai T v).size):=ae fun v=>(bn bJ _ rfl rfl).trans (bn T v Xq hTm).symm
 clear hT Xq hTm
 go_enter Tryz.func19,Tryz.ntmps19
 go_upto_region 2 with (first
  |((with_reducible refine bP 37 ?_);go_must (refine aJ rfl _ rfl (ai bJ (.slice none 0 0)) fC ?_))
  |((with_reducible refine iw 37 ?_);go_must (refine bY rfl _ rfl (ai T (.slice none 0 0)) (by rw [←HT.out];kernel_rfl) ?_))
  |((with_reducible refine gV 37 ?_);go_must (refine wpList_store_row rfl _ _ _ rfl (w.heap.size+1) (ai T (.slice none 0 0)) (congrArg (fun b=>Value.pointer (some ⟨b,0,none⟩)) (rX w _)) rfl 37 (ai bJ (.slice none 0 0)) (heap_alloc2_new w _ _) (eX.out _) (CE.out _) (bf _ _ _ _) ?_)))
 generalize ((w.alloc (.cells (ai bJ (.slice none 0 0)) 37)).alloc (.cells (ai bJ (.slice none 0 0)) 37)).setRow (w.heap.size+1) (ai T (.slice none 0 0))=W1 at H1 H2 HB1 ⊢
 have hw1:=H2.out.lt
 refine ax ?_
 (try rw [rX w])
 go_wp2_with (first
  |((with_reducible refine gU 37 ?_);go_must (refine aX rfl _ _ rfl (w.heap.size+1) rfl (ai T (.slice none 0 0)) H2.out.jB _ Tryz.underlying37 rfl (eX.out _) ?_))
  |((with_reducible refine gV 37 ?_);go_must (refine wpList_store_row rfl _ _ _ rfl w.heap.size (ai T (.slice none 0 0)) rfl rfl 37 (ai bJ (.slice none 0 0)) H1.out.var (eX.out _) (CE.out _) (bf _ _ _ _) ?_)))
 refine bodyPost_ret (v:= .agg (ai T (.slice none 0 0))) (results_cell_row rfl _ _ w.heap.size _ (ai T (.slice none 0 0)) (0,0) _ rfl (setRow_heap _ _ _ _ _ _ H1.out.var) Tryz.underlying37 rfl (eX.out _)) rfl ?_
 exact ⟨none,0,[],by rw [HT.out];rfl,UL _ _,rfl,aF HB1.out (Nat.le_refl _) _⟩
set_option maxRecDepth 10000 in
set_option maxHeartbeats 2000000 in
theorem Dy (n wd:Int) (w:World):Calls Tryz.prog 19 #[I n,I wd, .bool true] w (VerP w n wd true):=by
 obtain ⟨T,hT⟩:∃T,vt n wd false=T:=⟨_,rfl⟩
 have Xq:T.prev.length=32:=by rw [←hT];rfl
 have hTm:T.bG.length=32:=by rw [←hT];rfl
 have HT:=ae hT
 have H1:Hid (AV w.heap.size 37 (ai bJ (.slice none 0 0)) (((w.alloc (.cells (ai bJ (.slice none 0 0)) 37)).alloc (.cells (ai bJ (.slice none 0 0)) 37)).setRow (w.heap.size+1) (ai T (.slice none 0 0)))):=ae ⟨(setRow_other _ _ _ _ (by omega)).trans (heap_alloc2_old w _ _)⟩
 have H2:Hid (AV (w.heap.size+1) 37 (ai T (.slice none 0 0)) (((w.alloc (.cells (ai bJ (.slice none 0 0)) 37)).alloc (.cells (ai bJ (.slice none 0 0)) 37)).setRow (w.heap.size+1) (ai T (.slice none 0 0)))):=ae ⟨setRow_heap _ _ _ _ _ _ (heap_alloc2_new w _ _)⟩
 have HB1:Hid (Below w.heap.size w (((w.alloc (.cells (ai bJ (.slice none 0 0)) 37)).alloc (.cells (ai bJ (.slice none 0 0)) 37)).setRow (w.heap.size+1) (ai T (.slice none 0 0)))):=ae (aF (ah (ag w _) (ag _ _)) (Nat.le_succ _) _)
 have eX:Hid (∀v,(Tryz.prog.info? 37).map (·.size)=some (ai T v).size):=ae fun v=>bV _ v Xq hTm
 have CE:Hid (∀v,(ai bJ (.slice none 0 0)).size=(ai T v).size):=ae fun v=>(bn bJ _ rfl rfl).trans (bn T v Xq hTm).symm
 clear hT Xq hTm
 go_enter Tryz.func19,Tryz.ntmps19
 go_upto_region 2 with (first
  |((with_reducible refine bP 37 ?_);go_must (refine aJ rfl _ rfl (ai bJ (.slice none 0 0)) fC ?_))
  |((with_reducible refine iw 37 ?_);go_must (refine bY rfl _ rfl (ai T (.slice none 0 0)) (by rw [←HT.out];kernel_rfl) ?_))
  |((with_reducible refine gV 37 ?_);go_must (refine wpList_store_row rfl _ _ _ rfl (w.heap.size+1) (ai T (.slice none 0 0)) (congrArg (fun b=>Value.pointer (some ⟨b,0,none⟩)) (rX w _)) rfl 37 (ai bJ (.slice none 0 0)) (heap_alloc2_new w _ _) (eX.out _) (CE.out _) (bf _ _ _ _) ?_)))
 generalize ((w.alloc (.cells (ai bJ (.slice none 0 0)) 37)).alloc (.cells (ai bJ (.slice none 0 0)) 37)).setRow (w.heap.size+1) (ai T (.slice none 0 0))=W1 at H1 H2 HB1 ⊢
 have hw1:=H2.out.lt
 refine ax ?_
 (try rw [rX w])
 go_wp2_with fail
 refine (QG W1).mono ?_
 rintro e w2 ⟨mb,hmb,rfl,hm2,hb2⟩
 rw [show ay z0 (zs0 mb)= #[I 0, .slice (some ⟨mb,0,none⟩) 1 1,I (-1), .slice none 0 0,I 60, .slice none 0 0,I 0, .slice none 0 0] from rfl]
 have h1:=H1.out.below hb2
 have h2:=H2.out.below hb2
 have HB2:=ae (ah HB1.out hb2)
 have hl2:W1.heap.size≤w2.heap.size:=hb2.size
 have hml:mb<w2.heap.size:=(Array.getElem?_eq_some_iff.1 hm2).1
 have hbv:=ag w2 (.cells #[.string ⟨#[97]⟩,I 0, .slice (some ⟨mb,0,none⟩) 1 1,I (-1), .slice none 0 0,I 60, .slice none 0 0,I 0, .slice none 0 0] 90)
 have h1':=(h1.below hbv).far (g:=w.heap.size+1) (by omega) 3 (.slice (some ⟨w2.heap.size,0,none⟩) 1 1)
 have h2':=(h2.below hbv).put 3 (.slice (some ⟨w2.heap.size,0,none⟩) 1 1)
 rw [mF] at h2'
 have c3:(w2.alloc (.cells #[.string ⟨#[97]⟩,I 0, .slice (some ⟨mb,0,none⟩) 1 1,I (-1), .slice none 0 0,I 60, .slice none 0 0,I 0, .slice none 0 0] 90)).cell? ⟨w.heap.size+1,3,none⟩=some (.slice none 0 0):=((h2.below hbv).cell 3).trans (bC _ _)
 have f3:(w2.alloc (.cells #[.string ⟨#[97]⟩,I 0, .slice (some ⟨mb,0,none⟩) 1 1,I (-1), .slice none 0 0,I 60, .slice none 0 0,I 0, .slice none 0 0] 90)).frozen? ⟨w.heap.size+1,3,none⟩=false:=(h2.below hbv).dK 3
 have HO:Hid (fK (w.heap.size+1) ((w2.alloc (.cells #[.string ⟨#[97]⟩,I 0, .slice (some ⟨mb,0,none⟩) 1 1,I (-1), .slice none 0 0,I 60, .slice none 0 0,I 0, .slice none 0 0] 90)).setCell ⟨w.heap.size+1,3,none⟩ (.slice (some ⟨w2.heap.size,0,none⟩) 1 1)) (.slice (some ⟨w2.heap.size,0,none⟩) 1 1) [⟨yO,zs0 mb⟩]):=ae (UM ((heap_setCell_other _ ⟨w.heap.size+1,3,none⟩ _ _ (by show w2.heap.size≠w.heap.size+1;omega)).trans (heap_alloc_last w2 _)) (by omega) ((heap_setCell_other _ ⟨w.heap.size+1,3,none⟩ _ _ (by show mb≠w.heap.size+1;omega)).trans ((hbv.block _ hml).trans hm2)) (by omega))
 have HB3:Hid (Below w.heap.size w ((w2.alloc (.cells #[.string ⟨#[97]⟩,I 0, .slice (some ⟨mb,0,none⟩) 1 1,I (-1), .slice none 0 0,I 60, .slice none 0 0,I 0, .slice none 0 0] 90)).setCell ⟨w.heap.size+1,3,none⟩ (.slice (some ⟨w2.heap.size,0,none⟩) 1 1))):=ae ((ah HB2.out hbv).setCell (p:=⟨w.heap.size+1,3,none⟩) (show w.heap.size≤w.heap.size+1 by omega) _)
 clear H1 H2 h1 h2 hm2 hb2 HB1 hbv
 have H1:=ae h1'
 have H2:=ae h2'
 clear h1' h2'
 go_wp2_with (first
  |((with_reducible refine gU 37 ?_);go_must (refine aX rfl _ _ rfl (w.heap.size+1) rfl (ai T (.slice (some ⟨w2.heap.size,0,none⟩) 1 1)) H2.out.jB _ Tryz.underlying37 rfl (eX.out _) ?_))
  |((with_reducible refine gV 37 ?_);go_must (refine wpList_store_row rfl _ _ _ rfl w.heap.size (ai T (.slice (some ⟨w2.heap.size,0,none⟩) 1 1)) rfl rfl 37 (ai bJ (.slice none 0 0)) H1.out.var (eX.out _) (CE.out _) (bf _ _ _ _) ?_)))
 refine bodyPost_ret (v:= .agg (ai T (.slice (some ⟨w2.heap.size,0,none⟩) 1 1))) (results_cell_row rfl _ _ w.heap.size _ (ai T (.slice (some ⟨w2.heap.size,0,none⟩) 1 1)) (0,0) _ rfl (setRow_heap _ _ _ _ _ _ H1.out.var) Tryz.underlying37 rfl (eX.out _)) rfl ?_
 exact ⟨some ⟨w2.heap.size,0,none⟩,1,[⟨yO,zs0 mb⟩],by rw [←HT.out];rfl,(HO.out.aP (by simp [World.setRow]) fun k h1 h2=>setRow_other _ _ k _ (by omega)).lower (Nat.le_succ _),rfl,aF HB3.out (Nat.le_refl _) _⟩
end Go.Proofs.YtdibbemgpikgjaaGreatDoor
namespace Go.Proofs.YtdibbemgpikgjaaGreatDoor
open Go Go.RowKit
attribute [local go_sem] jR jS lg bC
theorem qI (k:Nat):Builtin.zeroCells (Value.cells (.int .u8 0)) k=(List.replicate k (Value.int .u8 0)).toArray:=by
 apply Array.ext
 ·simp [Builtin.zeroCells,Value.cells]
 ·intro i h1 h2
  have e:i%1=0:=Nat.mod_one i
  simp [Builtin.zeroCells,Value.cells,e]
theorem BQ (w:World) (ty:TypeId) (lo n c k:Nat) (A:Option Addr) (bs:List UInt8) (hown:uY lo w A n c bs) (h0:0<n) (hk:0<k) (hn:n+k≤1000000) (hbase:lo≤w.heap.size):
  ∃A' c' w',(Builtin.append_ #[32,3] ty #[.slice A n c, .int .i64 (k:Int)]).run Tryz.prog w= .ok (.slice A' (n+k) c') w'∧uY lo w' A' (n+k) c' (bs++List.replicate k 0)∧xE (.slice A n c) w (.slice A' (n+k) c') w':=by
 obtain ⟨i0,hi,hz0,hz1,hz2⟩:=info_parts qB
 have hl:bs.length=n:=by have:=hown.1;rw [List.length_map] at this;omega
 rcases hown.2 with ⟨_,h⟩|⟨g,cap,cur,hv,hg,hh,hnc,hcm,hcs,htk⟩
 ·omega
 injection hv with hA _ hC
 subst hA hC
 have hcsz:cur.size=c:=by rw [hcs,Nat.mul_one]
 have hnews:(List.replicate k (Value.int .u8 0)).length=k:=List.length_replicate
 have hcell:(List.replicate k (0:UInt8)).map Extern.Stop.cell=List.replicate k (Value.int .u8 0):=by rw [List.map_replicate];rfl
 by_cases hroom:n+k≤c
 ·have hst:=run_storeCells_at Tryz.prog g (n*i0.size) 5 (List.replicate k (Value.int .u8 0)) 0 cur w hh (by rw [hz1,hnews,hcsz];omega) (fun u hu=>by rw [(List.mem_replicate.1 hu).2];rfl)
  simp only [Nat.add_zero] at hst
  have hw:IntKind.i64.wrap (k:Int)=k:=by rw [IntKind.wrap_i64];omega
  have hneg:¬((k:Int)<0):=by omega
  have hkz:¬(k*i0.size=0):=by rw [hz1];omega
  have h48:¬(281474976710656<(k:Int)*(i0.bytes:Int)):=by rw [hz2];omega
  have hrun:(Builtin.append_ #[32,3] ty #[.slice (some ⟨g,0,none⟩) n c, .int .i64 (k:Int)]).run Tryz.prog w= .ok (.slice (some ⟨g,0,none⟩) (n+k) c) (w.setRow g (cur.toList.take (n*i0.size)++List.replicate k (Value.int .u8 0)++cur.toList.drop (n*i0.size+(List.replicate k (Value.int .u8 0)).length)).toArray):=by
   simp [Builtin.append_,run_underlying Tryz.underlying32,run_underlying Tryz.underlying3,sizeOf,typeInfo,zeroValue,hi,hz0,asInt,asIntOf,hw,hneg,hkz,h48,hroom,qI,Addr.add_lit,hst]
  rw [hz1,Nat.mul_one,hnews] at hrun
  rw [Nat.mul_one] at htk
  refine ⟨_,_,_,hrun,⟨by rw [List.length_map,List.length_append,List.length_replicate,hl,Nat.mul_one], .inr ⟨g,c,_,rfl,hg,setRow_heap w g cur _ _ _ hh,hroom,hcm,?_,?_⟩⟩,⟨rfl,rfl,rfl,by simp [World.setRow],fun b _ hb=>setRow_other w g b _ (fun e=>hb (by rw [e];rfl)), .inl rfl⟩⟩
  ·simp only [List.size_toArray,List.length_append,List.length_take,List.length_drop,List.length_replicate,Array.length_toList]
   omega
  ·rw [htk,Nat.mul_one,List.map_append,hcell,List.append_assoc,←List.append_assoc]
   exact List.take_left' (by rw [List.length_append,List.length_map,List.length_replicate,hl])
 ·have holds:∀j u,(bs.map Extern.Stop.cell)[j]? =some u→w.drew.cell? ((⟨g,0,none⟩:Addr).add j)=some u:=World.ownsRow.cells hown (g:=g) rfl
  have hf:=run_firstCells_some (P:=Tryz.prog) w.drew i0.size n ⟨g,0,none⟩ n c (bs.map Extern.Stop.cell) (by rw [List.length_map,hl,hz1,Nat.mul_one]) holds
  have hrun:=Lib.run_append_grow_zeros (P:=Tryz.prog) w 32 3 ty 5 i0 (.int .u8 0) .i64 .i64 Tryz.underlying32 Tryz.underlying3 hi hz0 (some ⟨g,0,none⟩) n c (bs.map Extern.Stop.cell) hf k hk (by rw [hz1];omega) (by omega) (by omega) (by rw [hz2];omega) (growslice_fits (by omega) (by rw [hz2];omega))
  have hge:=grownCap_ge w (n+k) c 5
  have hcm2:=grownCap_le_maxLen w (n+k) c 5 (by unfold maxLen;omega)
  refine ⟨_,_,_,hrun,⟨by rw [List.length_map,List.length_append,List.length_replicate,hl,Nat.mul_one], .inr ⟨w.heap.size,_,_,rfl,hbase,heap_alloc_new w.drew _,hge,hcm2,?_,?_⟩⟩,⟨rfl,rfl,rfl,by simp,fun b hb _=>heap_alloc_old w.drew _ hb, .inr ⟨w.heap.size,rfl,Nat.le_refl _⟩⟩⟩
  ·simp only [qI,Array.size_append,List.size_toArray,List.length_map,List.length_replicate,hl]
   omega
  ·rw [qI,qI]
   simp only [Array.toList_append,List.map_append,hcell]
   exact List.take_left' (by rw [List.length_append,List.length_map,List.length_replicate,hl,Nat.mul_one])
theorem qg {ops:Array Oper} {rest:List Oper} {o:Oper} {a:Act} {Q:Exit→Act→World→Prop} {w:World} (hgd:o.guard=none) (sl x:Operand)
  (ho:o.op= .call {callee:= .builtin .append,args:= #[sl,x],argTypes:= #[32,3]}) (lo n c k:Nat) (A:Option Addr) (bs:List UInt8) (hs:a.eval sl= .slice A n c) (hx:a.eval x= .int .i64 (k:Int)) (hown:uY lo w A n c bs)
  (h0:0<n) (hk:0<k) (hn:n+k≤1000000) (hbase:lo≤w.heap.size)
  (h:∀A' c' w',uY lo w' A' (n+k) c' (bs++List.replicate k 0)→xE (.slice A n c) w (.slice A' (n+k) c') w'→wpList Tryz.prog ops Q rest (a.put o.dst (.slice A' (n+k) c')) w'):wpList Tryz.prog ops Q (o::rest) a w:=by
 obtain ⟨A',c',w',hr,h1,h2⟩:=BQ w o.type lo n c k A bs hown h0 hk hn hbase
 exact Lib.wpList_append_run w hgd sl x _ _ ho _ _ hs hx _ _ hr (h A' c' w' h1 h2)
set_option maxRecDepth 10000 in
set_option maxHeartbeats 1000000 in
theorem BR (A A2:Option Addr) (n c c2:Nat) (bs:List UInt8) (w:World) (hl:bs.length=n) (hn:n≤1000000) (h1:az w w.heap.size A (bs.map Extern.Stop.cell)) (h2:az w w.heap.size A2 (bs.map Extern.Stop.cell)):
  Calls Tryz.prog 14 #[.slice A n c, .slice A2 n c2] w (Gives (.bool true) w):=by
 have H1:=ae h1
 have H2:=ae h2
 have HL:=ae hl
 clear h1 h2 hl
 go_enter Tryz.func14,Tryz.ntmps14
 go_wp2_with fail
 go_loopw [5] (fun i wr=>∃k:Nat,k≤n∧i=I k∧∃m,wr=w.drewN m) (fun i _=>n - (intOf i).toNat)
 case atStart=>exact ⟨0,Nat.zero_le _,rfl,0,rfl⟩
 case round=>
  obtain ⟨k,hk,rfl,m,rfl⟩:=hrel
  by_cases hlt:(k:Int)<(n:Int)
  ·have hk2:k<n:=by omega
   obtain ⟨b,off,rfl,hb,hc⟩:=H1.out.there (by rw [List.length_map,HL.out];omega)
   obtain ⟨b2,yD,rfl,hb2,hc2⟩:=H2.out.there (by rw [List.length_map,HL.out];omega)
   obtain ⟨x,hx⟩:∃x,bs[k]? =some x:=⟨_,List.getElem?_eq_getElem (by rw [HL.out];exact hk2)⟩
   have e1:w.cell? ⟨b,off+k,none⟩=some (.int .u8 (x.toNat:Int)):=hc k _ (by rw [List.getElem?_map,hx];rfl)
   have e2:w.cell? ⟨b2,yD+k,none⟩=some (.int .u8 (x.toNat:Int)):=hc2 k _ (by rw [List.getElem?_map,hx];rfl)
   clear hc hc2 hx
   go_wp2_with fail
   go_quiet (fail)
   go_wp2_with fail
   go_roundw
   case rel=>exact ⟨k+1,by omega,by go_num,_,rfl⟩
   case measure=>simp [intOf];omega
  ·go_wp2_with fail
   go_ret
   exact ⟨rfl,rfl,rfl,rfl,Nat.le_refl _,fun _ _=>rfl⟩
set_option maxRecDepth 10000 in
set_option maxHeartbeats 1000000 in
theorem J8 (A:Option Addr) (n c:Nat) (w:World) (hn:n≤4):Calls Tryz.prog 25 #[.slice A n c,I 5] w (Gives (.tuple #[.agg (ai bJ (.slice none 0 0)), .int .i64 4]) w):=by
 have HW0:=ae (AV.new w (ai bJ (.slice none 0 0)) 37)
 have HB0:=ae (ag w (.cells (ai bJ (.slice none 0 0)) 37))
 have Ry:Hid ((Tryz.prog.info? 37).map (·.size)=some (ai bJ (.slice none 0 0)).size):=ae (bV bJ _ rfl rfl)
 have i1:(n:Int)<5:=by omega
 go_enter Tryz.func25,Tryz.ntmps25
 go_wp2_with (first
  |((with_reducible refine bP 37 ?_);go_must (refine aJ rfl _ rfl (ai bJ (.slice none 0 0)) fC ?_))
  |((with_reducible refine iw 37 ?_);go_must (refine bY rfl _ rfl (ai bJ (.slice none 0 0)) (by kernel_rfl) ?_))
  |((with_reducible refine gV 37 ?_);go_must (refine wpList_store_row rfl _ _ _ rfl w.heap.size (ai bJ (.slice none 0 0)) rfl rfl 37 (ai bJ (.slice none 0 0)) HW0.out.var Ry.out rfl (bf _ _ _ _) ?_)))
 refine bodyPost_ret (v:= .tuple #[.agg (ai bJ (.slice none 0 0)),I 4]) (bK rfl _ _ w.heap.size _ (ai bJ (.slice none 0 0)) (0,0) _ rfl (setRow_heap _ _ _ _ _ _ HW0.out.var) Tryz.underlying37 rfl Ry.out _ rfl) rfl ?_
 exact ⟨rfl,aF HB0.out (Nat.le_refl _) _⟩
set_option maxRecDepth 10000 in
set_option maxHeartbeats 1000000 in
theorem QY (t:Tb) (A:Option Addr) (n c:Nat) (w:World) (hi:0≤t.aW∧t.aW<16) (hv:t.version<1):Calls Tryz.prog 26 #[.agg (ai t (.slice A n c))] w (Gives (.int .i64 1) w):=by
 obtain ⟨is,his⟩:∃i,t.aW=i:=⟨_,rfl⟩
 obtain ⟨ve,XW⟩:∃i,t.version=i:=⟨_,rfl⟩
 have HA:=ae (AV.new w (ai t (.slice A n c)) 37)
 have c0:(w.alloc (.cells (ai t (.slice A n c)) 37)).cell? ⟨w.heap.size,0,none⟩=some (I is):=(HA.out.cell 0).trans (by rw [←his];rfl)
 have c1:(w.alloc (.cells (ai t (.slice A n c)) 37)).cell? ⟨w.heap.size,1,none⟩=some (I ve):=(HA.out.cell 1).trans (by rw [←XW];rfl)
 rw [his] at hi
 rw [XW] at hv
 obtain ⟨i0,i1⟩:=hi
 have i2:¬is<0:=by omega
 have i3:¬(16:Int)≤is:=by omega
 have HB:=ae (ag w (.cells (ai t (.slice A n c)) 37))
 clear his XW
 go_enter Tryz.func26,Tryz.ntmps26
 go_wp2_with fail
 go_ret
 exact ⟨rfl,HB.out⟩
def nR (ts:List di):Int:=if (uI ts).2=false then -1 else if (uI ts).1<0 then -4 else ((ts[(uI ts).1.toNat]?).map (·.t.version)).getD 0
set_option maxRecDepth 10000 in
set_option maxHeartbeats 2000000 in
theorem sZ (A:Option Addr) (c n:Nat) (ts:List di) (w:World) (hn:ts.length=n) (hn1:n≤1000) (hl:xx ts) (h:gW w w.heap.size A ts) (hp:∀x∈ts,x.t.prev.length=32∧x.t.bG.length=32):
  Calls Tryz.prog 22 #[.slice A n c] w (Gives (.int .i64 (nR ts)) w):=by
 have HC:=ae (JG A c n ts w hn hn1 hl h)
 have Rq:=ae hp
 obtain ⟨F,hF⟩:∃F,nR ts=F:=⟨_,rfl⟩
 rw [hF]
 have HF:=ae hF
 clear hn hl h hp hF
 go_enter Tryz.func22,Tryz.ntmps22
 go_wp2_with fail
 refine HC.out.mono ?_
 rintro e w2 ⟨hb2,p,b,hpb,⟨rfl,rfl⟩|⟨rfl,hp0,rfl⟩|⟨rfl,i,x,y,rfl,hx,hy,_,rfl,hO⟩⟩
 ·have HE:Hid (F= -1):=ae (by rw [←HF.out];unfold nR;rw [hpb];rfl)
  clear hpb
  have nK:=ae (AV.new w2 (ai bJ (.slice none 0 0)) 37)
  have HB2:=ae (ah hb2 (ag w2 (.cells (ai bJ (.slice none 0 0)) 37)))
  have HW:=ae hb2.size
  clear hb2
  rw [kL]
  go_wp2_with (first
   |((with_reducible refine bP 37 ?_);go_must (refine aJ rfl _ rfl (ai bJ (.slice none 0 0)) fC ?_))
   |((with_reducible refine gV 37 ?_);go_must (refine wpList_store_row rfl _ _ _ rfl w2.heap.size (ai bJ (.slice none 0 0)) rfl rfl 37 (ai bJ (.slice none 0 0)) nK.out.var (bV bJ _ rfl rfl) rfl (bf _ _ _ _) ?_)))
  go_ret
  exact ⟨by rw [HE.out];rfl,aF HB2.out HW.out _⟩
 ·have HE:Hid (F= -4):=ae (by rw [←HF.out];unfold nR;rw [hpb];simp [hp0])
  clear hpb hp0
  have nK:=ae (AV.new w2 (ai bJ (.slice none 0 0)) 37)
  have HB2:=ae (ah hb2 (ag w2 (.cells (ai bJ (.slice none 0 0)) 37)))
  have HW:=ae hb2.size
  clear hb2
  rw [kL]
  go_wp2_with (first
   |((with_reducible refine bP 37 ?_);go_must (refine aJ rfl _ rfl (ai bJ (.slice none 0 0)) fC ?_))
   |((with_reducible refine gV 37 ?_);go_must (refine wpList_store_row rfl _ _ _ rfl w2.heap.size (ai bJ (.slice none 0 0)) rfl rfl 37 (ai bJ (.slice none 0 0)) nK.out.var (bV bJ _ rfl rfl) rfl (bf _ _ _ _) ?_)))
  go_ret
  exact ⟨by rw [HE.out];rfl,aF HB2.out HW.out _⟩
 ·have HE:Hid (F=x.t.version):=ae (by rw [←HF.out];unfold nR;rw [hpb];simp [hx];intro h;omega)
  have hq:=Rq.out x (List.mem_of_getElem? hx)
  obtain ⟨T,hT⟩:∃T,y.t=T:=⟨_,rfl⟩
  have hTx:T=x.t:=hT.symm.trans hy
  rw [hT]
  have eX:Hid ((Tryz.prog.info? 37).map (·.size)=some (ai T (.slice y.A y.zs.length y.c)).size):=ae (bV T _ (by rw [hTx];exact hq.1) (by rw [hTx];exact hq.2))
  have CE:Hid ((ai bJ (.slice none 0 0)).size=(ai T (.slice y.A y.zs.length y.c)).size):=ae ((bn bJ _ rfl rfl).trans (bn T _ (by rw [hTx];exact hq.1) (by rw [hTx];exact hq.2)).symm)
  obtain ⟨ve,XW⟩:∃v,T.version=v:=⟨_,rfl⟩
  have HVE:Hid (F=ve):=ae (by rw [HE.out,←XW,hTx])
  have nK:=ae ((AV.new w2 (ai bJ (.slice none 0 0)) 37))
  have HB2:=ae (aF (ah hb2 (ag w2 (.cells (ai bJ (.slice none 0 0)) 37))) hb2.size (ai T (.slice y.A y.zs.length y.c)))
  have uZ:=ae (nK.out.qE (ai T (.slice y.A y.zs.length y.c)))
  have c1:((w2.alloc (.cells (ai bJ (.slice none 0 0)) 37)).setRow w2.heap.size (ai T (.slice y.A y.zs.length y.c))).cell? ⟨w2.heap.size,1,none⟩=some (I ve):=(uZ.out.cell 1).trans (by rw [←XW];rfl)
  clear hb2 hpb hx hy hO hq hT hTx XW
  go_wp2_with (first
   |((with_reducible refine bP 37 ?_);go_must (refine aJ rfl _ rfl (ai bJ (.slice none 0 0)) fC ?_))
   |((with_reducible refine gV 37 ?_);go_must (refine wpList_store_row rfl _ _ _ rfl w2.heap.size (ai T (.slice y.A y.zs.length y.c)) rfl rfl 37 (ai bJ (.slice none 0 0)) nK.out.var eX.out CE.out (bf _ _ _ _) ?_)))
  go_ret
  exact ⟨by rw [HVE.out];rfl,HB2.out⟩
end Go.Proofs.YtdibbemgpikgjaaGreatDoor
namespace Go.Proofs.YtdibbemgpikgjaaGreatDoor
open Go Go.RowKit
attribute [local go_sem] jR jS lg bC
section
variable {P:Program} {ops:Array Oper} {a:Act} {w:World} {rest:List Oper} {o:Oper}
theorem oz {Q:Act→Prop} (hw:Region.wanted o (yielded ops a.tmps)=true) (ty:TypeId) (x:Operand) (ho:o.op= .load ty x) (g off:Nat) (hx:a.eval x= .pointer (some ⟨g,off,none⟩)) (cs:List Value) (hr:w.rangeAt g off cs)
  (d:TypeDesc) (hu:P.underlying ty=some d) (hd:d.isRow=true) (hi:(P.info? ty).map (·.size)=some cs.length)
  (h:wpStill P ops w Q rest (a.put o.dst (.agg cs.toArray))):wpStill P ops w Q (o::rest) a:=by
 refine wpStill_step fun K hK=>?_
 rw [if_pos hw]
 unfold Oper.still execOp
 simp only [ho,hx,Instr.loadAt,Instr.sureAddr,Sem.run_bind,Sem.run_pure,Result.andThen_ok,run_loadVar_mid w g off ty cs d hr hu hd hi]
 exact ⟨rfl,hK _ h⟩
end
theorem Dn (r:List UInt8) (h:r.length=32) (W:World):(binOp .neq 23 (.agg (aj r).toArray) (.agg (aj r).toArray)).run Tryz.prog W= .ok (.bool false) W:=by
 unfold aj
 rw [run_neq_struct,Go.Proofs.YtdibbemgpikgjaaGreatDoor.uf W r h]
 simp [Result.andThen]
theorem L9 (x:cZ):∀j u,(ay x.e.z x.s).toList[j]? =some u→x.cells.toList[1+j]? =some u:=fun j u hu=>by
 rw [Nat.add_comm]
 exact hu
set_option maxRecDepth 10000 in
set_option maxHeartbeats 2000000 in
theorem QE (t:Tb) (A1 A2:Option Addr) (c1 c2 n:Nat) (Yi ys2:List cZ) (zs:List Ze) (w:World) (hp:t.prev.length=32) (hm:t.bG.length=32) (h1:Yi.map (·.e)=zs) (h2:ys2.map (·.e)=zs) (hn:zs.length=n) (hn1:n≤1000) (hl:∀e∈zs,oK e.z) (m1:kU w w.heap.size A1 Yi) (m2:kU w w.heap.size A2 ys2):
  Calls Tryz.prog 21 #[.agg (ai t (.slice A1 n c1)), .agg (ai t (.slice A2 n c2))] w (Gives (.bool true) w):=by
 have HV:=ae (oH.start w 37 (ai t (.slice A1 n c1)) (ai t (.slice A2 n c2)))
 have l1:Yi.length=n:=by rw [←hn,←h1,List.length_map]
 have l2:ys2.length=n:=by rw [←hn,←h2,List.length_map]
 obtain ⟨W0,hW0⟩:∃W0,(w.alloc (.cells (ai t (.slice A1 n c1)) 37)).alloc (.cells (ai t (.slice A2 n c2)) 37)=W0:=⟨_,rfl⟩
 rw [hW0] at HV
 have HW0:=ae hW0
 have Ci:=ae l1
 have HL2:=ae l2
 have DJ:=ae h1
 have HE2:=ae h2
 have uD:=ae m1
 have Rn:=ae m2
 have OI:=ae hl
 have nq1:=Dn t.prev hp
 have nq2:=Dn t.bG hm
 have xB:=ae (qG t _ HV.out.a)
 have HP2:=ae (qG t _ HV.out.b)
 have oJ:=ae (EI t _ HV.out.a hp)
 have lH:=ae (EI t _ HV.out.b hp)
 have Yn:Hid ((Tryz.prog.info? 23).map (·.size)=some (aj t.prev).length):=ae (by simp only [aj,List.length_map,hp];kernel_rfl)
 have H33:Hid ((Tryz.prog.info? 23).map (·.size)=some (aj t.bG).length):=ae (by simp only [aj,List.length_map,hm];kernel_rfl)
 have p0:=HV.out.a.2
 have p1:=HV.out.b.2
 clear hn h1 h2 m1 m2 hl hp hm l1 l2 hW0
 go_enter Tryz.func21,Tryz.ntmps21
 go_upto_region 1 with fail
 rw [HW0.out]
 go_wp2_with (first
  |((with_reducible refine dG 23 ?_);go_must (first
    |(refine bZ rfl _ _ rfl w.heap.size 4 rfl (aj t.prev) xB.out _ Tryz.underlying23 rfl Yn.out ?_)
    |(refine bZ rfl _ _ rfl (w.heap.size+1) 4 rfl (aj t.prev) HP2.out _ Tryz.underlying23 rfl Yn.out ?_)
    |(refine bZ rfl _ _ rfl w.heap.size 36 rfl (aj t.bG) oJ.out _ Tryz.underlying23 rfl H33.out ?_)
    |(refine bZ rfl _ _ rfl (w.heap.size+1) 36 rfl (aj t.bG) lH.out _ Tryz.underlying23 rfl H33.out ?_))))
 go_loopw [5] (fun i wr=>zF w 37 (ai t (.slice A1 n c1)) (ai t (.slice A2 n c2)) n i wr) (fun i _=>n - (intOf i).toNat)
 case atStart=>exact ⟨0,Nat.zero_le _,rfl,HV.out⟩
 case round=>
  clear p0 p1 nq1 nq2
  obtain ⟨k,hk,rfl,hv⟩:=hrel
  have Vb:=ae hv
  have p3:wr.cell? ⟨w.heap.size,3,none⟩=some (.slice A1 n c1):=(hv.a.2 3).trans (bC _ _)
  have q3:wr.cell? ⟨w.heap.size+1,3,none⟩=some (.slice A2 n c2):=(hv.b.2 3).trans (bC _ _)
  clear hv
  by_cases hlt:(k:Int)<(n:Int)
  ·have hk2:k<n:=by omega
   obtain ⟨x1,hx1⟩:∃x,Yi[k]? =some x:=⟨_,List.getElem?_eq_getElem (by rw [Ci.out];exact hk2)⟩
   obtain ⟨x2,hx2⟩:∃x,ys2[k]? =some x:=⟨_,List.getElem?_eq_getElem (by rw [HL2.out];exact hk2)⟩
   have he:x1.e=x2.e:=by
    have a1:zs[k]? =some x1.e:=by rw [←DJ.out,List.getElem?_map,hx1];rfl
    have a2:zs[k]? =some x2.e:=by rw [←HE2.out,List.getElem?_map,hx2];rfl
    rw [a1] at a2
    injection a2
   have hel:oK x1.e.z:=OI.out _ (by rw [←DJ.out];exact List.mem_map_of_mem (List.mem_of_getElem? hx1))
   have z1:=uD.out.each x1 (List.mem_of_getElem? hx1)
   have z2:=Rn.out.each x2 (List.mem_of_getElem? hx2)
   obtain ⟨b,off,rfl,hb,hc⟩:=uD.out.row.there (by rw [dO,Ci.out];omega)
   obtain ⟨b2,yD,rfl,hb2,hc2⟩:=Rn.out.row.there (by rw [dO,HL2.out];omega)
   have r1:wr.rangeAt b (off+k*9) x1.cells.toList:=aO (az.elem (s:=9) (f:=fun x:cZ=>x.cells.toList) (fun _ _=>rfl) hc k x1 hx1) Vb.out.up hb
   have r2:wr.rangeAt b2 (yD+k*9) x2.cells.toList:=aO (az.elem (s:=9) (f:=fun x:cZ=>x.cells.toList) (fun _ _=>rfl) hc2 k x2 hx2) Vb.out.up hb2
   obtain ⟨nm,hnm⟩:∃s,x1.e.name=s:=⟨_,rfl⟩
   have e1:wr.cell? ⟨b,off+k*9,none⟩=some (.string nm):=by rw [←hnm];exact r1 0 _ rfl
   have e2:wr.cell? ⟨b2,yD+k*9,none⟩=some (.string nm):=by rw [←hnm,he];exact r2 0 _ rfl
   have R1:Hid (wr.drew.rangeAt b (off+k*9+1) (ay x1.e.z x1.s).toList):=ae (fun j u hu=>by rw [Nat.add_assoc];exact r1 (1+j) u (L9 x1 j u hu))
   have R2:Hid (wr.drew.rangeAt b2 (yD+k*9+1) (ay x1.e.z x2.s).toList):=ae (fun j u hu=>by rw [he] at hu;rw [Nat.add_assoc];exact r2 (1+j) u (L9 x2 j u hu))
   have ZI:Hid (∀s,(Tryz.prog.info? 67).map (·.size)=some (ay x1.e.z s).toList.length):=ae (fun s=>by kernel_rfl)
   have HS:Hid (Calls Tryz.prog 37 #[.agg (ay x1.e.z x1.s), .agg (ay x1.e.z x2.s)] wr.drew (Gives (.bool true) wr.drew)):=ae (BU x1.e.z x1.s x2.s _ _ wr.drew hel rfl rfl ((z1.keep (Vb.out.drew 1).up).more (Vb.out.drew 1).up.size) (by rw [he];exact (z2.keep (Vb.out.drew 1).up).more (Vb.out.drew 1).up.size))
   clear hx1 hx2 he hel z1 z2 hc hc2 r1 r2 hnm
   go_wp2_with fail
   refine wp_region_still_tail 26 (by kernel_rfl) (by kernel_rfl) ?_
   simp only [List.take_succ_cons,List.take_zero,List.drop_succ_cons,List.drop_zero]
   iterate 19 still_step
   refine oz rfl _ _ rfl b (off+k*9+1) rfl (ay x1.e.z x1.s).toList R1.out _ Tryz.underlying67 rfl (ZI.out _) ?_
   iterate 5 still_step
   refine oz rfl _ _ rfl b2 (yD+k*9+1) rfl (ay x1.e.z x2.s).toList R2.out _ Tryz.underlying67 rfl (ZI.out _) ?_
   refine wpStill_nil ?_
   change wpList _ _ _ _ _ wr.drew
   go_wp2_with fail
   refine HS.out.mono ?_
   rintro e w3 ⟨rfl,hb3⟩
   have uZ:Hid (oH w 37 (ai t (.slice (some ⟨b,off,none⟩) n c1)) (ai t (.slice (some ⟨b2,yD,none⟩) n c2)) w3):=ae ((Vb.out.drew 1).below hb3)
   clear hb3 e1 e2 p3 q3
   go_wp2_with fail
   go_roundw
   case rel=>exact ⟨k+1,by omega,by go_num,uZ.out⟩
   case measure=>simp [intOf];omega
  ·go_wp2_with fail
   go_ret
   exact ⟨rfl,Vb.out.up⟩
end Go.Proofs.YtdibbemgpikgjaaGreatDoor
namespace Go.Proofs.YtdibbemgpikgjaaGreatDoor
open Go Go.RowKit
theorem Q7:oK z0:=⟨by decide,by decide,by decide,by decide⟩
theorem Yh {n wd:Int} {ys:List cZ} (h:ys.map (·.e)=(vt n wd true).aS):∃s,ys= [⟨yO,s⟩]:=by
 have h2:ys.map (·.e)= [yO]:=h
 cases ys with
 |nil=>cases h2
 |cons x r=>
  rw [List.map_cons] at h2
  injection h2 with h3 h4
  have hr:r= []:=List.map_eq_nil_iff.1 h4
  subst hr
  exact ⟨x.s,by rw [←h3]⟩
theorem Yg {n wd:Int} {ys:List cZ} (h:ys.map (·.e)=(vt n wd false).aS):ys= []:=by
 match ys,h with
 | [],_=>rfl
def yT (n wd:Int) (A:Option Addr) (c:Nat) (s:Zs):di:=⟨vt n wd true,A,c,[⟨yO,s⟩]⟩
def fF (n wd:Int) (A:Option Addr) (c:Nat):di:=⟨vt n wd false,A,c,[]⟩
theorem N7 (n wd:Int) (w:World):Calls Tryz.prog 19 #[I n,I wd, .bool true] w fun e w'=>∃A c s,e= .returned (.agg (yT n wd A c s).cells.toArray)∧jF w' w'.heap.size (yT n wd A c s)∧Below w.heap.size w w':=
 (Dy n wd w).mono (fun e w' ⟨A,c,ys,h1,h2,h3,h4⟩=>by
  obtain ⟨s,rfl⟩:=Yh h3
  exact ⟨A,c,s,h1,EP h2 h3,h4⟩)
theorem QZ (n wd:Int) (w:World):Calls Tryz.prog 19 #[I n,I wd, .bool false] w fun e w'=>∃A c,e= .returned (.agg (fF n wd A c).cells.toArray)∧jF w' w'.heap.size (fF n wd A c)∧Below w.heap.size w w':=
 (N8 n wd w).mono (fun e w' ⟨A,c,ys,h1,h2,h3,h4⟩=>by
  obtain rfl:=Yg h3
  exact ⟨A,c,h1,EP h2 h3,h4⟩)
theorem xu (n wd:Int) (A:Option Addr) (c:Nat) (s:Zs):(yT n wd A c s).zs.length≤1000∧∀y∈(yT n wd A c s).zs,oK y.e.z:=⟨Nat.le_of_ble_eq_true rfl,fun y hy=>by rw [List.mem_singleton.1 hy];exact Q7⟩
theorem A8 (n wd:Int) (A:Option Addr) (c:Nat):(fF n wd A c).zs.length≤1000∧∀y∈(fF n wd A c).zs,oK y.e.z:=⟨Nat.zero_le _,fun _ h=>nomatch h⟩
def kJ (ys:List di):Array Value:=(ys.flatMap di.cells).toArray
section
variable {ops:Array Oper} {rest:List Oper} {o:Oper} {a:Act} {Q:Exit→Act→World→Prop} {w:World}
theorem vZ (hgd:o.guard=none) (x0 x1 x2 x3:Operand) (ho:o.op= .buildSlice 28 4 #[(0,x0),(1,x1),(2,x2),(3,x3)]) (y0 y1 y2 y3:di) (h0:y0.cells.length=68) (h1:y1.cells.length=68) (h2:y2.cells.length=68) (h3:y3.cells.length=68)
  (e0:a.eval x0= .agg y0.cells.toArray) (e1:a.eval x1= .agg y1.cells.toArray) (e2:a.eval x2= .agg y2.cells.toArray) (e3:a.eval x3= .agg y3.cells.toArray)
  (h:wpList Tryz.prog ops Q rest (a.put o.dst (.slice (some ⟨w.heap.size,0,none⟩) 4 4)) (w.alloc (.cells (kJ [y0,y1,y2,y3]) 37))):wpList Tryz.prog ops Q (o::rest) a w:=by
 obtain ⟨i0,hi,hz0,hz1,hz2⟩:=info_parts zZ
 refine wpList_buildSlice hgd 28 37 4 _ ho ([y0,y1,y2,y3].flatMap di.cells).toArray i0 (.agg (ai bJ (.slice none 0 0))) Tryz.underlying28 hi hz0 (by rw [hz1];decide) (by rw [hz1];decide) ?_ h
 rw [hz1]
 simp only [List.map_toArray,List.map_cons,List.map_nil,e0,e1,e2,e3]
 have h:=Go.Great.fill_whole (s:=68) (by omega) [.agg y0.cells.toArray, .agg y1.cells.toArray, .agg y2.cells.toArray, .agg y3.cells.toArray] ((Array.range (4*68)).map ((Value.agg (ai bJ (.slice none 0 0))).cells[· %(Value.agg (ai bJ (.slice none 0 0))).cells.size]!)) (fun v hv=>by
  simp at hv
  rcases hv with rfl|rfl|rfl|rfl<;>simp [Value.cells,h0,h1,h2,h3]) (by simp)
 have e:([Value.agg y0.cells.toArray, .agg y1.cells.toArray, .agg y2.cells.toArray, .agg y3.cells.toArray].flatMap fun v=>v.cells.toList).toArray=([y0,y1,y2,y3].flatMap di.cells).toArray:=by simp [Value.cells]
 rw [e] at h
 exact h
theorem EY (hgd:o.guard=none) (x0 x1:Operand) (ho:o.op= .buildSlice 28 2 #[(0,x0),(1,x1)]) (y0 y1:di) (h0:y0.cells.length=68) (h1:y1.cells.length=68)
  (e0:a.eval x0= .agg y0.cells.toArray) (e1:a.eval x1= .agg y1.cells.toArray)
  (h:wpList Tryz.prog ops Q rest (a.put o.dst (.slice (some ⟨w.heap.size,0,none⟩) 2 2)) (w.alloc (.cells (kJ [y0,y1]) 37))):wpList Tryz.prog ops Q (o::rest) a w:=by
 obtain ⟨i0,hi,hz0,hz1,hz2⟩:=info_parts zZ
 refine wpList_buildSlice hgd 28 37 2 _ ho ([y0,y1].flatMap di.cells).toArray i0 (.agg (ai bJ (.slice none 0 0))) Tryz.underlying28 hi hz0 (by rw [hz1];decide) (by rw [hz1];decide) ?_ h
 rw [hz1]
 simp only [List.map_toArray,List.map_cons,List.map_nil,e0,e1]
 have h:=Go.Great.fill_whole (s:=68) (by omega) [.agg y0.cells.toArray, .agg y1.cells.toArray] ((Array.range (2*68)).map ((Value.agg (ai bJ (.slice none 0 0))).cells[· %(Value.agg (ai bJ (.slice none 0 0))).cells.size]!)) (fun v hv=>by
  simp at hv
  rcases hv with rfl|rfl<;>simp [Value.cells,h0,h1]) (by simp)
 have e:([Value.agg y0.cells.toArray, .agg y1.cells.toArray].flatMap fun v=>v.cells.toList).toArray=([y0,y1].flatMap di.cells).toArray:=by simp [Value.cells]
 rw [e] at h
 exact h
end
theorem wQ (ys:List di) (W:World) (h:∀y∈ys,jF W W.heap.size y):gW (W.alloc (.cells (kJ ys) 37)) (W.alloc (.cells (kJ ys) 37)).heap.size (some ⟨W.heap.size,0,none⟩) ys:=by
 refine ⟨.inr ⟨W.heap.size,0,rfl,by simp,fun j u hu=>?_⟩,fun y hy=>(h y hy).grow (ag W _)⟩
 rw [Nat.zero_add,cell_of_row _ _ j _ _ _ (heap_alloc_last W _)]
 unfold kJ
 simpa using hu
theorem gW.takeL {w:World} {B:Nat} {A:Option Addr} {ts:List di} (h:gW w B A ts) (k:Nat):gW w B A (ts.take k):=by
 refine ⟨?_,fun y hy=>h.each y (List.mem_of_mem_take hy)⟩
 rcases h.row with h|⟨b,off,h1,h2,h3⟩
 ·refine .inl (List.eq_nil_iff_length_eq_zero.1 ?_)
  have e:=List.eq_nil_of_length_eq_zero h
  rw [List.flatMap_eq_nil_iff] at e ⊢
  exact fun x hx=>e x (List.mem_of_mem_take hx)
 ·refine .inr ⟨b,off,h1,h2,fun j u hu=>h3 j u ?_⟩
  have e:ts.flatMap di.cells=(ts.take k).flatMap di.cells++(ts.drop k).flatMap di.cells:=by rw [←List.flatMap_append,List.take_append_drop]
  rw [e,List.getElem?_append_left (List.getElem?_eq_some_iff.1 hu).1]
  exact hu
theorem gW.tail {w:World} {B b off:Nat} {y:di} {ts:List di} (h:gW w B (some ⟨b,off,none⟩) (y::ts)) (hy:y.cells.length=68):gW w B (some ⟨b,off+68,none⟩) ts:=by
 refine ⟨?_,fun z hz=>h.each z (List.mem_cons_of_mem _ hz)⟩
 rcases h.row with h|⟨b2,yD,h1,h2,h3⟩
 ·rw [List.flatMap_cons,List.length_append,hy] at h
  omega
 ·injection h1 with h1
  injection h1 with h1 h4
  subst h1 h4
  refine .inr ⟨b,off+68,rfl,h2,fun j u hu=>?_⟩
  rw [Nat.add_assoc]
  exact h3 (68+j) u (by rw [List.flatMap_cons,List.getElem?_append_right (by omega),hy,show 68+j - 68=j by omega];exact hu)
theorem UF:qU [yO] ⟨#[97]⟩=some z0:=by
 have e:Ag yO.name ⟨#[97]⟩=true:=by decide+kernel
 unfold qU
 rw [List.find?_cons,e]
 rfl
theorem UG:qU [yO] ⟨#[98]⟩=none:=by
 have e:Ag yO.name ⟨#[98]⟩=false:=by decide+kernel
 unfold qU
 rw [List.find?_cons,e]
 rfl
section
variable (A1 A2 A3 A4 B1 B2:Option Addr) (c1 c2 c3 c4 d1 d2:Nat) (s1 s2 s4:Zs)
theorem PM:nR [yT 1 0 A1 c1 s1,yT 2 0 A2 c2 s2,fF 3 2 A3 c3]=1:=by rfl
theorem PN:nR [yT 1 0 A1 c1 s1,yT 2 0 A2 c2 s2,fF 3 2 A3 c3,fF 4 3 A4 c4]=2:=by rfl
theorem PO:nR [yT 1 0 A1 c1 s1,yT 2 0 A2 c2 s2,fF 3 2 A3 c3,yT 4 0 A4 c4 s4]=4:=by rfl
theorem PQ:nR [fF 1 0 B1 d1,fF 2 1 B2 d2]= -4:=by rfl
theorem PR:nR [yT 2 0 A2 c2 s2,fF 3 2 A3 c3,fF 4 3 A4 c4]= -1:=by rfl
theorem Tq:nR []= -4:=by rfl
theorem Yb:pick [yT 1 0 A1 c1 s1,yT 2 0 A2 c2 s2,fF 3 2 A3 c3,fF 4 3 A4 c4] ⟨#[97]⟩=some z0:=by
 have e:uI [yT 1 0 A1 c1 s1,yT 2 0 A2 c2 s2,fF 3 2 A3 c3,fF 4 3 A4 c4]=(1,true):=rfl
 unfold pick
 rw [e]
 exact UF
theorem Yc:pick [fF 1 0 B1 d1,fF 2 1 B2 d2] ⟨#[97]⟩=none:=by rfl
end
end Go.Proofs.YtdibbemgpikgjaaGreatDoor
