/- The texts Lk, Ll, Lm, Wa, in this order. -/
import Derived.Test.YtbaehbbonkljpaaGreatR00
import Derived.Lib.AppendZerosOnto
import Derived.Test.YtbaehbbonkljpaaGreatR41
import Derived.Test.YtbaehbbonkljpaaGreatR45
set_option maxRecDepth 10000
set_option maxHeartbeats 8000000
namespace Go.Proofs.YtbaehbbonkljpaaGreat
open Go Go.RowKit
def z0:Zn:=⟨⟨0,[3], -1,[]⟩,60,[],0,[]⟩
def zs0 (mb:Nat):Zs:=⟨some ⟨mb,0,none⟩,1,none,0,none,0,none,0⟩
def EC:Ze:=⟨⟨#[97]⟩,z0⟩
def vt (n wd:Int) (b:Bool):Tb:=⟨2,n,wd,bU,bU,if b then [EC] else []⟩
def SimP (w:World) (e:Ending) (w':World):Prop:=∃mb,w.heap.size≤mb∧e= .returned (.agg (au z0 (zs0 mb)))∧w'.heap[mb]? =some (.cells #[I 3] 3 (0,0))∧Below w.heap.size w w'
def VerP (w:World) (n wd:Int) (b:Bool) (e:Ending) (w':World):Prop:=
 ∃A c ys,e= .returned (.agg (ah (vt n wd b) (.slice A ys.length c)))∧ku w.heap.size w' (.slice A ys.length c) ys∧ys.map (·.e)=(vt n wd b).aG∧Below w.heap.size w w'
theorem li_z0 {lo mb:Nat} {w:World} (h:w.heap[mb]? =some (.cells #[I 3] 3 (0,0))) (hl:lo≤mb):LI lo w (some ⟨mb,0,none⟩) [3]:=
 .inr ⟨mb,0,rfl,hl,(bK.1 h).1,fun j hj=>by
  have e:j=0:=by simp at hj;omega
  subst e;exact cell_of_row w mb 0 _ _ _ h⟩
theorem Yu {lo g mb:Nat} {w:World} (hg:w.heap[g]? =some (.cells (⟨EC,zs0 mb⟩:dB).cells 70 (0,0))) (hl:lo≤g) (hm:w.heap[mb]? =some (.cells #[I 3] 3 (0,0))) (hm2:lo≤mb):ku lo w (.slice (some ⟨g,0,none⟩) 1 1) [⟨EC,zs0 mb⟩]:=
 ⟨⟨rfl, .inr ⟨g,1,_,rfl,hl,hg,Nat.le_refl _,by unfold maxLen;omega,rfl,rfl⟩⟩,fun x hx=>by rw [List.mem_singleton.1 hx];exact li_z0 hm hm2,fun x hx=>by rw [List.mem_singleton.1 hx];exact ⟨⟨rfl,rfl⟩,⟨rfl,rfl⟩,⟨rfl,rfl⟩⟩,fun h=>by cases h⟩
theorem Yt (lo:Nat) (w:World):ku lo w (.slice none 0 0) []:=⟨World.ownsRow_nil _ _ _ _,(fun _ h=>nomatch h),(fun _ h=>nomatch h),fun _=>rfl⟩
theorem F6 {lo:Nat} {w:World} {n wd:Int} {b:Bool} {A:Option Addr} {c:Nat} {ys:List dB} (h:ku lo w (.slice A ys.length c) ys) (he:ys.map (·.e)=(vt n wd b).aG):jB w w.heap.size ⟨vt n wd b,A,c,ys⟩:=by
 refine ⟨he.symm,rfl,rfl,⟨az.dO h.row,fun x hx=>?_⟩⟩;have h0:x.e=EC:=by
  have hm:x.e∈(vt n wd b).aG:=by rw [←he];exact List.mem_map_of_mem hx
  cases b with
  |false=>cases hm
  |true=>exact List.mem_singleton.1 hm
 have hz:x.e.z=z0:=by rw [h0];rfl
 refine ⟨?_,?_,?_,?_⟩
 ·have hl:=h.aj x hx;rcases hl with hl|⟨b2,off,e1,_,h2,h3⟩
  ·exact .inl (by rw [List.length_map];exact hl)
  ·refine .inr ⟨b2,off,e1,h2,fun j u hu=>?_⟩;rw [List.getElem?_map] at hu;cases hj:x.e.z.cal.aj[j]? with
   |none=>rw [hj] at hu;cases hu
   |some m=>
    rw [hj] at hu;injection hu with hu;rw [h3 j (iT.1 hj).1,hj,←hu];rfl
 ·rw [hz];exact .inl rfl
 ·rw [hz];exact .inl rfl
 ·rw [hz];exact .inl rfl
theorem Us (w:World):Calls Tryz.prog 27 #[] w (SimP w):=by
 go_enter Tryz.func27,Tryz.ntmps27;have h1:AV w.heap.size 54 iF (w.alloc (.cells iF 54)):=AV.new w _ _;have h2:=h1.below (ag _ (.cells #[I 3] 3));have h3:AV (w.heap.size+1) 3 #[I 3] ((w.alloc (.cells iF 54)).alloc (.cells #[I 3] 3)):=⟨heap_alloc2_new w _ _⟩;have H2:=ae h2;have H3:=ae h3;clear h1 h2 h3;go_wp2_with (first
  |((with_reducible refine bf 54 ?_);go_must (refine dn rfl _ rfl iF (by kernel_rfl) ?_))
  |((with_reducible refine dS 54 ?_);go_must (refine wpList_store_row rfl _ _ _ rfl w.heap.size (au z0 (zs0 (w.heap.size+1))) rfl rfl 54 iF H2.out.var (by kernel_rfl) rfl (by kernel_rfl) ?_)))
 refine bodyPost_ret (v:= .agg (au z0 (zs0 (w.heap.size+1)))) (results_cell_row rfl _ _ w.heap.size _ (au z0 (zs0 (w.heap.size+1))) (0,0) _ rfl (setRow_heap _ _ _ _ _ _ H2.out.var) Tryz.underlying54 rfl (by kernel_rfl)) rfl ?_;exact ⟨w.heap.size+1,Nat.le_succ _,rfl,(setRow_other _ _ _ _ (by omega)).trans H3.out.var,aB (ai (ag w _) (ag _ _)) (Nat.le_refl _) _⟩
theorem Qh (n wd:Int) (w:World):Calls Tryz.prog 9 #[I n,I wd, .bool false] w (VerP w n wd false):=by
 obtain ⟨T,hT⟩:∃T,vt n wd false=T:=⟨_,rfl⟩;have hTp:T.prev.length=32:=by rw [←hT];rfl
 have hTm:T.dQ.length=32:=by rw [←hT];rfl
 have HT:=ae hT;have H1:Hid (AV w.heap.size 39 (ah bz (.slice none 0 0)) (((w.alloc (.cells (ah bz (.slice none 0 0)) 39)).alloc (.cells (ah bz (.slice none 0 0)) 39)).setRow (w.heap.size+1) (ah T (.slice none 0 0)))):=ae ⟨(setRow_other _ _ _ _ (by omega)).trans (heap_alloc2_old w _ _)⟩;have H2:Hid (AV (w.heap.size+1) 39 (ah T (.slice none 0 0)) (((w.alloc (.cells (ah bz (.slice none 0 0)) 39)).alloc (.cells (ah bz (.slice none 0 0)) 39)).setRow (w.heap.size+1) (ah T (.slice none 0 0)))):=ae ⟨setRow_heap _ _ _ _ _ _ (heap_alloc2_new w _ _)⟩;have HB1:Hid (Below w.heap.size w (((w.alloc (.cells (ah bz (.slice none 0 0)) 39)).alloc (.cells (ah bz (.slice none 0 0)) 39)).setRow (w.heap.size+1) (ah T (.slice none 0 0)))):=ae (aB (ai (ag w _) (ag _ _)) (Nat.le_succ _) _);have fG:Hid (∀v,(Tryz.prog.info? 39).map (·.size)=some (ah T v).size):=ae fun v=>bG _ v hTp hTm;have xR:Hid (∀v,(ah bz (.slice none 0 0)).size=(ah T v).size):=ae fun v=>(bF bz _ rfl rfl).trans (bF T v hTp hTm).symm;clear hT hTp hTm;go_enter Tryz.func9,Tryz.ntmps9;go_upto_region 2 with (first
  |((with_reducible refine bf 39 ?_);go_must (refine aI rfl _ rfl (ah bz (.slice none 0 0)) eF ?_))
  |((with_reducible refine eu 39 ?_);go_must (refine bn rfl _ rfl (ah T (.slice none 0 0)) (by rw [←HT.out];kernel_rfl) ?_))
  |((with_reducible refine dS 39 ?_);go_must (refine wpList_store_row rfl _ _ _ rfl (w.heap.size+1) (ah T (.slice none 0 0)) (congrArg (fun b=>Value.pointer (some ⟨b,0,none⟩)) (nV w _)) rfl 39 (ah bz (.slice none 0 0)) (heap_alloc2_new w _ _) (fG.out _) (xR.out _) (aW _ _ _ _) ?_)))
 generalize ((w.alloc (.cells (ah bz (.slice none 0 0)) 39)).alloc (.cells (ah bz (.slice none 0 0)) 39)).setRow (w.heap.size+1) (ah T (.slice none 0 0))=W1 at H1 H2 HB1 ⊢;have hw1:=H2.out.lt;refine aA ?_
 (try rw [nV w])
 go_wp2_with (first
  |((with_reducible refine gz 39 ?_);go_must (refine bu rfl _ _ rfl (w.heap.size+1) rfl (ah T (.slice none 0 0)) H2.out.kz _ Tryz.underlying39 rfl (fG.out _) ?_))
  |((with_reducible refine dS 39 ?_);go_must (refine wpList_store_row rfl _ _ _ rfl w.heap.size (ah T (.slice none 0 0)) rfl rfl 39 (ah bz (.slice none 0 0)) H1.out.var (fG.out _) (xR.out _) (aW _ _ _ _) ?_)))
 refine bodyPost_ret (v:= .agg (ah T (.slice none 0 0))) (results_cell_row rfl _ _ w.heap.size _ (ah T (.slice none 0 0)) (0,0) _ rfl (setRow_heap _ _ _ _ _ _ H1.out.var) Tryz.underlying39 rfl (fG.out _)) rfl ?_;exact ⟨none,0,[],by rw [HT.out];rfl,Yt _ _,rfl,aB HB1.out (Nat.le_refl _) _⟩
theorem Ew (n wd:Int) (w:World):Calls Tryz.prog 9 #[I n,I wd, .bool true] w (VerP w n wd true):=by
 obtain ⟨T,hT⟩:∃T,vt n wd false=T:=⟨_,rfl⟩;have hTp:T.prev.length=32:=by rw [←hT];rfl
 have hTm:T.dQ.length=32:=by rw [←hT];rfl
 have HT:=ae hT;have H1:Hid (AV w.heap.size 39 (ah bz (.slice none 0 0)) (((w.alloc (.cells (ah bz (.slice none 0 0)) 39)).alloc (.cells (ah bz (.slice none 0 0)) 39)).setRow (w.heap.size+1) (ah T (.slice none 0 0)))):=ae ⟨(setRow_other _ _ _ _ (by omega)).trans (heap_alloc2_old w _ _)⟩;have H2:Hid (AV (w.heap.size+1) 39 (ah T (.slice none 0 0)) (((w.alloc (.cells (ah bz (.slice none 0 0)) 39)).alloc (.cells (ah bz (.slice none 0 0)) 39)).setRow (w.heap.size+1) (ah T (.slice none 0 0)))):=ae ⟨setRow_heap _ _ _ _ _ _ (heap_alloc2_new w _ _)⟩;have HB1:Hid (Below w.heap.size w (((w.alloc (.cells (ah bz (.slice none 0 0)) 39)).alloc (.cells (ah bz (.slice none 0 0)) 39)).setRow (w.heap.size+1) (ah T (.slice none 0 0)))):=ae (aB (ai (ag w _) (ag _ _)) (Nat.le_succ _) _);have fG:Hid (∀v,(Tryz.prog.info? 39).map (·.size)=some (ah T v).size):=ae fun v=>bG _ v hTp hTm;have xR:Hid (∀v,(ah bz (.slice none 0 0)).size=(ah T v).size):=ae fun v=>(bF bz _ rfl rfl).trans (bF T v hTp hTm).symm;clear hT hTp hTm;go_enter Tryz.func9,Tryz.ntmps9;go_upto_region 2 with (first
  |((with_reducible refine bf 39 ?_);go_must (refine aI rfl _ rfl (ah bz (.slice none 0 0)) eF ?_))
  |((with_reducible refine eu 39 ?_);go_must (refine bn rfl _ rfl (ah T (.slice none 0 0)) (by rw [←HT.out];kernel_rfl) ?_))
  |((with_reducible refine dS 39 ?_);go_must (refine wpList_store_row rfl _ _ _ rfl (w.heap.size+1) (ah T (.slice none 0 0)) (congrArg (fun b=>Value.pointer (some ⟨b,0,none⟩)) (nV w _)) rfl 39 (ah bz (.slice none 0 0)) (heap_alloc2_new w _ _) (fG.out _) (xR.out _) (aW _ _ _ _) ?_)))
 generalize ((w.alloc (.cells (ah bz (.slice none 0 0)) 39)).alloc (.cells (ah bz (.slice none 0 0)) 39)).setRow (w.heap.size+1) (ah T (.slice none 0 0))=W1 at H1 H2 HB1 ⊢;have hw1:=H2.out.lt;refine aA ?_
 (try rw [nV w])
 go_wp2_with fail;refine (Us W1).mono ?_;rintro e w2 ⟨mb,hmb,rfl,hm2,hb2⟩;rw [show au z0 (zs0 mb)= #[I 0, .slice (some ⟨mb,0,none⟩) 1 1,I (-1), .slice none 0 0,I 60, .slice none 0 0,I 0, .slice none 0 0] from rfl];have h1:=H1.out.below hb2;have h2:=H2.out.below hb2;have HB2:=ae (ai HB1.out hb2);have hl2:W1.heap.size≤w2.heap.size:=hb2.size;have hml:mb<w2.heap.size:=(bK.1 hm2).1;have hbv:=ag w2 (.cells #[.string ⟨#[97]⟩,I 0, .slice (some ⟨mb,0,none⟩) 1 1,I (-1), .slice none 0 0,I 60, .slice none 0 0,I 0, .slice none 0 0] 70);have h1':=(h1.below hbv).far (g:=w.heap.size+1) (by omega) 3 (.slice (some ⟨w2.heap.size,0,none⟩) 1 1);have h2':=(h2.below hbv).put 3 (.slice (some ⟨w2.heap.size,0,none⟩) 1 1);rw [oQ] at h2';have c3:(w2.alloc (.cells #[.string ⟨#[97]⟩,I 0, .slice (some ⟨mb,0,none⟩) 1 1,I (-1), .slice none 0 0,I 60, .slice none 0 0,I 0, .slice none 0 0] 70)).cell? ⟨w.heap.size+1,3,none⟩=some (.slice none 0 0):=((h2.below hbv).cell 3).trans (bC _ _);have f3:(w2.alloc (.cells #[.string ⟨#[97]⟩,I 0, .slice (some ⟨mb,0,none⟩) 1 1,I (-1), .slice none 0 0,I 60, .slice none 0 0,I 0, .slice none 0 0] 70)).frozen? ⟨w.heap.size+1,3,none⟩=false:=(h2.below hbv).eY 3;have HO:Hid (ku (w.heap.size+1) ((w2.alloc (.cells #[.string ⟨#[97]⟩,I 0, .slice (some ⟨mb,0,none⟩) 1 1,I (-1), .slice none 0 0,I 60, .slice none 0 0,I 0, .slice none 0 0] 70)).setCell ⟨w.heap.size+1,3,none⟩ (.slice (some ⟨w2.heap.size,0,none⟩) 1 1)) (.slice (some ⟨w2.heap.size,0,none⟩) 1 1) [⟨EC,zs0 mb⟩]):=ae (Yu ((heap_setCell_other _ ⟨w.heap.size+1,3,none⟩ _ _ (by show w2.heap.size≠w.heap.size+1;omega)).trans (heap_alloc_last w2 _)) (by omega) ((heap_setCell_other _ ⟨w.heap.size+1,3,none⟩ _ _ (by show mb≠w.heap.size+1;omega)).trans ((hbv.block _ hml).trans hm2)) (by omega));have HB3:Hid (Below w.heap.size w ((w2.alloc (.cells #[.string ⟨#[97]⟩,I 0, .slice (some ⟨mb,0,none⟩) 1 1,I (-1), .slice none 0 0,I 60, .slice none 0 0,I 0, .slice none 0 0] 70)).setCell ⟨w.heap.size+1,3,none⟩ (.slice (some ⟨w2.heap.size,0,none⟩) 1 1))):=ae ((ai HB2.out hbv).setCell (p:=⟨w.heap.size+1,3,none⟩) (show w.heap.size≤w.heap.size+1 by omega) _);clear H1 H2 h1 h2 hm2 hb2 HB1 hbv;have H1:=ae h1';have H2:=ae h2';clear h1' h2';go_wp2_with (first
  |((with_reducible refine gz 39 ?_);go_must (refine bu rfl _ _ rfl (w.heap.size+1) rfl (ah T (.slice (some ⟨w2.heap.size,0,none⟩) 1 1)) H2.out.kz _ Tryz.underlying39 rfl (fG.out _) ?_))
  |((with_reducible refine dS 39 ?_);go_must (refine wpList_store_row rfl _ _ _ rfl w.heap.size (ah T (.slice (some ⟨w2.heap.size,0,none⟩) 1 1)) rfl rfl 39 (ah bz (.slice none 0 0)) H1.out.var (fG.out _) (xR.out _) (aW _ _ _ _) ?_)))
 refine bodyPost_ret (v:= .agg (ah T (.slice (some ⟨w2.heap.size,0,none⟩) 1 1))) (results_cell_row rfl _ _ w.heap.size _ (ah T (.slice (some ⟨w2.heap.size,0,none⟩) 1 1)) (0,0) _ rfl (setRow_heap _ _ _ _ _ _ H1.out.var) Tryz.underlying39 rfl (fG.out _)) rfl ?_;exact ⟨some ⟨w2.heap.size,0,none⟩,1,[⟨EC,zs0 mb⟩],by rw [←HT.out];rfl,(HO.out.aQ (by simp [World.setRow]) fun k h1 h2=>setRow_other _ _ k _ (by omega)).lower (Nat.le_succ _),rfl,aB HB3.out (Nat.le_refl _) _⟩
attribute [local go_sem] iY iZ ja bC
theorem qW (k:Nat):Builtin.zeroCells (Value.cells (.int .u8 0)) k=(List.replicate k (Value.int .u8 0)).toArray:=by
 apply Array.ext
 ·simp [Builtin.zeroCells,Value.cells]
 ·intro i h1 h2;have e:i%1=0:=Nat.mod_one i;simp [Builtin.zeroCells,Value.cells,e]
theorem Dh (w:World) (ty:TypeId) (lo n c k:Nat) (A:Option Addr) (bs:List UInt8) (hown:mY lo w A n c bs) (h0:0<n) (hk:0<k) (hn:n+k≤1000000) (hbase:lo≤w.heap.size):
  ∃A' c' w',(Builtin.append_ #[22,3] ty #[.slice A n c, .int .i64 (k:Int)]).run Tryz.prog w= .ok (.slice A' (n+k) c') w'∧mY lo w' A' (n+k) c' (bs++List.replicate k 0)∧uh (.slice A n c) w (.slice A' (n+k) c') w':=by
 obtain ⟨i0,hi,hz0,hz1,hz2⟩:=info_parts lh;have hl:bs.length=n:=by have:=hown.1;rw [List.length_map] at this;omega
 rcases hown.2 with ⟨_,h⟩|⟨g,cap,cur,hv,hg,hh,hnc,hcm,hcs,htk⟩
 ·omega
 injection hv with hA _ hC;subst hA hC;have hcsz:cur.size=c:=by rw [hcs,Nat.mul_one]
 have hnews:(List.replicate k (Value.int .u8 0)).length=k:=List.length_replicate;have hcell:(List.replicate k (0:UInt8)).map Extern.Stop.cell=List.replicate k (Value.int .u8 0):=by rw [List.map_replicate];rfl
 by_cases hroom:n+k≤c
 ·have hst:=run_storeCells_at Tryz.prog g (n*i0.size) 5 (List.replicate k (Value.int .u8 0)) 0 cur w hh (by rw [hz1,hnews,hcsz];omega) (fun u hu=>by rw [(List.mem_replicate.1 hu).2];rfl);simp only [Nat.add_zero] at hst;have hw:IntKind.i64.wrap (k:Int)=k:=by rw [IntKind.wrap_i64];omega
  have hneg:¬((k:Int)<0):=by omega
  have hkz:¬(k*i0.size=0):=by rw [hz1];omega
  have h48:¬(281474976710656<(k:Int)*(i0.bytes:Int)):=by rw [hz2];omega
  have hrun:(Builtin.append_ #[22,3] ty #[.slice (some ⟨g,0,none⟩) n c, .int .i64 (k:Int)]).run Tryz.prog w= .ok (.slice (some ⟨g,0,none⟩) (n+k) c) (w.setRow g (cur.toList.take (n*i0.size)++List.replicate k (Value.int .u8 0)++cur.toList.drop (n*i0.size+(List.replicate k (Value.int .u8 0)).length)).toArray):=by
   simp [Builtin.append_,run_underlying Tryz.underlying22,run_underlying Tryz.underlying3,sizeOf,typeInfo,zeroValue,hi,hz0,asInt,asIntOf,hw,hneg,hkz,h48,hroom,qW,Addr.add_lit,hst]
  rw [hz1,Nat.mul_one,hnews] at hrun;rw [Nat.mul_one] at htk;refine ⟨_,_,_,hrun,⟨by rw [List.length_map,bH,List.length_replicate,hl,Nat.mul_one], .inr ⟨g,c,_,rfl,hg,setRow_heap w g cur _ _ _ hh,hroom,hcm,?_,?_⟩⟩,⟨rfl,rfl,rfl,by simp [World.setRow],fun b _ hb=>setRow_other w g b _ (fun e=>hb (by rw [e];rfl)), .inl rfl⟩⟩
  ·simp only [List.size_toArray,bH,List.length_take,List.length_drop,List.length_replicate,Array.length_toList];omega
  ·rw [htk,Nat.mul_one,List.map_append,hcell,List.append_assoc,←List.append_assoc];exact List.take_left' (by rw [bH,List.length_map,List.length_replicate,hl])
 ·have holds:∀j u,(bs.map Extern.Stop.cell)[j]? =some u→w.drew.cell? ((⟨g,0,none⟩:Addr).add j)=some u:=World.ownsRow.cells hown (g:=g) rfl;have hf:=run_firstCells_some (P:=Tryz.prog) w.drew i0.size n ⟨g,0,none⟩ n c (bs.map Extern.Stop.cell) (by rw [List.length_map,hl,hz1,Nat.mul_one]) holds;have hrun:=Lib.run_append_grow_zeros (P:=Tryz.prog) w 22 3 ty 5 i0 (.int .u8 0) .i64 .i64 Tryz.underlying22 Tryz.underlying3 hi hz0 (some ⟨g,0,none⟩) n c (bs.map Extern.Stop.cell) hf k hk (by rw [hz1];omega) (by omega) (by omega) (by rw [hz2];omega) (growslice_fits (by omega) (by rw [hz2];omega));have hge:=grownCap_ge w (n+k) c 5;have hcm2:=grownCap_le_maxLen w (n+k) c 5 (by unfold maxLen;omega);refine ⟨_,_,_,hrun,⟨by rw [List.length_map,bH,List.length_replicate,hl,Nat.mul_one], .inr ⟨w.heap.size,_,_,rfl,hbase,heap_alloc_new w.drew _,hge,hcm2,?_,?_⟩⟩,⟨rfl,rfl,rfl,by simp,fun b hb _=>heap_alloc_old w.drew _ hb, .inr ⟨w.heap.size,rfl,Nat.le_refl _⟩⟩⟩
  ·simp only [qW,Array.size_append,List.size_toArray,List.length_map,List.length_replicate,hl];omega
  ·rw [qW,qW];simp only [Array.toList_append,List.map_append,hcell];exact List.take_left' (by rw [bH,List.length_map,List.length_replicate,hl,Nat.mul_one])
theorem qw {ops:Array Oper} {rest:List Oper} {o:Oper} {a:Act} {Q:Exit→Act→World→Prop} {w:World} (hgd:o.guard=none) (sl x:Operand)
  (ho:o.op= .call {callee:= .builtin .append,args:= #[sl,x],argTypes:= #[22,3]}) (lo n c k:Nat) (A:Option Addr) (bs:List UInt8) (hs:a.eval sl= .slice A n c) (hx:a.eval x= .int .i64 (k:Int)) (hown:mY lo w A n c bs)
  (h0:0<n) (hk:0<k) (hn:n+k≤1000000) (hbase:lo≤w.heap.size)
  (h:∀A' c' w',mY lo w' A' (n+k) c' (bs++List.replicate k 0)→uh (.slice A n c) w (.slice A' (n+k) c') w'→wpList Tryz.prog ops Q rest (a.put o.dst (.slice A' (n+k) c')) w'):wpList Tryz.prog ops Q (o::rest) a w:=by
 obtain ⟨A',c',w',hr,h1,h2⟩:=Dh w o.type lo n c k A bs hown h0 hk hn hbase;exact Lib.wpList_append_run w hgd sl x _ _ ho _ _ hs hx _ _ hr (h A' c' w' h1 h2)
theorem Dj (A A2:Option Addr) (n c c2:Nat) (bs:List UInt8) (w:World) (hl:bs.length=n) (hn:n≤1000000) (h1:az w w.heap.size A (bs.map Extern.Stop.cell)) (h2:az w w.heap.size A2 (bs.map Extern.Stop.cell)):
  Calls Tryz.prog 11 #[.slice A n c, .slice A2 n c2] w (Gives (.bool true) w):=by
 have H1:=ae h1;have H2:=ae h2;have HL:=ae hl;clear h1 h2 hl;go_enter Tryz.func11,Tryz.ntmps11;go_wp2_with fail
 go_loopw [5] (fun i wr=>∃k:Nat,k≤n∧i=I k∧∃m,wr=w.drewN m) (fun i _=>n - (intOf i).toNat)
 case atStart=>exact ⟨0,Nat.zero_le _,rfl,0,rfl⟩
 case round=>
  obtain ⟨k,hk,rfl,m,rfl⟩:=hrel;by_cases hlt:(k:Int)<(n:Int)
  ·have hk2:k<n:=by omega
   obtain ⟨b,off,rfl,hb,hc⟩:=H1.out.there (by rw [List.length_map,HL.out];omega);obtain ⟨b2,wJ,rfl,hb2,hc2⟩:=H2.out.there (by rw [List.length_map,HL.out];omega);obtain ⟨x,hx⟩:∃x,bs[k]? =some x:=⟨_,bZ (by rw [HL.out];exact hk2)⟩;have e1:w.cell? ⟨b,off+k,none⟩=some (.int .u8 (x.toNat:Int)):=hc k _ (by rw [List.getElem?_map,hx];rfl);have e2:w.cell? ⟨b2,wJ+k,none⟩=some (.int .u8 (x.toNat:Int)):=hc2 k _ (by rw [List.getElem?_map,hx];rfl);clear hc hc2 hx;go_wp2_with fail;go_quiet (fail);go_wp2_with fail;go_roundw
   case rel=>exact ⟨k+1,by omega,by go_num,_,rfl⟩
   case measure=>simp [intOf];omega
  ·go_wp2_with fail;go_ret;exact ⟨rfl,rfl,rfl,rfl,Nat.le_refl _,fun _ _=>rfl⟩
theorem MM (A:Option Addr) (n c:Nat) (w:World) (hn:n≤4):Calls Tryz.prog 16 #[.slice A n c,I 5] w (Gives (.tuple #[.agg (ah bz (.slice none 0 0)), .int .i64 4]) w):=by
 have HW0:=ae (AV.new w (ah bz (.slice none 0 0)) 39);have HB0:=ae (ag w (.cells (ah bz (.slice none 0 0)) 39));have QC:Hid ((Tryz.prog.info? 39).map (·.size)=some (ah bz (.slice none 0 0)).size):=ae (bG bz _ rfl rfl);have i1:(n:Int)<5:=by omega
 go_enter Tryz.func16,Tryz.ntmps16;go_wp2_with (first
  |((with_reducible refine bf 39 ?_);go_must (refine aI rfl _ rfl (ah bz (.slice none 0 0)) eF ?_))
  |((with_reducible refine eu 39 ?_);go_must (refine bn rfl _ rfl (ah bz (.slice none 0 0)) (by kernel_rfl) ?_))
  |((with_reducible refine dS 39 ?_);go_must (refine wpList_store_row rfl _ _ _ rfl w.heap.size (ah bz (.slice none 0 0)) rfl rfl 39 (ah bz (.slice none 0 0)) HW0.out.var QC.out rfl (aW _ _ _ _) ?_)))
 refine bodyPost_ret (v:= .tuple #[.agg (ah bz (.slice none 0 0)),I 4]) (aZ rfl _ _ w.heap.size _ (ah bz (.slice none 0 0)) (0,0) _ rfl (setRow_heap _ _ _ _ _ _ HW0.out.var) Tryz.underlying39 rfl QC.out _ rfl) rfl ?_;exact ⟨rfl,aB HB0.out (Nat.le_refl _) _⟩
theorem UJ (t:Tb) (A:Option Addr) (n c:Nat) (w:World) (hi:0≤t.bV∧t.bV<16) (hv:t.version<1):Calls Tryz.prog 17 #[.agg (ah t (.slice A n c))] w (Gives (.int .i64 1) w):=by
 obtain ⟨is,his⟩:∃i,t.bV=i:=⟨_,rfl⟩;obtain ⟨ve,S9⟩:∃i,t.version=i:=⟨_,rfl⟩;have HA:=ae (AV.new w (ah t (.slice A n c)) 39);have c0:(w.alloc (.cells (ah t (.slice A n c)) 39)).cell? ⟨w.heap.size,0,none⟩=some (I is):=(HA.out.cell 0).trans (by rw [←his];rfl);have c1:(w.alloc (.cells (ah t (.slice A n c)) 39)).cell? ⟨w.heap.size,1,none⟩=some (I ve):=(HA.out.cell 1).trans (by rw [←S9];rfl);rw [his] at hi;rw [S9] at hv;obtain ⟨i0,i1⟩:=hi;have i2:¬is<0:=by omega
 have i3:¬(16:Int)≤is:=by omega
 have HB:=ae (ag w (.cells (ah t (.slice A n c)) 39));clear his S9;go_enter Tryz.func17,Tryz.ntmps17;go_wp2_with fail;go_ret;exact ⟨rfl,HB.out⟩
def nY (ts:List fH):Int:=if (uY ts).2=false then -1 else if (uY ts).1<0 then -4 else ((ts[(uY ts).1.toNat]?).map (·.t.version)).getD 0
theorem uj (A:Option Addr) (c n:Nat) (ts:List fH) (w:World) (hn:ts.length=n) (hn1:n≤1000) (hl:xQ ts) (h:jT w w.heap.size A ts) (hp:∀x∈ts,x.t.prev.length=32∧x.t.dQ.length=32):
  Calls Tryz.prog 13 #[.slice A n c] w (Gives (.int .i64 (nY ts)) w):=by
 have HC:=ae (Ls A c n ts w hn hn1 hl h);have QT:=ae hp;obtain ⟨F,hF⟩:∃F,nY ts=F:=⟨_,rfl⟩;rw [hF];have HF:=ae hF;clear hn hl h hp hF;go_enter Tryz.func13,Tryz.ntmps13;go_wp2_with fail;refine HC.out.mono ?_;rintro e w2 ⟨hb2,p,b,hpb,⟨rfl,rfl⟩|⟨rfl,hp0,rfl⟩|⟨rfl,i,x,y,rfl,hx,hy,_,rfl,hO⟩⟩
 ·have HE:Hid (F= -1):=ae (by rw [←HF.out];unfold nY;rw [hpb];rfl);clear hpb;have jk:=ae (AV.new w2 (ah bz (.slice none 0 0)) 39);have HB2:=ae (ai hb2 (ag w2 (.cells (ah bz (.slice none 0 0)) 39)));have HW:=ae hb2.size;clear hb2;rw [uz];go_wp2_with (first
   |((with_reducible refine bf 39 ?_);go_must (refine aI rfl _ rfl (ah bz (.slice none 0 0)) eF ?_))
   |((with_reducible refine dS 39 ?_);go_must (refine wpList_store_row rfl _ _ _ rfl w2.heap.size (ah bz (.slice none 0 0)) rfl rfl 39 (ah bz (.slice none 0 0)) jk.out.var (bG bz _ rfl rfl) rfl (aW _ _ _ _) ?_)))
  go_ret;exact ⟨by rw [HE.out];rfl,aB HB2.out HW.out _⟩
 ·have HE:Hid (F= -4):=ae (by rw [←HF.out];unfold nY;rw [hpb];simp [hp0]);clear hpb hp0;have jk:=ae (AV.new w2 (ah bz (.slice none 0 0)) 39);have HB2:=ae (ai hb2 (ag w2 (.cells (ah bz (.slice none 0 0)) 39)));have HW:=ae hb2.size;clear hb2;rw [uz];go_wp2_with (first
   |((with_reducible refine bf 39 ?_);go_must (refine aI rfl _ rfl (ah bz (.slice none 0 0)) eF ?_))
   |((with_reducible refine dS 39 ?_);go_must (refine wpList_store_row rfl _ _ _ rfl w2.heap.size (ah bz (.slice none 0 0)) rfl rfl 39 (ah bz (.slice none 0 0)) jk.out.var (bG bz _ rfl rfl) rfl (aW _ _ _ _) ?_)))
  go_ret;exact ⟨by rw [HE.out];rfl,aB HB2.out HW.out _⟩
 ·have HE:Hid (F=x.t.version):=ae (by rw [←HF.out];unfold nY;rw [hpb];simp [hx];intro h;omega);have hq:=QT.out x (gU hx);obtain ⟨T,hT⟩:∃T,y.t=T:=⟨_,rfl⟩;have hTx:T=x.t:=hT.symm.trans hy;rw [hT];have fG:Hid ((Tryz.prog.info? 39).map (·.size)=some (ah T (.slice y.A y.zs.length y.c)).size):=ae (bG T _ (by rw [hTx];exact hq.1) (by rw [hTx];exact hq.2));have xR:Hid ((ah bz (.slice none 0 0)).size=(ah T (.slice y.A y.zs.length y.c)).size):=ae ((bF bz _ rfl rfl).trans (bF T _ (by rw [hTx];exact hq.1) (by rw [hTx];exact hq.2)).symm);obtain ⟨ve,S9⟩:∃v,T.version=v:=⟨_,rfl⟩;have HVE:Hid (F=ve):=ae (by rw [HE.out,←S9,hTx]);have jk:=ae ((AV.new w2 (ah bz (.slice none 0 0)) 39));have HB2:=ae (aB (ai hb2 (ag w2 (.cells (ah bz (.slice none 0 0)) 39))) hb2.size (ah T (.slice y.A y.zs.length y.c)));have ng:=ae (jk.out.oO (ah T (.slice y.A y.zs.length y.c)));have c1:((w2.alloc (.cells (ah bz (.slice none 0 0)) 39)).setRow w2.heap.size (ah T (.slice y.A y.zs.length y.c))).cell? ⟨w2.heap.size,1,none⟩=some (I ve):=(ng.out.cell 1).trans (by rw [←S9];rfl);clear hb2 hpb hx hy hO hq hT hTx S9;go_wp2_with (first
   |((with_reducible refine bf 39 ?_);go_must (refine aI rfl _ rfl (ah bz (.slice none 0 0)) eF ?_))
   |((with_reducible refine dS 39 ?_);go_must (refine wpList_store_row rfl _ _ _ rfl w2.heap.size (ah T (.slice y.A y.zs.length y.c)) rfl rfl 39 (ah bz (.slice none 0 0)) jk.out.var fG.out xR.out (aW _ _ _ _) ?_)))
  go_ret;exact ⟨by rw [HVE.out];rfl,HB2.out⟩
end Go.Proofs.YtbaehbbonkljpaaGreat
namespace Go.Proofs.YtbaehbbonkljpaaGreat
open Go Go.RowKit
attribute [local go_sem] iY iZ ja bC
section
variable {P:Program} {ops:Array Oper} {a:Act} {w:World} {rest:List Oper} {o:Oper}
theorem oH {Q:Act→Prop} (hw:Region.wanted o (yielded ops a.tmps)=true) (ty:TypeId) (x:Operand) (ho:o.op= .load ty x) (g off:Nat) (hx:a.eval x= .pointer (some ⟨g,off,none⟩)) (cs:List Value) (hr:w.rangeAt g off cs)
  (d:TypeDesc) (hu:P.underlying ty=some d) (hd:d.isRow=true) (hi:(P.info? ty).map (·.size)=some cs.length)
  (h:wpStill P ops w Q rest (a.put o.dst (.agg cs.toArray))):wpStill P ops w Q (o::rest) a:=by
 refine wpStill_step fun K hK=>?_;rw [if_pos hw];unfold Oper.still execOp;simp only [ho,hx,Instr.loadAt,Instr.sureAddr,Sem.run_bind,Sem.run_pure,Result.andThen_ok,run_loadVar_mid w g off ty cs d hr hu hd hi];exact ⟨rfl,hK _ h⟩
end
theorem Eg (r:List UInt8) (h:r.length=32) (W:World):(binOp .neq 24 (.agg (ay r).toArray) (.agg (ay r).toArray)).run Tryz.prog W= .ok (.bool false) W:=by
 unfold ay;rw [run_neq_struct,Go.Proofs.YtbaehbbonkljpaaGreat.uM W r h];simp [Result.andThen]
theorem OA (x:dB):∀j u,(au x.e.z x.s).toList[j]? =some u→x.cells.toList[1+j]? =some u:=fun j u hu=>by
 rw [Nat.add_comm];exact hu
theorem I5 (t:Tb) (A1 A2:Option Addr) (c1 c2 n:Nat) (QH VH:List dB) (zs:List Ze) (w:World) (hp:t.prev.length=32) (hm:t.dQ.length=32) (h1:QH.map (·.e)=zs) (h2:VH.map (·.e)=zs) (hn:zs.length=n) (hn1:n≤1000) (hl:∀e∈zs,ni e.z) (m1:kH w w.heap.size A1 QH) (m2:kH w w.heap.size A2 VH):
  Calls Tryz.prog 12 #[.agg (ah t (.slice A1 n c1)), .agg (ah t (.slice A2 n c2))] w (Gives (.bool true) w):=by
 have HV:=ae (oM.start w 39 (ah t (.slice A1 n c1)) (ah t (.slice A2 n c2)));have l1:QH.length=n:=by rw [←hn,←h1,List.length_map]
 have l2:VH.length=n:=by rw [←hn,←h2,List.length_map]
 obtain ⟨W0,hW0⟩:∃W0,(w.alloc (.cells (ah t (.slice A1 n c1)) 39)).alloc (.cells (ah t (.slice A2 n c2)) 39)=W0:=⟨_,rfl⟩;rw [hW0] at HV;have HW0:=ae hW0;have OC:=ae l1;have HL2:=ae l2;have CE:=ae h1;have HE2:=ae h2;have Vm:=ae m1;have HM2:=ae m2;have OD:=ae hl;have nq1:=Eg t.prev hp;have nq2:=Eg t.dQ hm;have nS:=ae (qP t _ HV.out.a);have HP2:=ae (qP t _ HV.out.b);have iM:=ae (MH t _ HV.out.a hp);have iH:=ae (MH t _ HV.out.b hp);have VM:Hid ((Tryz.prog.info? 24).map (·.size)=some (ay t.prev).length):=ae (by simp only [ay,List.length_map,hp];kernel_rfl);have H33:Hid ((Tryz.prog.info? 24).map (·.size)=some (ay t.dQ).length):=ae (by simp only [ay,List.length_map,hm];kernel_rfl);have p0:=HV.out.a.2;have p1:=HV.out.b.2;clear hn h1 h2 m1 m2 hl hp hm l1 l2 hW0;go_enter Tryz.func12,Tryz.ntmps12;go_upto_region 1 with fail;rw [HW0.out];go_wp2_with (first
  |((with_reducible refine fU 24 ?_);go_must (first
    |(refine dw rfl _ _ rfl w.heap.size 4 rfl (ay t.prev) nS.out _ Tryz.underlying24 rfl VM.out ?_)
    |(refine dw rfl _ _ rfl (w.heap.size+1) 4 rfl (ay t.prev) HP2.out _ Tryz.underlying24 rfl VM.out ?_)
    |(refine dw rfl _ _ rfl w.heap.size 36 rfl (ay t.dQ) iM.out _ Tryz.underlying24 rfl H33.out ?_)
    |(refine dw rfl _ _ rfl (w.heap.size+1) 36 rfl (ay t.dQ) iH.out _ Tryz.underlying24 rfl H33.out ?_))))
 go_loopw [5] (fun i wr=>zY w 39 (ah t (.slice A1 n c1)) (ah t (.slice A2 n c2)) n i wr) (fun i _=>n - (intOf i).toNat)
 case atStart=>exact ⟨0,Nat.zero_le _,rfl,HV.out⟩
 case round=>
  clear p0 p1 nq1 nq2;obtain ⟨k,hk,rfl,hv⟩:=hrel;have Y0:=ae hv;have p3:wr.cell? ⟨w.heap.size,3,none⟩=some (.slice A1 n c1):=(hv.a.2 3).trans (bC _ _);have q3:wr.cell? ⟨w.heap.size+1,3,none⟩=some (.slice A2 n c2):=(hv.b.2 3).trans (bC _ _);clear hv;by_cases hlt:(k:Int)<(n:Int)
  ·have hk2:k<n:=by omega
   obtain ⟨x1,hx1⟩:∃x,QH[k]? =some x:=⟨_,bZ (by rw [OC.out];exact hk2)⟩;obtain ⟨x2,hx2⟩:∃x,VH[k]? =some x:=⟨_,bZ (by rw [HL2.out];exact hk2)⟩;have he:x1.e=x2.e:=by
    have a1:zs[k]? =some x1.e:=by rw [←CE.out,List.getElem?_map,hx1];rfl
    have a2:zs[k]? =some x2.e:=by rw [←HE2.out,List.getElem?_map,hx2];rfl
    rw [a1] at a2;injection a2
   have hel:ni x1.e.z:=OD.out _ (by rw [←CE.out];exact List.mem_map_of_mem (gU hx1));have z1:=Vm.out.each x1 (gU hx1);have z2:=HM2.out.each x2 (gU hx2);obtain ⟨b,off,rfl,hb,hc⟩:=Vm.out.row.there (by rw [fF,OC.out];omega);obtain ⟨b2,wJ,rfl,hb2,hc2⟩:=HM2.out.row.there (by rw [fF,HL2.out];omega);have r1:wr.rangeAt b (off+k*9) x1.cells.toList:=aU (az.elem (s:=9) (f:=fun x:dB=>x.cells.toList) (fun _ _=>rfl) hc k x1 hx1) Y0.out.up hb;have r2:wr.rangeAt b2 (wJ+k*9) x2.cells.toList:=aU (az.elem (s:=9) (f:=fun x:dB=>x.cells.toList) (fun _ _=>rfl) hc2 k x2 hx2) Y0.out.up hb2;obtain ⟨nm,hnm⟩:∃s,x1.e.name=s:=⟨_,rfl⟩;have e1:wr.cell? ⟨b,off+k*9,none⟩=some (.string nm):=by rw [←hnm];exact r1 0 _ rfl
   have e2:wr.cell? ⟨b2,wJ+k*9,none⟩=some (.string nm):=by rw [←hnm,he];exact r2 0 _ rfl
   have R1:Hid (wr.drew.rangeAt b (off+k*9+1) (au x1.e.z x1.s).toList):=ae (fun j u hu=>by rw [Nat.add_assoc];exact r1 (1+j) u (OA x1 j u hu));have R2:Hid (wr.drew.rangeAt b2 (wJ+k*9+1) (au x1.e.z x2.s).toList):=ae (fun j u hu=>by rw [he] at hu;rw [Nat.add_assoc];exact r2 (1+j) u (OA x2 j u hu));have ZI:Hid (∀s,(Tryz.prog.info? 54).map (·.size)=some (au x1.e.z s).toList.length):=ae (fun s=>by kernel_rfl);have HS:Hid (Calls Tryz.prog 30 #[.agg (au x1.e.z x1.s), .agg (au x1.e.z x2.s)] wr.drew (Gives (.bool true) wr.drew)):=ae (Dk x1.e.z x1.s x2.s _ _ wr.drew hel rfl rfl ((z1.keep (Y0.out.drew 1).up).more (Y0.out.drew 1).up.size) (by rw [he];exact (z2.keep (Y0.out.drew 1).up).more (Y0.out.drew 1).up.size));clear hx1 hx2 he hel z1 z2 hc hc2 r1 r2 hnm;go_wp2_with fail;refine wp_region_still_tail 26 (by kernel_rfl) (by kernel_rfl) ?_;simp only [List.take_succ_cons,List.take_zero,List.drop_succ_cons,List.drop_zero]
   iterate 19 still_step
   refine oH rfl _ _ rfl b (off+k*9+1) rfl (au x1.e.z x1.s).toList R1.out _ Tryz.underlying54 rfl (ZI.out _) ?_
   iterate 5 still_step
   refine oH rfl _ _ rfl b2 (wJ+k*9+1) rfl (au x1.e.z x2.s).toList R2.out _ Tryz.underlying54 rfl (ZI.out _) ?_;refine wpStill_nil ?_;change wpList _ _ _ _ _ wr.drew;go_wp2_with fail;refine HS.out.mono ?_;rintro e w3 ⟨rfl,hb3⟩;have ng:Hid (oM w 39 (ah t (.slice (some ⟨b,off,none⟩) n c1)) (ah t (.slice (some ⟨b2,wJ,none⟩) n c2)) w3):=ae ((Y0.out.drew 1).below hb3);clear hb3 e1 e2 p3 q3;go_wp2_with fail;go_roundw
   case rel=>exact ⟨k+1,by omega,by go_num,ng.out⟩
   case measure=>simp [intOf];omega
  ·go_wp2_with fail;go_ret;exact ⟨rfl,Y0.out.up⟩
end Go.Proofs.YtbaehbbonkljpaaGreat
namespace Go.Proofs.YtbaehbbonkljpaaGreat
open Go Go.RowKit
def RdB (w:World) (T:Tb) (n:Nat) (r:Int) (e:Ending) (w':World):Prop:=
 ∃A c ys,e= .returned (.tuple #[.agg (ah T (.slice A n c)),I r])∧kH w' w'.heap.size A ys∧ys.map (·.e)=T.aG∧Below w.heap.size w w'
theorem Oe {w w':World} {B:List UInt8} {e:Ending} {T:Tb} {n:Nat} {r:Int} (h:Ri w B e w') (hx:(mV B=some T∧r=0)∨(mV B=none∧T=bz∧r=3)) (hn:T.aG.length=n):RdB w T n r e w':=by
 rcases h with ⟨t2,A,c,ys,h1,h2,h3,h4,h5⟩|⟨h1,h2,h3⟩
 ·rcases hx with ⟨hx,rfl⟩|⟨hx,_⟩
  ·rw [hx] at h1;injection h1 with h1;subst h1;subst hn;exact ⟨A,c,ys,h2,h3.zes,h4,h5⟩
  ·rw [hx] at h1;cases h1
 ·rcases hx with ⟨hx,_⟩|⟨_,rfl,rfl⟩
  ·rw [hx] at h1;cases h1
  ·subst hn;exact ⟨none,0,[],h2, .nil,rfl,h3⟩
theorem OZ {B:List UInt8} {T:Tb} {r:Int} (hx:(mV B=some T∧r=0)∨(mV B=none∧T=bz∧r=3)):T.prev.length=32∧T.dQ.length=32∧(∀e∈T.aG,ni e.z)∧T.aG.length≤1000:=by
 rcases hx with ⟨hx,_⟩|⟨_,rfl,_⟩
 ·obtain ⟨h1,h2,_⟩:=Rq hx;obtain ⟨hp,hm⟩:=Bi h1;have hm':T.dQ.length=32:=by rw [hm];rfl
  have hy:=BI h2 hp hm';exact ⟨hp,hm',fun e he=>(hy.good e he).len,by have:=hy.num;omega⟩
 ·exact ⟨rfl,rfl,(fun e (h:e∈([]:List Ze))=>nomatch h),Nat.zero_le _⟩
theorem xJ (w:World) (B:List UInt8) (A0:Option Addr) (N c0:Nat) (hN:B.length=N) (hc1:N≤c0) (hc2:c0≤9223372036854775807) (hA:BytesAt w w.heap.size A0 B):
  Calls Tryz.prog 5 #[.slice A0 N c0] w (Gives (.bool true) w):=by
 obtain ⟨T,r,hx⟩:∃T r,(mV B=some T∧r=(0:Int))∨(mV B=none∧T=bz∧r=3):=by
  cases h:mV B with
  |none=>exact ⟨bz,3, .inr ⟨rfl,rfl,rfl⟩⟩
  |some t=>exact ⟨t,0, .inl ⟨rfl,rfl⟩⟩
 obtain ⟨hp,hm,hzl,hz1⟩:=OZ hx;obtain ⟨n,hn⟩:∃n,T.aG.length=n:=⟨_,rfl⟩;have H1:=ae ((pI w B A0 N c0 hN hc1 hc2 hA).mono fun e w' h=>Oe h hx hn);have H2:Hid (∀W,Below w.heap.size w W→Calls Tryz.prog 18 #[.slice A0 N c0] W (RdB W T n r)):=ae fun W hb=>(PU W B A0 N c0 hN hc1 hc2 ((hA.keep hb).more hb.size)).mono fun e w' h=>Oe h hx hn;have HSM:=ae (fun (W:World) (A1 A2:Option Addr) (c1 c2:Nat) (QH VH:List dB) (h1:QH.map (·.e)=T.aG) (h2:VH.map (·.e)=T.aG) (m1:kH W W.heap.size A1 QH) (m2:kH W W.heap.size A2 VH)=>I5 T A1 A2 c1 c2 n QH VH T.aG W hp hm h1 h2 hn (by omega) hzl m1 m2);have fG:Hid (∀v,(Tryz.prog.info? 39).map (·.size)=some (ah T v).size):=ae fun v=>bG _ v hp hm;have YZ:Hid (∀A n c,(Tryz.prog.info? 39).map (fun i=>(i.zero,i.size))=some (some (.agg (ah bz (.slice none 0 0))),(ah T (.slice A n c)).size)∧(ah bz (.slice none 0 0)).size=(ah T (.slice A n c)).size):=ae fun A n c=>by
  have e:(ah bz (.slice none 0 0)).size=(ah T (.slice A n c)).size:=(bF bz _ rfl rfl).trans (bF T _ hp hm).symm;exact ⟨by rw [←e];exact eF,e⟩
 have hrr:(r==r)=true:=by simp
 clear hx hp hm hzl hz1 hn hA hN;go_enter Tryz.func5,Tryz.ntmps5;go_wp2_with fail;refine H1.out.mono ?_;rintro e w1 ⟨A1,c1,QH,rfl,hz1,he1,b1⟩;have HR1:=ae (Row.new w1 (ah T (.slice A1 n c1)) 39);have HB1:=ae (ai b1 (ag w1 (.cells (ah T (.slice A1 n c1)) 39)));have HZ1:=ae (hz1.grow (ag w1 (.cells (ah T (.slice A1 n c1)) 39)));have CE:=ae he1;clear b1 hz1 he1 H1;go_wp2_with (first
  |((with_reducible refine bf 39 ?_);go_must (refine fA rfl rfl _ _ _ rfl rfl rfl rfl (.agg (ah bz (.slice none 0 0))) (ah T (.slice A1 n c1)) (YZ.out _ _ _).1 (YZ.out _ _ _).2 rfl rfl (aW _ _ _ _) ?_)))
 obtain ⟨b1,hb1⟩:∃b,w1.heap.size=b:=⟨_,rfl⟩;rw [hb1] at HR1 ⊢;generalize w1.alloc (.cells (ah T (.slice A1 n c1)) 39)=W1 at HR1 HB1 HZ1 ⊢;refine (H2.out W1 HB1.out).mono ?_;rintro e w2 ⟨A2,c2,VH,rfl,hz2,he2,b2⟩;have hR1:=HR1.out.keep b2;have hx:=ag w2 (.cells (ah T (.slice A2 n c2)) 39);have HR3:=ae (hR1.keep hx);have HR2:=ae (Row.new w2 (ah T (.slice A2 n c2)) 39);have HB2:=ae (ai (ai HB1.out b2) hx);have HZ2:=ae (hz2.grow hx);have HZ3:=ae ((HZ1.out.grow b2).grow hx);have HE2:=ae he2;clear b2 hz2 he2 H2 hR1 hx HR1 HB1 HZ1 hb1;go_wp2_with (first
  |((with_reducible refine bf 39 ?_);go_must (refine fA rfl rfl _ _ _ rfl rfl rfl rfl (.agg (ah bz (.slice none 0 0))) (ah T (.slice A2 n c2)) (YZ.out _ _ _).1 (YZ.out _ _ _).2 rfl rfl (aW _ _ _ _) ?_))
  |((with_reducible refine gz 39 ?_);go_must (first
   |(refine aX rfl _ _ rfl b1 rfl (ah T (.slice A1 n c1)) HR3.out _ Tryz.underlying39 rfl (fG.out _) ?_)
   |(refine aX rfl _ _ rfl w2.heap.size rfl (ah T (.slice A2 n c2)) HR2.out _ Tryz.underlying39 rfl (fG.out _) ?_))))
 refine (HSM.out _ A1 A2 c1 c2 QH VH CE.out HE2.out HZ3.out HZ2.out).mono ?_;rintro e w3 ⟨rfl,b3⟩;have HB3:=ae (ai HB2.out b3);clear b3;go_wp2_with fail;go_ret;exact ⟨rfl,HB3.out⟩
end Go.Proofs.YtbaehbbonkljpaaGreat
