/- The texts Lk, Ll, Lm, in this order. -/
import Derived.Test.YtbaehbbonkljpaaGreatDoorS00
import Derived.Lib.AppendZerosOnto
import Derived.Test.YtbaehbbonkljpaaGreatDoorS43
set_option maxRecDepth 10000
set_option maxHeartbeats 8000000
namespace Go.Proofs.YtbaehbbonkljpaaGreatDoor
open Go Go.RowKit
def z0:Zn:=⟨⟨0,[3], -1,[]⟩,60,[],0,[]⟩
def zs0 (mb:Nat):Zs:=⟨some ⟨mb,0,none⟩,1,none,0,none,0,none,0⟩
def FB:Ze:=⟨⟨#[97]⟩,z0⟩
def vt (n wd:Int) (b:Bool):Tb:=⟨2,n,wd,fU,fU,if b then [FB] else []⟩
def SimP (w:World) (e:Ending) (w':World):Prop:=∃mb,w.heap.size<=mb/\e= .returned (.agg (ay z0 (zs0 mb)))/\w'.heap[mb]? =some (.cells #[I 3] 3 (0,0))/\Below w.heap.size w w'
def VerP (w:World) (n wd:Int) (b:Bool) (e:Ending) (w':World):Prop:=
 ∃A c ys,e= .returned (.agg (ai (vt n wd b) (.slice A ys.length c)))/\kG w.heap.size w' (.slice A ys.length c) ys/\ys.map (·.e)=(vt n wd b).aF/\Below w.heap.size w w'
theorem li_z0 {lo mb:Nat} {w:World} (h:w.heap[mb]? =some (.cells #[I 3] 3 (0,0))) (hl:lo<=mb):LI lo w (some ⟨mb,0,none⟩) [3]:=
 .inr ⟨mb,0,rfl,hl,(bV.1 h).1,fun j hj=>by
  have e:j=0:=by simp at hj;omega
  subst e;exact cell_of_row w mb 0 _ _ _ h⟩
theorem Y8 {lo g mb:Nat} {w:World} (hg:w.heap[g]? =some (.cells (⟨FB,zs0 mb⟩:dw).cells 76 (0,0))) (hl:lo<=g) (hm:w.heap[mb]? =some (.cells #[I 3] 3 (0,0))) (hm2:lo<=mb):kG lo w (.slice (some ⟨g,0,none⟩) 1 1) [⟨FB,zs0 mb⟩]:=
 ⟨⟨rfl, .inr ⟨g,1,_,rfl,hl,hg,Nat.le_refl _,by unfold maxLen;omega,rfl,rfl⟩⟩,fun x hx=>by rw [List.mem_singleton.1 hx];exact li_z0 hm hm2,fun x hx=>by rw [List.mem_singleton.1 hx];exact ⟨⟨rfl,rfl⟩,⟨rfl,rfl⟩,⟨rfl,rfl⟩⟩,fun h=>by cases h⟩
theorem Y7 (lo:Nat) (w:World):kG lo w (.slice none 0 0) []:=⟨World.ownsRow_nil _ _ _ _,(fun _ h=>nomatch h),(fun _ h=>nomatch h),fun _=>rfl⟩
theorem G7 {lo:Nat} {w:World} {n wd:Int} {b:Bool} {A:Option Addr} {c:Nat} {ys:List dw} (h:kG lo w (.slice A ys.length c) ys) (he:ys.map (·.e)=(vt n wd b).aF):fV w w.heap.size ⟨vt n wd b,A,c,ys⟩:=by
 refine ⟨he.symm,rfl,rfl,⟨aA.dR h.row,fun x hx=>?_⟩⟩;have h0:x.e=FB:=by
  have hm:x.e∈(vt n wd b).aF:=by rw [<-he];exact List.mem_map_of_mem hx
  cases b with
  |false=>cases hm
  |true=>exact List.mem_singleton.1 hm
 have hz:x.e.z=z0:=by rw [h0];rfl
 refine ⟨?_,?_,?_,?_⟩
 ·have hl:=h.au x hx;rcases hl with hl|⟨b2,off,e1,_,h2,h3⟩
  ·exact .inl (by rw [List.length_map];exact hl)
  ·refine .inr ⟨b2,off,e1,h2,fun j u hu=>?_⟩;rw [List.getElem?_map] at hu;cases hj:x.e.z.cal.au[j]? with
   |none=>rw [hj] at hu;cases hu
   |some m=>
    rw [hj] at hu;injection hu with hu;rw [h3 j (gQ.1 hj).1,hj,<-hu];rfl
 ·rw [hz];exact .inl rfl
 ·rw [hz];exact .inl rfl
 ·rw [hz];exact .inl rfl
theorem U0 (w:World):Calls Tryz.prog 44 #[] w (SimP w):=by
 go_enter Tryz.func44,Tryz.ntmps44;have h1:AV w.heap.size 69 iH (w.alloc (.cells iH 69)):=AV.new w _ _;have h2:=h1.below (ag _ (.cells #[I 3] 3));have h3:AV (w.heap.size+1) 3 #[I 3] ((w.alloc (.cells iH 69)).alloc (.cells #[I 3] 3)):=⟨heap_alloc2_new w _ _⟩;have H2:=ae h2;have H3:=ae h3;clear h1 h2 h3;go_wp2_with (first
  |((with_reducible refine aZ 69 ?_);go_must (refine dm rfl _ rfl iH (by kernel_rfl) ?_))
  |((with_reducible refine dW 69 ?_);go_must (refine wpList_store_row rfl _ _ _ rfl w.heap.size (ay z0 (zs0 (w.heap.size+1))) rfl rfl 69 iH H2.out.var (by kernel_rfl) rfl (by kernel_rfl) ?_)))
 refine bodyPost_ret (v:= .agg (ay z0 (zs0 (w.heap.size+1)))) (results_cell_row rfl _ _ w.heap.size _ (ay z0 (zs0 (w.heap.size+1))) (0,0) _ rfl (setRow_heap _ _ _ _ _ _ H2.out.var) Tryz.underlying69 rfl (by kernel_rfl)) rfl ?_;exact ⟨w.heap.size+1,Nat.le_succ _,rfl,(setRow_other _ _ _ _ (by omega)).trans H3.out.var,aB (ah (ag w _) (ag _ _)) (Nat.le_refl _) _⟩
theorem QZ (n wd:Int) (w:World):Calls Tryz.prog 23 #[I n,I wd, .bool false] w (VerP w n wd false):=by
 obtain ⟨T,hT⟩:∃T,vt n wd false=T:=⟨_,rfl⟩;have hTp:T.prev.length=32:=by rw [<-hT];rfl
 have hTm:T.bP.length=32:=by rw [<-hT];rfl
 have HT:=ae hT;have H1:Hid (AV w.heap.size 26 (ai bu (.slice none 0 0)) (((w.alloc (.cells (ai bu (.slice none 0 0)) 26)).alloc (.cells (ai bu (.slice none 0 0)) 26)).setRow (w.heap.size+1) (ai T (.slice none 0 0)))):=ae ⟨(setRow_other _ _ _ _ (by omega)).trans (heap_alloc2_old w _ _)⟩;have H2:Hid (AV (w.heap.size+1) 26 (ai T (.slice none 0 0)) (((w.alloc (.cells (ai bu (.slice none 0 0)) 26)).alloc (.cells (ai bu (.slice none 0 0)) 26)).setRow (w.heap.size+1) (ai T (.slice none 0 0)))):=ae ⟨setRow_heap _ _ _ _ _ _ (heap_alloc2_new w _ _)⟩;have HB1:Hid (Below w.heap.size w (((w.alloc (.cells (ai bu (.slice none 0 0)) 26)).alloc (.cells (ai bu (.slice none 0 0)) 26)).setRow (w.heap.size+1) (ai T (.slice none 0 0)))):=ae (aB (ah (ag w _) (ag _ _)) (Nat.le_succ _) _);have dU:Hid (∀v,(Tryz.prog.info? 26).map (·.size)=some (ai T v).size):=ae fun v=>bD _ v hTp hTm;have wF:Hid (∀v,(ai bu (.slice none 0 0)).size=(ai T v).size):=ae fun v=>(bf bu _ rfl rfl).trans (bf T v hTp hTm).symm;clear hT hTp hTm;go_enter Tryz.func23,Tryz.ntmps23;go_upto_region 2 with (first
  |((with_reducible refine aZ 26 ?_);go_must (refine aG rfl _ rfl (ai bu (.slice none 0 0)) ed ?_))
  |((with_reducible refine fP 26 ?_);go_must (refine bz rfl _ rfl (ai T (.slice none 0 0)) (by rw [<-HT.out];kernel_rfl) ?_))
  |((with_reducible refine dW 26 ?_);go_must (refine wpList_store_row rfl _ _ _ rfl (w.heap.size+1) (ai T (.slice none 0 0)) (congrArg (fun b=>Value.pointer (some ⟨b,0,none⟩)) (oU w _)) rfl 26 (ai bu (.slice none 0 0)) (heap_alloc2_new w _ _) (dU.out _) (wF.out _) (aT _ _ _ _) ?_)))
 generalize ((w.alloc (.cells (ai bu (.slice none 0 0)) 26)).alloc (.cells (ai bu (.slice none 0 0)) 26)).setRow (w.heap.size+1) (ai T (.slice none 0 0))=W1 at H1 H2 HB1 ⊢;have hw1:=H2.out.lt;refine az ?_
 (try rw [oU w])
 go_wp2_with (first
  |((with_reducible refine eF 26 ?_);go_must (refine aP rfl _ _ rfl (w.heap.size+1) rfl (ai T (.slice none 0 0)) H2.out.jw _ Tryz.underlying26 rfl (dU.out _) ?_))
  |((with_reducible refine dW 26 ?_);go_must (refine wpList_store_row rfl _ _ _ rfl w.heap.size (ai T (.slice none 0 0)) rfl rfl 26 (ai bu (.slice none 0 0)) H1.out.var (dU.out _) (wF.out _) (aT _ _ _ _) ?_)))
 refine bodyPost_ret (v:= .agg (ai T (.slice none 0 0))) (results_cell_row rfl _ _ w.heap.size _ (ai T (.slice none 0 0)) (0,0) _ rfl (setRow_heap _ _ _ _ _ _ H1.out.var) Tryz.underlying26 rfl (dU.out _)) rfl ?_;exact ⟨none,0,[],by rw [HT.out];rfl,Y7 _ _,rfl,aB HB1.out (Nat.le_refl _) _⟩
theorem Fh (n wd:Int) (w:World):Calls Tryz.prog 23 #[I n,I wd, .bool true] w (VerP w n wd true):=by
 obtain ⟨T,hT⟩:∃T,vt n wd false=T:=⟨_,rfl⟩;have hTp:T.prev.length=32:=by rw [<-hT];rfl
 have hTm:T.bP.length=32:=by rw [<-hT];rfl
 have HT:=ae hT;have H1:Hid (AV w.heap.size 26 (ai bu (.slice none 0 0)) (((w.alloc (.cells (ai bu (.slice none 0 0)) 26)).alloc (.cells (ai bu (.slice none 0 0)) 26)).setRow (w.heap.size+1) (ai T (.slice none 0 0)))):=ae ⟨(setRow_other _ _ _ _ (by omega)).trans (heap_alloc2_old w _ _)⟩;have H2:Hid (AV (w.heap.size+1) 26 (ai T (.slice none 0 0)) (((w.alloc (.cells (ai bu (.slice none 0 0)) 26)).alloc (.cells (ai bu (.slice none 0 0)) 26)).setRow (w.heap.size+1) (ai T (.slice none 0 0)))):=ae ⟨setRow_heap _ _ _ _ _ _ (heap_alloc2_new w _ _)⟩;have HB1:Hid (Below w.heap.size w (((w.alloc (.cells (ai bu (.slice none 0 0)) 26)).alloc (.cells (ai bu (.slice none 0 0)) 26)).setRow (w.heap.size+1) (ai T (.slice none 0 0)))):=ae (aB (ah (ag w _) (ag _ _)) (Nat.le_succ _) _);have dU:Hid (∀v,(Tryz.prog.info? 26).map (·.size)=some (ai T v).size):=ae fun v=>bD _ v hTp hTm;have wF:Hid (∀v,(ai bu (.slice none 0 0)).size=(ai T v).size):=ae fun v=>(bf bu _ rfl rfl).trans (bf T v hTp hTm).symm;clear hT hTp hTm;go_enter Tryz.func23,Tryz.ntmps23;go_upto_region 2 with (first
  |((with_reducible refine aZ 26 ?_);go_must (refine aG rfl _ rfl (ai bu (.slice none 0 0)) ed ?_))
  |((with_reducible refine fP 26 ?_);go_must (refine bz rfl _ rfl (ai T (.slice none 0 0)) (by rw [<-HT.out];kernel_rfl) ?_))
  |((with_reducible refine dW 26 ?_);go_must (refine wpList_store_row rfl _ _ _ rfl (w.heap.size+1) (ai T (.slice none 0 0)) (congrArg (fun b=>Value.pointer (some ⟨b,0,none⟩)) (oU w _)) rfl 26 (ai bu (.slice none 0 0)) (heap_alloc2_new w _ _) (dU.out _) (wF.out _) (aT _ _ _ _) ?_)))
 generalize ((w.alloc (.cells (ai bu (.slice none 0 0)) 26)).alloc (.cells (ai bu (.slice none 0 0)) 26)).setRow (w.heap.size+1) (ai T (.slice none 0 0))=W1 at H1 H2 HB1 ⊢;have hw1:=H2.out.lt;refine az ?_
 (try rw [oU w])
 go_wp2_with fail;refine (U0 W1).mono ?_;rintro e w2 ⟨mb,hmb,rfl,hm2,hb2⟩;rw [show ay z0 (zs0 mb)= #[I 0, .slice (some ⟨mb,0,none⟩) 1 1,I (-1), .slice none 0 0,I 60, .slice none 0 0,I 0, .slice none 0 0] from rfl];have h1:=H1.out.below hb2;have h2:=H2.out.below hb2;have HB2:=ae (ah HB1.out hb2);have hl2:W1.heap.size<=w2.heap.size:=hb2.size;have hml:mb<w2.heap.size:=(bV.1 hm2).1;have hbv:=ag w2 (.cells #[.string ⟨#[97]⟩,I 0, .slice (some ⟨mb,0,none⟩) 1 1,I (-1), .slice none 0 0,I 60, .slice none 0 0,I 0, .slice none 0 0] 76);have h1':=(h1.below hbv).far (g:=w.heap.size+1) (by omega) 3 (.slice (some ⟨w2.heap.size,0,none⟩) 1 1);have h2':=(h2.below hbv).put 3 (.slice (some ⟨w2.heap.size,0,none⟩) 1 1);rw [qE] at h2';have c3:(w2.alloc (.cells #[.string ⟨#[97]⟩,I 0, .slice (some ⟨mb,0,none⟩) 1 1,I (-1), .slice none 0 0,I 60, .slice none 0 0,I 0, .slice none 0 0] 76)).cell? ⟨w.heap.size+1,3,none⟩=some (.slice none 0 0):=((h2.below hbv).cell 3).trans (bC _ _);have f3:(w2.alloc (.cells #[.string ⟨#[97]⟩,I 0, .slice (some ⟨mb,0,none⟩) 1 1,I (-1), .slice none 0 0,I 60, .slice none 0 0,I 0, .slice none 0 0] 76)).frozen? ⟨w.heap.size+1,3,none⟩=false:=(h2.below hbv).fZ 3;have HO:Hid (kG (w.heap.size+1) ((w2.alloc (.cells #[.string ⟨#[97]⟩,I 0, .slice (some ⟨mb,0,none⟩) 1 1,I (-1), .slice none 0 0,I 60, .slice none 0 0,I 0, .slice none 0 0] 76)).setCell ⟨w.heap.size+1,3,none⟩ (.slice (some ⟨w2.heap.size,0,none⟩) 1 1)) (.slice (some ⟨w2.heap.size,0,none⟩) 1 1) [⟨FB,zs0 mb⟩]):=ae (Y8 ((heap_setCell_other _ ⟨w.heap.size+1,3,none⟩ _ _ (by show w2.heap.size≠w.heap.size+1;omega)).trans (heap_alloc_last w2 _)) (by omega) ((heap_setCell_other _ ⟨w.heap.size+1,3,none⟩ _ _ (by show mb≠w.heap.size+1;omega)).trans ((hbv.block _ hml).trans hm2)) (by omega));have HB3:Hid (Below w.heap.size w ((w2.alloc (.cells #[.string ⟨#[97]⟩,I 0, .slice (some ⟨mb,0,none⟩) 1 1,I (-1), .slice none 0 0,I 60, .slice none 0 0,I 0, .slice none 0 0] 76)).setCell ⟨w.heap.size+1,3,none⟩ (.slice (some ⟨w2.heap.size,0,none⟩) 1 1))):=ae ((ah HB2.out hbv).setCell (p:=⟨w.heap.size+1,3,none⟩) (show w.heap.size<=w.heap.size+1 by omega) _);clear H1 H2 h1 h2 hm2 hb2 HB1 hbv;have H1:=ae h1';have H2:=ae h2';clear h1' h2';go_wp2_with (first
  |((with_reducible refine eF 26 ?_);go_must (refine aP rfl _ _ rfl (w.heap.size+1) rfl (ai T (.slice (some ⟨w2.heap.size,0,none⟩) 1 1)) H2.out.jw _ Tryz.underlying26 rfl (dU.out _) ?_))
  |((with_reducible refine dW 26 ?_);go_must (refine wpList_store_row rfl _ _ _ rfl w.heap.size (ai T (.slice (some ⟨w2.heap.size,0,none⟩) 1 1)) rfl rfl 26 (ai bu (.slice none 0 0)) H1.out.var (dU.out _) (wF.out _) (aT _ _ _ _) ?_)))
 refine bodyPost_ret (v:= .agg (ai T (.slice (some ⟨w2.heap.size,0,none⟩) 1 1))) (results_cell_row rfl _ _ w.heap.size _ (ai T (.slice (some ⟨w2.heap.size,0,none⟩) 1 1)) (0,0) _ rfl (setRow_heap _ _ _ _ _ _ H1.out.var) Tryz.underlying26 rfl (dU.out _)) rfl ?_;exact ⟨some ⟨w2.heap.size,0,none⟩,1,[⟨FB,zs0 mb⟩],by rw [<-HT.out];rfl,(HO.out.aK (by simp [World.setRow]) fun k h1 h2=>setRow_other _ _ k _ (by omega)).lower (Nat.le_succ _),rfl,aB HB3.out (Nat.le_refl _) _⟩
attribute [local go_sem] ja jb jc bC
theorem su (k:Nat):Builtin.zeroCells (Value.cells (.int .u8 0)) k=(List.replicate k (Value.int .u8 0)).toArray:=by
 apply Array.ext
 ·simp [Builtin.zeroCells,Value.cells]
 ·intro i h1 h2;have e:i%1=0:=Nat.mod_one i;simp [Builtin.zeroCells,Value.cells,e]
theorem Ed (w:World) (ty:TypeId) (lo n c k:Nat) (A:Option Addr) (bs:List UInt8) (hown:ou lo w A n c bs) (h0:0<n) (hk:0<k) (hn:n+k<=1000000) (hbase:lo<=w.heap.size):
  ∃A' c' w',(Builtin.append_ #[55,3] ty #[.slice A n c, .int .i64 (k:Int)]).run Tryz.prog w= .ok (.slice A' (n+k) c') w'/\ou lo w' A' (n+k) c' (bs++List.replicate k 0)/\uO (.slice A n c) w (.slice A' (n+k) c') w':=by
 obtain ⟨i0,hi,hz0,hz1,hz2⟩:=info_parts lN;have hl:bs.length=n:=by have:=hown.1;rw [List.length_map] at this;omega
 rcases hown.2 with ⟨_,h⟩|⟨g,cap,cur,hv,hg,hh,hnc,hcm,hcs,htk⟩
 ·omega
 injection hv with hA _ hC;subst hA hC;have hcsz:cur.size=c:=by rw [hcs,Nat.mul_one]
 have hnews:(List.replicate k (Value.int .u8 0)).length=k:=List.length_replicate;have hcell:(List.replicate k (0:UInt8)).map Extern.Stop.cell=List.replicate k (Value.int .u8 0):=by rw [List.map_replicate];rfl
 by_cases hroom:n+k<=c
 ·have hst:=run_storeCells_at Tryz.prog g (n*i0.size) 5 (List.replicate k (Value.int .u8 0)) 0 cur w hh (by rw [hz1,hnews,hcsz];omega) (fun u hu=>by rw [(List.mem_replicate.1 hu).2];rfl);simp only [Nat.add_zero] at hst;have hw:IntKind.i64.wrap (k:Int)=k:=by rw [IntKind.wrap_i64];omega
  have hneg:¬((k:Int)<0):=by omega
  have hkz:¬(k*i0.size=0):=by rw [hz1];omega
  have h48:¬(281474976710656<(k:Int)*(i0.bytes:Int)):=by rw [hz2];omega
  have hrun:(Builtin.append_ #[55,3] ty #[.slice (some ⟨g,0,none⟩) n c, .int .i64 (k:Int)]).run Tryz.prog w= .ok (.slice (some ⟨g,0,none⟩) (n+k) c) (w.setRow g (cur.toList.take (n*i0.size)++List.replicate k (Value.int .u8 0)++cur.toList.drop (n*i0.size+(List.replicate k (Value.int .u8 0)).length)).toArray):=by
   simp [Builtin.append_,run_underlying Tryz.underlying55,run_underlying Tryz.underlying3,sizeOf,typeInfo,zeroValue,hi,hz0,asInt,asIntOf,hw,hneg,hkz,h48,hroom,su,Addr.add_lit,hst]
  rw [hz1,Nat.mul_one,hnews] at hrun;rw [Nat.mul_one] at htk;refine ⟨_,_,_,hrun,⟨by rw [List.length_map,bF,List.length_replicate,hl,Nat.mul_one], .inr ⟨g,c,_,rfl,hg,setRow_heap w g cur _ _ _ hh,hroom,hcm,?_,?_⟩⟩,⟨rfl,rfl,rfl,by simp [World.setRow],fun b _ hb=>setRow_other w g b _ (fun e=>hb (by rw [e];rfl)), .inl rfl⟩⟩
  ·simp only [List.size_toArray,bF,List.length_take,List.length_drop,List.length_replicate,Array.length_toList];omega
  ·rw [htk,Nat.mul_one,List.map_append,hcell,List.append_assoc,<-List.append_assoc];exact List.take_left' (by rw [bF,List.length_map,List.length_replicate,hl])
 ·have holds:∀j u,(bs.map Extern.Stop.cell)[j]? =some u->w.drew.cell? ((⟨g,0,none⟩:Addr).add j)=some u:=World.ownsRow.cells hown (g:=g) rfl;have hf:=run_firstCells_some (P:=Tryz.prog) w.drew i0.size n ⟨g,0,none⟩ n c (bs.map Extern.Stop.cell) (by rw [List.length_map,hl,hz1,Nat.mul_one]) holds;have hrun:=Lib.run_append_grow_zeros (P:=Tryz.prog) w 55 3 ty 5 i0 (.int .u8 0) .i64 .i64 Tryz.underlying55 Tryz.underlying3 hi hz0 (some ⟨g,0,none⟩) n c (bs.map Extern.Stop.cell) hf k hk (by rw [hz1];omega) (by omega) (by omega) (by rw [hz2];omega) (growslice_fits (by omega) (by rw [hz2];omega));have hge:=grownCap_ge w (n+k) c 5;have hcm2:=grownCap_le_maxLen w (n+k) c 5 (by unfold maxLen;omega);refine ⟨_,_,_,hrun,⟨by rw [List.length_map,bF,List.length_replicate,hl,Nat.mul_one], .inr ⟨w.heap.size,_,_,rfl,hbase,heap_alloc_new w.drew _,hge,hcm2,?_,?_⟩⟩,⟨rfl,rfl,rfl,by simp,fun b hb _=>heap_alloc_old w.drew _ hb, .inr ⟨w.heap.size,rfl,Nat.le_refl _⟩⟩⟩
  ·simp only [su,Array.size_append,List.size_toArray,List.length_map,List.length_replicate,hl];omega
  ·rw [su,su];simp only [Array.toList_append,List.map_append,hcell];exact List.take_left' (by rw [bF,List.length_map,List.length_replicate,hl,Nat.mul_one])
theorem ry {ops:Array Oper} {rest:List Oper} {o:Oper} {a:Act} {Q:Exit->Act->World->Prop} {w:World} (hgd:o.guard=none) (sl x:Operand)
  (ho:o.op= .call {callee:= .builtin .append,args:= #[sl,x],argTypes:= #[55,3]}) (lo n c k:Nat) (A:Option Addr) (bs:List UInt8) (hs:a.eval sl= .slice A n c) (hx:a.eval x= .int .i64 (k:Int)) (hown:ou lo w A n c bs)
  (h0:0<n) (hk:0<k) (hn:n+k<=1000000) (hbase:lo<=w.heap.size)
  (h:∀A' c' w',ou lo w' A' (n+k) c' (bs++List.replicate k 0)->uO (.slice A n c) w (.slice A' (n+k) c') w'->wpList Tryz.prog ops Q rest (a.put o.dst (.slice A' (n+k) c')) w'):wpList Tryz.prog ops Q (o::rest) a w:=by
 obtain ⟨A',c',w',hr,h1,h2⟩:=Ed w o.type lo n c k A bs hown h0 hk hn hbase;exact Lib.wpList_append_run w hgd sl x _ _ ho _ _ hs hx _ _ hr (h A' c' w' h1 h2)
theorem Ef (A A2:Option Addr) (n c c2:Nat) (bs:List UInt8) (w:World) (hl:bs.length=n) (hn:n<=1000000) (h1:aA w w.heap.size A (bs.map Extern.Stop.cell)) (h2:aA w w.heap.size A2 (bs.map Extern.Stop.cell)):
  Calls Tryz.prog 25 #[.slice A n c, .slice A2 n c2] w (Gives (.bool true) w):=by
 have H1:=ae h1;have H2:=ae h2;have HL:=ae hl;clear h1 h2 hl;go_enter Tryz.func25,Tryz.ntmps25;go_wp2_with fail
 go_loopw [5] (fun i wr=>∃k:Nat,k<=n/\i=I k/\∃m,wr=w.drewN m) (fun i _=>n - (intOf i).toNat)
 case atStart=>exact ⟨0,Nat.zero_le _,rfl,0,rfl⟩
 case round=>
  obtain ⟨k,hk,rfl,m,rfl⟩:=hrel;by_cases hlt:(k:Int)<(n:Int)
  ·have hk2:k<n:=by omega
   obtain ⟨b,off,rfl,hb,hc⟩:=H1.out.there (by rw [List.length_map,HL.out];omega);obtain ⟨b2,xG,rfl,hb2,hc2⟩:=H2.out.there (by rw [List.length_map,HL.out];omega);obtain ⟨x,hx⟩:∃x,bs[k]? =some x:=⟨_,bK (by rw [HL.out];exact hk2)⟩;have e1:w.cell? ⟨b,off+k,none⟩=some (.int .u8 (x.toNat:Int)):=hc k _ (by rw [List.getElem?_map,hx];rfl);have e2:w.cell? ⟨b2,xG+k,none⟩=some (.int .u8 (x.toNat:Int)):=hc2 k _ (by rw [List.getElem?_map,hx];rfl);clear hc hc2 hx;go_wp2_with fail;go_quiet (fail);go_wp2_with fail;go_roundw
   case rel=>exact ⟨k+1,by omega,by go_num,_,rfl⟩
   case measure=>simp [intOf];omega
  ·go_wp2_with fail;go_ret;exact ⟨rfl,rfl,rfl,rfl,Nat.le_refl _,fun _ _=>rfl⟩
theorem NL (A:Option Addr) (n c:Nat) (w:World) (hn:n<=4):Calls Tryz.prog 16 #[.slice A n c,I 5] w (Gives (.tuple #[.agg (ai bu (.slice none 0 0)), .int .i64 4]) w):=by
 have HW0:=ae (AV.new w (ai bu (.slice none 0 0)) 26);have HB0:=ae (ag w (.cells (ai bu (.slice none 0 0)) 26));have Xn:Hid ((Tryz.prog.info? 26).map (·.size)=some (ai bu (.slice none 0 0)).size):=ae (bD bu _ rfl rfl);have i1:(n:Int)<5:=by omega
 go_enter Tryz.func16,Tryz.ntmps16;go_wp2_with (first
  |((with_reducible refine aZ 26 ?_);go_must (refine aG rfl _ rfl (ai bu (.slice none 0 0)) ed ?_))
  |((with_reducible refine fP 26 ?_);go_must (refine bz rfl _ rfl (ai bu (.slice none 0 0)) (by kernel_rfl) ?_))
  |((with_reducible refine dW 26 ?_);go_must (refine wpList_store_row rfl _ _ _ rfl w.heap.size (ai bu (.slice none 0 0)) rfl rfl 26 (ai bu (.slice none 0 0)) HW0.out.var Xn.out rfl (aT _ _ _ _) ?_)))
 refine bodyPost_ret (v:= .tuple #[.agg (ai bu (.slice none 0 0)),I 4]) (aV rfl _ _ w.heap.size _ (ai bu (.slice none 0 0)) (0,0) _ rfl (setRow_heap _ _ _ _ _ _ HW0.out.var) Tryz.underlying26 rfl Xn.out _ rfl) rfl ?_;exact ⟨rfl,aB HB0.out (Nat.le_refl _) _⟩
theorem Vj (t:Tb) (A:Option Addr) (n c:Nat) (w:World) (hi:0<=t.bG/\t.bG<16) (hv:t.version<1):Calls Tryz.prog 29 #[.agg (ai t (.slice A n c))] w (Gives (.int .i64 1) w):=by
 obtain ⟨is,his⟩:∃i,t.bG=i:=⟨_,rfl⟩;obtain ⟨ve,hve⟩:∃i,t.version=i:=⟨_,rfl⟩;have HA:=ae (AV.new w (ai t (.slice A n c)) 26);have c0:(w.alloc (.cells (ai t (.slice A n c)) 26)).cell? ⟨w.heap.size,0,none⟩=some (I is):=(HA.out.cell 0).trans (by rw [<-his];rfl);have c1:(w.alloc (.cells (ai t (.slice A n c)) 26)).cell? ⟨w.heap.size,1,none⟩=some (I ve):=(HA.out.cell 1).trans (by rw [<-hve];rfl);rw [his] at hi;rw [hve] at hv;obtain ⟨i0,i1⟩:=hi;have i2:¬is<0:=by omega
 have i3:¬(16:Int)<=is:=by omega
 have HB:=ae (ag w (.cells (ai t (.slice A n c)) 26));clear his hve;go_enter Tryz.func29,Tryz.ntmps29;go_wp2_with fail;go_ret;exact ⟨rfl,HB.out⟩
def o9 (ts:List dF):Int:=if (wK ts).2=false then -1 else if (wK ts).1<0 then -4 else ((ts[(wK ts).1.toNat]?).map (·.t.version)).getD 0
theorem uQ (A:Option Addr) (c n:Nat) (ts:List dF) (w:World) (hn:ts.length=n) (hn1:n<=1000) (hl:yU ts) (h:jq w w.heap.size A ts) (hp:∀x∈ts,x.t.prev.length=32/\x.t.bP.length=32):
  Calls Tryz.prog 26 #[.slice A n c] w (Gives (.int .i64 (o9 ts)) w):=by
 have HC:=ae (Na A c n ts w hn hn1 hl h);have PQ:=ae hp;obtain ⟨F,hF⟩:∃F,o9 ts=F:=⟨_,rfl⟩;rw [hF];have HF:=ae hF;clear hn hl h hp hF;go_enter Tryz.func26,Tryz.ntmps26;go_wp2_with fail;refine HC.out.mono ?_;rintro e w2 ⟨hb2,p,b,hpb,⟨rfl,rfl⟩|⟨rfl,hp0,rfl⟩|⟨rfl,i,x,y,rfl,hx,hy,_,rfl,hO⟩⟩
 ·have HE:Hid (F= -1):=ae (by rw [<-HF.out];unfold o9;rw [hpb];rfl);clear hpb;have nD:=ae (AV.new w2 (ai bu (.slice none 0 0)) 26);have HB2:=ae (ah hb2 (ag w2 (.cells (ai bu (.slice none 0 0)) 26)));have HW:=ae hb2.size;clear hb2;rw [oN];go_wp2_with (first
   |((with_reducible refine aZ 26 ?_);go_must (refine aG rfl _ rfl (ai bu (.slice none 0 0)) ed ?_))
   |((with_reducible refine dW 26 ?_);go_must (refine wpList_store_row rfl _ _ _ rfl w2.heap.size (ai bu (.slice none 0 0)) rfl rfl 26 (ai bu (.slice none 0 0)) nD.out.var (bD bu _ rfl rfl) rfl (aT _ _ _ _) ?_)))
  go_ret;exact ⟨by rw [HE.out];rfl,aB HB2.out HW.out _⟩
 ·have HE:Hid (F= -4):=ae (by rw [<-HF.out];unfold o9;rw [hpb];simp [hp0]);clear hpb hp0;have nD:=ae (AV.new w2 (ai bu (.slice none 0 0)) 26);have HB2:=ae (ah hb2 (ag w2 (.cells (ai bu (.slice none 0 0)) 26)));have HW:=ae hb2.size;clear hb2;rw [oN];go_wp2_with (first
   |((with_reducible refine aZ 26 ?_);go_must (refine aG rfl _ rfl (ai bu (.slice none 0 0)) ed ?_))
   |((with_reducible refine dW 26 ?_);go_must (refine wpList_store_row rfl _ _ _ rfl w2.heap.size (ai bu (.slice none 0 0)) rfl rfl 26 (ai bu (.slice none 0 0)) nD.out.var (bD bu _ rfl rfl) rfl (aT _ _ _ _) ?_)))
  go_ret;exact ⟨by rw [HE.out];rfl,aB HB2.out HW.out _⟩
 ·have HE:Hid (F=x.t.version):=ae (by rw [<-HF.out];unfold o9;rw [hpb];simp [hx];intro h;omega);have hq:=PQ.out x (gZ hx);obtain ⟨T,hT⟩:∃T,y.t=T:=⟨_,rfl⟩;have hTx:T=x.t:=hT.symm.trans hy;rw [hT];have dU:Hid ((Tryz.prog.info? 26).map (·.size)=some (ai T (.slice y.A y.zs.length y.c)).size):=ae (bD T _ (by rw [hTx];exact hq.1) (by rw [hTx];exact hq.2));have wF:Hid ((ai bu (.slice none 0 0)).size=(ai T (.slice y.A y.zs.length y.c)).size):=ae ((bf bu _ rfl rfl).trans (bf T _ (by rw [hTx];exact hq.1) (by rw [hTx];exact hq.2)).symm);obtain ⟨ve,hve⟩:∃v,T.version=v:=⟨_,rfl⟩;have HVE:Hid (F=ve):=ae (by rw [HE.out,<-hve,hTx]);have nD:=ae ((AV.new w2 (ai bu (.slice none 0 0)) 26));have HB2:=ae (aB (ah hb2 (ag w2 (.cells (ai bu (.slice none 0 0)) 26))) hb2.size (ai T (.slice y.A y.zs.length y.c)));have tY:=ae (nD.out.qy (ai T (.slice y.A y.zs.length y.c)));have c1:((w2.alloc (.cells (ai bu (.slice none 0 0)) 26)).setRow w2.heap.size (ai T (.slice y.A y.zs.length y.c))).cell? ⟨w2.heap.size,1,none⟩=some (I ve):=(tY.out.cell 1).trans (by rw [<-hve];rfl);clear hb2 hpb hx hy hO hq hT hTx hve;go_wp2_with (first
   |((with_reducible refine aZ 26 ?_);go_must (refine aG rfl _ rfl (ai bu (.slice none 0 0)) ed ?_))
   |((with_reducible refine dW 26 ?_);go_must (refine wpList_store_row rfl _ _ _ rfl w2.heap.size (ai T (.slice y.A y.zs.length y.c)) rfl rfl 26 (ai bu (.slice none 0 0)) nD.out.var dU.out wF.out (aT _ _ _ _) ?_)))
  go_ret;exact ⟨by rw [HVE.out];rfl,HB2.out⟩
end Go.Proofs.YtbaehbbonkljpaaGreatDoor
namespace Go.Proofs.YtbaehbbonkljpaaGreatDoor
open Go Go.RowKit
attribute [local go_sem] ja jb jc bC
section
variable {P:Program} {ops:Array Oper} {a:Act} {w:World} {rest:List Oper} {o:Oper}
theorem qc {Q:Act->Prop} (hw:Region.wanted o (yielded ops a.tmps)=true) (ty:TypeId) (x:Operand) (ho:o.op= .load ty x) (g off:Nat) (hx:a.eval x= .pointer (some ⟨g,off,none⟩)) (cs:List Value) (hr:w.rangeAt g off cs)
  (d:TypeDesc) (hu:P.underlying ty=some d) (hd:d.isRow=true) (hi:(P.info? ty).map (·.size)=some cs.length)
  (h:wpStill P ops w Q rest (a.put o.dst (.agg cs.toArray))):wpStill P ops w Q (o::rest) a:=by
 refine wpStill_step fun K hK=>?_;rw [if_pos hw];unfold Oper.still execOp;simp only [ho,hx,Instr.loadAt,Instr.sureAddr,Sem.run_bind,Sem.run_pure,Result.andThen_ok,run_loadVar_mid w g off ty cs d hr hu hd hi];exact ⟨rfl,hK _ h⟩
end
theorem EY (r:List UInt8) (h:r.length=32) (W:World):(binOp .neq 24 (.agg (ax r).toArray) (.agg (ax r).toArray)).run Tryz.prog W= .ok (.bool false) W:=by
 unfold ax;rw [run_neq_struct,Go.Proofs.YtbaehbbonkljpaaGreatDoor.vN W r h];simp [Result.andThen]
theorem Pv (x:dw):∀j u,(ay x.e.z x.s).toList[j]? =some u->x.cells.toList[1+j]? =some u:=fun j u hu=>by
 rw [Nat.add_comm];exact hu
theorem JC (t:Tb) (A1 A2:Option Addr) (c1 c2 n:Nat) (ys1 ys2:List dw) (zs:List Ze) (w:World) (hp:t.prev.length=32) (hm:t.bP.length=32) (h1:ys1.map (·.e)=zs) (h2:ys2.map (·.e)=zs) (hn:zs.length=n) (hn1:n<=1000) (hl:∀e∈zs,jB e.z) (m1:kz w w.heap.size A1 ys1) (m2:kz w w.heap.size A2 ys2):
  Calls Tryz.prog 21 #[.agg (ai t (.slice A1 n c1)), .agg (ai t (.slice A2 n c2))] w (Gives (.bool true) w):=by
 have HV:=ae (qp.start w 26 (ai t (.slice A1 n c1)) (ai t (.slice A2 n c2)));have l1:ys1.length=n:=by rw [<-hn,<-h1,List.length_map]
 have l2:ys2.length=n:=by rw [<-hn,<-h2,List.length_map]
 obtain ⟨W0,hW0⟩:∃W0,(w.alloc (.cells (ai t (.slice A1 n c1)) 26)).alloc (.cells (ai t (.slice A2 n c2)) 26)=W0:=⟨_,rfl⟩;rw [hW0] at HV;have HW0:=ae hW0;have DD:=ae l1;have HL2:=ae l2;have FH:=ae h1;have HE2:=ae h2;have KP:=ae m1;have HM2:=ae m2;have PM:=ae hl;have nq1:=EY t.prev hp;have nq2:=EY t.bP hm;have sS:=ae (uU t _ HV.out.a);have HP2:=ae (uU t _ HV.out.b);have kD:=ae (NH t _ HV.out.a hp);have jr:=ae (NH t _ HV.out.b hp);have WG:Hid ((Tryz.prog.info? 24).map (·.size)=some (ax t.prev).length):=ae (by simp only [ax,List.length_map,hp];kernel_rfl);have H33:Hid ((Tryz.prog.info? 24).map (·.size)=some (ax t.bP).length):=ae (by simp only [ax,List.length_map,hm];kernel_rfl);have p0:=HV.out.a.2;have p1:=HV.out.b.2;clear hn h1 h2 m1 m2 hl hp hm l1 l2 hW0;go_enter Tryz.func21,Tryz.ntmps21;go_upto_region 1 with fail;rw [HW0.out];go_wp2_with (first
  |((with_reducible refine dY 24 ?_);go_must (first
    |(refine dn rfl _ _ rfl w.heap.size 4 rfl (ax t.prev) sS.out _ Tryz.underlying24 rfl WG.out ?_)
    |(refine dn rfl _ _ rfl (w.heap.size+1) 4 rfl (ax t.prev) HP2.out _ Tryz.underlying24 rfl WG.out ?_)
    |(refine dn rfl _ _ rfl w.heap.size 36 rfl (ax t.bP) kD.out _ Tryz.underlying24 rfl H33.out ?_)
    |(refine dn rfl _ _ rfl (w.heap.size+1) 36 rfl (ax t.bP) jr.out _ Tryz.underlying24 rfl H33.out ?_))))
 go_loopw [5] (fun i wr=>Bq w 26 (ai t (.slice A1 n c1)) (ai t (.slice A2 n c2)) n i wr) (fun i _=>n - (intOf i).toNat)
 case atStart=>exact ⟨0,Nat.zero_le _,rfl,HV.out⟩
 case round=>
  clear p0 p1 nq1 nq2;obtain ⟨k,hk,rfl,hv⟩:=hrel;have ZK:=ae hv;have p3:wr.cell? ⟨w.heap.size,3,none⟩=some (.slice A1 n c1):=(hv.a.2 3).trans (bC _ _);have q3:wr.cell? ⟨w.heap.size+1,3,none⟩=some (.slice A2 n c2):=(hv.b.2 3).trans (bC _ _);clear hv;by_cases hlt:(k:Int)<(n:Int)
  ·have hk2:k<n:=by omega
   obtain ⟨x1,hx1⟩:∃x,ys1[k]? =some x:=⟨_,bK (by rw [DD.out];exact hk2)⟩;obtain ⟨x2,hx2⟩:∃x,ys2[k]? =some x:=⟨_,bK (by rw [HL2.out];exact hk2)⟩;have he:x1.e=x2.e:=by
    have a1:zs[k]? =some x1.e:=by rw [<-FH.out,List.getElem?_map,hx1];rfl
    have a2:zs[k]? =some x2.e:=by rw [<-HE2.out,List.getElem?_map,hx2];rfl
    rw [a1] at a2;injection a2
   have hel:jB x1.e.z:=PM.out _ (by rw [<-FH.out];exact List.mem_map_of_mem (gZ hx1));have z1:=KP.out.each x1 (gZ hx1);have z2:=HM2.out.each x2 (gZ hx2);obtain ⟨b,off,rfl,hb,hc⟩:=KP.out.row.there (by rw [dX,DD.out];omega);obtain ⟨b2,xG,rfl,hb2,hc2⟩:=HM2.out.row.there (by rw [dX,HL2.out];omega);have r1:wr.rangeAt b (off+k*9) x1.cells.toList:=aS (aA.elem (s:=9) (f:=fun x:dw=>x.cells.toList) (fun _ _=>rfl) hc k x1 hx1) ZK.out.up hb;have r2:wr.rangeAt b2 (xG+k*9) x2.cells.toList:=aS (aA.elem (s:=9) (f:=fun x:dw=>x.cells.toList) (fun _ _=>rfl) hc2 k x2 hx2) ZK.out.up hb2;obtain ⟨nm,hnm⟩:∃s,x1.e.name=s:=⟨_,rfl⟩;have e1:wr.cell? ⟨b,off+k*9,none⟩=some (.string nm):=by rw [<-hnm];exact r1 0 _ rfl
   have e2:wr.cell? ⟨b2,xG+k*9,none⟩=some (.string nm):=by rw [<-hnm,he];exact r2 0 _ rfl
   have R1:Hid (wr.drew.rangeAt b (off+k*9+1) (ay x1.e.z x1.s).toList):=ae (fun j u hu=>by rw [Nat.add_assoc];exact r1 (1+j) u (Pv x1 j u hu));have R2:Hid (wr.drew.rangeAt b2 (xG+k*9+1) (ay x1.e.z x2.s).toList):=ae (fun j u hu=>by rw [he] at hu;rw [Nat.add_assoc];exact r2 (1+j) u (Pv x2 j u hu));have ZI:Hid (∀s,(Tryz.prog.info? 69).map (·.size)=some (ay x1.e.z s).toList.length):=ae (fun s=>by kernel_rfl);have HS:Hid (Calls Tryz.prog 34 #[.agg (ay x1.e.z x1.s), .agg (ay x1.e.z x2.s)] wr.drew (Gives (.bool true) wr.drew)):=ae (vY x1.e.z x1.s x2.s _ _ wr.drew hel rfl rfl ((z1.keep (ZK.out.drew 1).up).more (ZK.out.drew 1).up.size) (by rw [he];exact (z2.keep (ZK.out.drew 1).up).more (ZK.out.drew 1).up.size));clear hx1 hx2 he hel z1 z2 hc hc2 r1 r2 hnm;go_wp2_with fail;refine wp_region_still_tail 26 (by kernel_rfl) (by kernel_rfl) ?_;simp only [List.take_succ_cons,List.take_zero,List.drop_succ_cons,List.drop_zero]
   iterate 19 still_step
   refine qc rfl _ _ rfl b (off+k*9+1) rfl (ay x1.e.z x1.s).toList R1.out _ Tryz.underlying69 rfl (ZI.out _) ?_
   iterate 5 still_step
   refine qc rfl _ _ rfl b2 (xG+k*9+1) rfl (ay x1.e.z x2.s).toList R2.out _ Tryz.underlying69 rfl (ZI.out _) ?_;refine wpStill_nil ?_;change wpList _ _ _ _ _ wr.drew;go_wp2_with fail;refine HS.out.mono ?_;rintro e w3 ⟨rfl,hb3⟩;have tY:Hid (qp w 26 (ai t (.slice (some ⟨b,off,none⟩) n c1)) (ai t (.slice (some ⟨b2,xG,none⟩) n c2)) w3):=ae ((ZK.out.drew 1).below hb3);clear hb3 e1 e2 p3 q3;go_wp2_with fail;go_roundw
   case rel=>exact ⟨k+1,by omega,by go_num,tY.out⟩
   case measure=>simp [intOf];omega
  ·go_wp2_with fail;go_ret;exact ⟨rfl,ZK.out.up⟩
end Go.Proofs.YtbaehbbonkljpaaGreatDoor
