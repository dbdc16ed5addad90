/- The texts Lj, Lk, Ll, Lm, in this order. -/
import Derived.Test.YtdibbemgpikgjaaGreatZ00
import Derived.Lib.AppendZerosOnto
import Derived.Test.YtdibbemgpikgjaaGreatZ41
set_option maxRecDepth 10000
set_option maxHeartbeats 8000000
namespace Go.Proofs.YtdibbemgpikgjaaGreat
open Go Go.RowKit
attribute [local go_sem] eQ fA eU fC iZ ja eH eX eP eY
theorem Fb (b:Nat) (w:World) (v:Value) (hq:w.heap[b]? =some (.cells #[v] 4 (0,0))):
  CallsD Tryz.prog 40 #[.pointer (some ⟨b,0,none⟩)] (.panicking pz) w fun e u' w'=>e= .returned (.tuple #[])∧u'= .panicking [{v:= .iface 107 (.agg #[]),recovered:=true}]∧kM b w w'∧w'.heap[b]? =some (.cells #[.bool false] 4 (0,0)):=by
 have hnn:∀w,(binOp .neq 20 (.iface 107 (.agg #[])) .nilIface).run Tryz.prog w= .ok (.bool true) w:=by intro w;simp [go_sem]
 have hta:∀w,(Instr.typeAssert (.iface 107 (.agg #[])) 20 107 true).run Tryz.prog w= .ok (.tuple #[.agg #[], .bool true]) w:=by intro w;kernel_rfl
 have HB1:=ae (ag w (.cells #[] 107));have hq1:(w.alloc (.cells #[] 107)).heap[b]? =some (.cells #[v] 4 (0,0)):=(HB1.out.block _ (iY hq)).trans hq;have hcc:=cell_of_row _ b 0 _ _ _ hq1;have hfc:=frozen_of_row _ b 0 _ _ hq1;have HK:Hid (kM b w ((w.alloc (.cells #[] 107)).setCell ⟨b,0,none⟩ (.bool false))):=ae ⟨rfl,rfl,rfl,by simp [World.setCell],fun k hk hn=>(heap_setCell_other _ ⟨b,0,none⟩ k _ hn).trans (Below.heap_alloc w _ k hk)⟩;have HQ:Hid (((w.alloc (.cells #[] 107)).setCell ⟨b,0,none⟩ (.bool false)).heap[b]? =some (.cells #[.bool false] 4 (0,0))):=ae (by rw [heap_setCell_same _ b 0 _ _ _ hq1];rfl);clear hq hq1 HB1;unfold pz;refine callsD_of_wpS Tryz.func40 rfl fun c₀ cs hu=>?_;apply wpS_seq;apply wpS_region;simp [wpOpsS,go_sem,recoverD,hu,Tryz.ntmps40,Exit.thenS];refine wpS_of_wp ?_;simp only [Array.replicate_succ,Array.replicate_zero,List.push_toArray,List.append_toArray,List.nil_append,List.cons_append,List.setIfInBounds_toArray,List.set_cons_zero,List.set_cons_succ];go_wp2_with fail;simp [bodyPostS,results,Tryz.results40];exact ⟨HK.out,HQ.out⟩
theorem RQ (w:World) (t:Tb) (x:Ze) (N b off c:Nat) (h:kG t) (AP:gZ x.z∧x.name.size≤32) (hN:(o9 t x).length=N) (hbl:b<w.heap.size) (hc1:N≤c) (hc2:c≤9223372036854775807)
  (hA:∀j,j<N→w.cell? ⟨b,off+j,none⟩=some (Extern.Stop.cell ((o9 t x)[j]?.getD 0))):
  Calls Tryz.prog 20 #[.slice (some ⟨b,off,none⟩) N c] w fun e w'=>(∃g cz,e= .returned (.tuple #[.agg (ai {t with bK:=aO,aS:= []} (.slice (some ⟨g,0,none⟩) 1 cz)), .bool false]))∧Below w.heap.size w w':=by
 have hmf:∀(fn:Fn) (first cap:Array Value) (w:World),(Instr.makeFunc fn first cap).run Tryz.prog w= .ok (.func fn first cap) w:=fun _ _ _ _=>rfl;obtain ⟨W,hW⟩:∃W,((w.alloc (.cells (ai bQ (.slice none 0 0)) 32)).alloc (.cells #[.bool false] 4)).alloc (.cells #[.slice (some ⟨b,off,none⟩) N c] 110)=W:=⟨_,rfl⟩;have hB:Below w.heap.size w W:=by rw [←hW];exact (((Below.refl _ w).alloc (Nat.le_refl _) _).alloc (by simp) _).alloc (by simp;omega) _
 have hs:W.heap.size=w.heap.size+3:=by rw [←hW];simp
 have ht:W.heap[w.heap.size]? =some (.cells (ai bQ (.slice none 0 0)) 32 (0,0)):=by rw [←hW];exact (Below.heap_alloc _ _ _ (by simp;omega)).trans (heap_alloc2_old w _ _)
 have ho:W.heap[w.heap.size+1]? =some (.cells #[.bool false] 4 (0,0)):=by rw [←hW];exact (Below.heap_alloc _ _ _ (by simp)).trans (heap_alloc2_new w _ _)
 have hr:gB w.heap.size W (w.heap.size+2) (o9 t x):=by
  refine ⟨⟨b,off,c,?_,by rw [hN];exact hc1,hc2,hbl,fun j hj=>(hB.cell (p:=⟨b,off+j,none⟩) hbl).trans (hA j (by omega))⟩,by omega⟩;rw [←hW,hN];have:=heap_alloc_last ((w.alloc (.cells (ai bQ (.slice none 0 0)) 32)).alloc (.cells #[.bool false] 4)) (.cells #[.slice (some ⟨b,off,none⟩) N c] 110);simpa using this
 have HB:=ae hB;have HS:=ae hs;have HO:=ae ho;have HC:=ae (KG w.heap.size W (w.heap.size+2) w.heap.size t x h AP hr ht (Nat.le_refl _) (by omega));have ui:=h.prev;clear h hN hA hB hs ht ho hr
 go_enter_defers Tryz.func20,Tryz.ntmps20
 go_wp2_with fail;rw [jO,hW];refine HC.out.mono ?_;rintro e w2 ⟨rfl,g,cz,hp2⟩;have hs0:=HS.out;have ho2:w2.heap[w.heap.size+1]? =some (.cells #[.bool false] 4 (0,0)):=(hp2.block _ (by omega) (by omega) (by omega)).trans HO.out;have HB2:=ae (hp2.grown HB.out (Nat.le_refl _) (by omega) (by omega));refine leaves_cons (f:=40) (args:= #[.pointer (some ⟨w.heap.size+1,0,none⟩)]) (by simp) (by simp [go_sem]) ?_;refine (Fb (w.heap.size+1) w2 (.bool false) ho2).mono ?_;rintro e u' w3 ⟨rfl,rfl,hk3,hq3⟩;have hv3:w3.heap[w.heap.size]? =some (.cells (ai {t with bK:=aO,aS:= []} (.slice (some ⟨g,0,none⟩) 1 cz)) 32 (0,0)):=(hk3.block _ (by have:=hp2.size;omega) (by omega)).trans hp2.tgt;have hc3:=cell_of_row _ (w.heap.size+1) 0 _ _ _ hq3;refine ⟨_,l9 rfl _ _ w.heap.size (w.heap.size+1) _ (ai {t with bK:=aO,aS:= []} (.slice (some ⟨g,0,none⟩) 1 cz)) (0,0) _ (.bool false) rfl hv3 Tryz.underlying32 rfl (cu {t with bK:=aO,aS:= []} _ ui rfl) rfl (gQ _ _ _ hc3),⟨g,cz,rfl⟩,?_⟩;have h1:=HB2.out;exact ⟨hk3.os.trans h1.os,hk3.tape.trans h1.tape,hk3.output.trans h1.output,Nat.le_trans h1.size hk3.size,fun k hk=>(hk3.block k (dR hk h1.size) (by omega)).trans (h1.block k hk)⟩
theorem Fa (w:World) (t:Tb) (x:Ze) (N b off c:Nat) (h:kG t) (AP:gZ x.z∧x.name.size≤32) (hN:(o9 t x).length=N) (hbl:b<w.heap.size) (hc1:N≤c) (hc2:c≤9223372036854775807)
  (hA:∀j,j<N→w.cell? ⟨b,off+j,none⟩=some (Extern.Stop.cell ((o9 t x)[j]?.getD 0))):
  Calls Tryz.prog 6 #[.slice (some ⟨b,off,none⟩) N c] w (Gives (.tuple #[.agg (ai bQ (.slice none 0 0)), .int .i64 3]) w):=by
 have HW0:=ae (AV.new w (ai bQ (.slice none 0 0)) 32);have HB0:=ae (ag w (.cells (ai bQ (.slice none 0 0)) 32));have HC:Hid (∀W,Below w.heap.size w W→Calls Tryz.prog 20 #[.slice (some ⟨b,off,none⟩) N c] W fun e w'=>(∃g cz,e= .returned (.tuple #[.agg (ai {t with bK:=aO,aS:= []} (.slice (some ⟨g,0,none⟩) 1 cz)), .bool false]))∧Below W.heap.size W w'):=ae (fun W hb=>RQ W t x N b off c h AP hN (dR hbl hb.size) hc1 hc2 fun j hj=>(hb.cell (p:=⟨b,off+j,none⟩) hbl).trans (hA j hj));have ui:=h.prev;clear h hN hA;go_enter Tryz.func6,Tryz.ntmps6;go_upto_region 1 with ((with_reducible refine bn 32 ?_);go_must (refine aG rfl _ rfl (ai bQ (.slice none 0 0)) fF ?_));go_wp2_with fail;refine (HC.out _ HB0.out).mono ?_;rintro e w2 ⟨⟨g,cz,rfl⟩,hb2⟩;have HR2:=ae (HW0.out.below hb2);have HB2:=ae (ah HB0.out hb2);have dM:Hid ((Tryz.prog.info? 32).map (·.size)=some (ai {t with bK:=aO,aS:= []} (.slice (some ⟨g,0,none⟩) 1 cz)).size):=ae (cu {t with bK:=aO,aS:= []} _ ui rfl);have zF:Hid ((ai bQ (.slice none 0 0)).size=(ai {t with bK:=aO,aS:= []} (.slice (some ⟨g,0,none⟩) 1 cz)).size):=ae ((bG bQ _ rfl rfl).trans (bG {t with bK:=aO,aS:= []} _ ui rfl).symm);have hw2:w.heap.size<w2.heap.size:=HR2.out.lt;have I4:Hid ((Tryz.prog.info? 32).map (·.size)=some (ai bQ (.slice none 0 0)).size):=ae (cu bQ _ rfl rfl);clear hb2 HC HW0 HB0;have HR3:Hid (AV w.heap.size 32 (ai bQ (.slice none 0 0)) ((w2.alloc (.cells (ai bQ (.slice none 0 0)) 32)).setRow w2.heap.size (ai {t with bK:=aO,aS:= []} (.slice (some ⟨g,0,none⟩) 1 cz)))):=ae ((HR2.out.below (ag w2 _)).qJ (by omega) _);have HB3:Hid (Below w.heap.size w ((w2.alloc (.cells (ai bQ (.slice none 0 0)) 32)).setRow w2.heap.size (ai {t with bK:=aO,aS:= []} (.slice (some ⟨g,0,none⟩) 1 cz)))):=ae (aC (ah HB2.out (ag w2 _)) (by omega) _);go_wp2_with (first
  |((with_reducible refine bn 32 ?_);go_must (refine aG rfl _ rfl (ai bQ (.slice none 0 0)) fF ?_))
  |((with_reducible refine iI 32 ?_);go_must (refine bY rfl _ rfl (ai bQ (.slice none 0 0)) (by kernel_rfl) ?_))
  |((with_reducible refine dO 32 ?_);go_must (first
    |(refine wpList_store_row rfl _ _ _ rfl w2.heap.size (ai {t with bK:=aO,aS:= []} (.slice (some ⟨g,0,none⟩) 1 cz)) rfl rfl 32 (ai bQ (.slice none 0 0)) (heap_alloc_last _ _) dM.out zF.out (bf _ _ _ _) ?_)
    |(refine wpList_store_row rfl _ _ _ rfl w.heap.size (ai bQ (.slice none 0 0)) rfl rfl 32 (ai bQ (.slice none 0 0)) HR3.out.var I4.out rfl (bf _ _ _ _) ?_))))
 refine bodyPost_ret (v:= .tuple #[.agg (ai bQ (.slice none 0 0)),I 3]) (bF rfl _ _ w.heap.size _ (ai bQ (.slice none 0 0)) (0,0) _ rfl (setRow_heap _ _ _ _ _ _ HR3.out.var) Tryz.underlying32 rfl I4.out _ rfl) rfl ?_;exact ⟨rfl,aC HB3.out (Nat.le_refl _) _⟩
end Go.Proofs.YtdibbemgpikgjaaGreat
namespace Go.Proofs.YtdibbemgpikgjaaGreat
open Go Go.RowKit
def z0:Zn:=⟨⟨0,[3], -1,[]⟩,60,[],0,[]⟩
def zs0 (mb:Nat):Zs:=⟨some ⟨mb,0,none⟩,1,none,0,none,0,none,0⟩
def zA:Ze:=⟨⟨#[97]⟩,z0⟩
def vt (n wd:Int) (b:Bool):Tb:=⟨2,n,wd,aO,aO,if b then [zA] else []⟩
def SimP (w:World) (e:Ending) (w':World):Prop:=∃mb,w.heap.size≤mb∧e= .returned (.agg (aj z0 (zs0 mb)))∧w'.heap[mb]? =some (.cells #[I 3] 3 (0,0))∧Below w.heap.size w w'
def VerP (w:World) (n wd:Int) (b:Bool) (e:Ending) (w':World):Prop:=
 ∃A c ys,e= .returned (.agg (ai (vt n wd b) (.slice A ys.length c)))∧gX w.heap.size w' (.slice A ys.length c) ys∧ys.map (·.e)=(vt n wd b).aS∧Below w.heap.size w w'
theorem li_z0 {lo mb:Nat} {w:World} (h:w.heap[mb]? =some (.cells #[I 3] 3 (0,0))) (hl:lo≤mb):LI lo w (some ⟨mb,0,none⟩) [3]:=
 .inr ⟨mb,0,rfl,hl,(aZ.1 h).1,fun j hj=>by
  have e:j=0:=by simp at hj;omega
  subst e;exact cell_of_row w mb 0 _ _ _ h⟩
theorem VP {lo g mb:Nat} {w:World} (hg:w.heap[g]? =some (.cells (⟨zA,zs0 mb⟩:dm).cells 55 (0,0))) (hl:lo≤g) (hm:w.heap[mb]? =some (.cells #[I 3] 3 (0,0))) (hm2:lo≤mb):gX lo w (.slice (some ⟨g,0,none⟩) 1 1) [⟨zA,zs0 mb⟩]:=
 ⟨⟨rfl, .inr ⟨g,1,_,rfl,hl,hg,Nat.le_refl _,by unfold maxLen;omega,rfl,rfl⟩⟩,fun x hx=>by rw [List.mem_singleton.1 hx];exact li_z0 hm hm2,fun x hx=>by rw [List.mem_singleton.1 hx];exact ⟨⟨rfl,rfl⟩,⟨rfl,rfl⟩,⟨rfl,rfl⟩⟩,fun h=>by cases h⟩
theorem VO (lo:Nat) (w:World):gX lo w (.slice none 0 0) []:=⟨World.ownsRow_nil _ _ _ _,(fun _ h=>nomatch h),(fun _ h=>nomatch h),fun _=>rfl⟩
theorem Nb:gZ z0:=⟨⟨⟨by decide,by decide⟩,⟨by decide,by decide⟩,rfl,rfl,fun m hm=>by rw [List.mem_singleton.1 hm];decide⟩,⟨by decide,by decide⟩,rfl,⟨by decide,by decide⟩,rfl⟩
theorem VA (n wd:Int) (b:Bool) (h1:1≤n) (h2:n≤64) (h3:0≤wd) (h4:wd<n):kG (vt n wd b):=by
 refine ⟨⟨show (0:Int)≤2 by decide,show (2:Int)<16 by decide⟩,⟨h1,h2⟩,⟨h3,h4⟩,rfl,rfl,fun _=>rfl,by cases b<;>exact Nat.le_of_ble_eq_true rfl,fun e he=>?_,fun e he=>?_⟩
 ·cases b with
  |false=>cases he
  |true=>rw [List.mem_singleton.1 he];exact Nb
 ·cases b with
  |false=>cases he
  |true=>rw [List.mem_singleton.1 he];decide
theorem Fj {lo:Nat} {w:World} {n wd:Int} {b:Bool} {A:Option Addr} {c:Nat} {ys:List dm} (h:gX lo w (.slice A ys.length c) ys) (he:ys.map (·.e)=(vt n wd b).aS):kF w w.heap.size ⟨vt n wd b,A,c,ys⟩:=by
 refine ⟨he.symm,rfl,rfl,⟨aB.dZ h.row,fun x hx=>?_⟩⟩;have h0:x.e=zA:=by
  have hm:x.e∈(vt n wd b).aS:=by rw [←he];exact List.mem_map_of_mem hx
  cases b with
  |false=>cases hm
  |true=>exact List.mem_singleton.1 hm
 have hz:x.e.z=z0:=by rw [h0];rfl
 refine ⟨?_,?_,?_,?_⟩
 ·have hl:=h.au x hx;rcases hl with hl|⟨b2,off,e1,_,h2,h3⟩
  ·exact .inl (by rw [List.length_map];exact hl)
  ·refine .inr ⟨b2,off,e1,h2,fun j u hu=>?_⟩;rw [List.getElem?_map] at hu;cases hj:x.e.z.cal.au[j]? with
   |none=>rw [hj] at hu;cases hu
   |some m=>
    rw [hj] at hu;injection hu with hu;rw [h3 j (iU.1 hj).1,hj,←hu];rfl
 ·rw [hz];exact .inl rfl
 ·rw [hz];exact .inl rfl
 ·rw [hz];exact .inl rfl
theorem RD (w:World):Calls Tryz.prog 36 #[] w (SimP w):=by
 go_enter Tryz.func36,Tryz.ntmps36;have h1:AV w.heap.size 51 iQ (w.alloc (.cells iQ 51)):=AV.new w _ _;have h2:=h1.below (ag _ (.cells #[I 3] 3));have h3:AV (w.heap.size+1) 3 #[I 3] ((w.alloc (.cells iQ 51)).alloc (.cells #[I 3] 3)):=⟨heap_alloc2_new w _ _⟩;have H2:=ae h2;have H3:=ae h3;clear h1 h2 h3;go_wp2_with (first
  |((with_reducible refine bn 51 ?_);go_must (refine dh rfl _ rfl iQ (by kernel_rfl) ?_))
  |((with_reducible refine dO 51 ?_);go_must (refine wpList_store_row rfl _ _ _ rfl w.heap.size (aj z0 (zs0 (w.heap.size+1))) rfl rfl 51 iQ H2.out.var (by kernel_rfl) rfl (by kernel_rfl) ?_)))
 refine bodyPost_ret (v:= .agg (aj z0 (zs0 (w.heap.size+1)))) (results_cell_row rfl _ _ w.heap.size _ (aj z0 (zs0 (w.heap.size+1))) (0,0) _ rfl (setRow_heap _ _ _ _ _ _ H2.out.var) Tryz.underlying51 rfl (by kernel_rfl)) rfl ?_;exact ⟨w.heap.size+1,Nat.le_succ _,rfl,(setRow_other _ _ _ _ (by omega)).trans H3.out.var,aC (ah (ag w _) (ag _ _)) (Nat.le_refl _) _⟩
theorem OJ (n wd:Int) (w:World):Calls Tryz.prog 15 #[I n,I wd, .bool false] w (VerP w n wd false):=by
 obtain ⟨T,hT⟩:∃T,vt n wd false=T:=⟨_,rfl⟩;have YP:T.prev.length=32:=by rw [←hT];rfl
 have hTm:T.bK.length=32:=by rw [←hT];rfl
 have HT:=ae hT;have H1:Hid (AV w.heap.size 32 (ai bQ (.slice none 0 0)) (((w.alloc (.cells (ai bQ (.slice none 0 0)) 32)).alloc (.cells (ai bQ (.slice none 0 0)) 32)).setRow (w.heap.size+1) (ai T (.slice none 0 0)))):=ae ⟨(setRow_other _ _ _ _ (by omega)).trans (heap_alloc2_old w _ _)⟩;have H2:Hid (AV (w.heap.size+1) 32 (ai T (.slice none 0 0)) (((w.alloc (.cells (ai bQ (.slice none 0 0)) 32)).alloc (.cells (ai bQ (.slice none 0 0)) 32)).setRow (w.heap.size+1) (ai T (.slice none 0 0)))):=ae ⟨setRow_heap _ _ _ _ _ _ (heap_alloc2_new w _ _)⟩;have HB1:Hid (Below w.heap.size w (((w.alloc (.cells (ai bQ (.slice none 0 0)) 32)).alloc (.cells (ai bQ (.slice none 0 0)) 32)).setRow (w.heap.size+1) (ai T (.slice none 0 0)))):=ae (aC (ah (ag w _) (ag _ _)) (Nat.le_succ _) _);have dM:Hid (∀v,(Tryz.prog.info? 32).map (·.size)=some (ai T v).size):=ae fun v=>cu _ v YP hTm;have zF:Hid (∀v,(ai bQ (.slice none 0 0)).size=(ai T v).size):=ae fun v=>(bG bQ _ rfl rfl).trans (bG T v YP hTm).symm;clear hT YP hTm;go_enter Tryz.func15,Tryz.ntmps15;go_upto_region 2 with (first
  |((with_reducible refine bn 32 ?_);go_must (refine aG rfl _ rfl (ai bQ (.slice none 0 0)) fF ?_))
  |((with_reducible refine iI 32 ?_);go_must (refine bY rfl _ rfl (ai T (.slice none 0 0)) (by rw [←HT.out];kernel_rfl) ?_))
  |((with_reducible refine dO 32 ?_);go_must (refine wpList_store_row rfl _ _ _ rfl (w.heap.size+1) (ai T (.slice none 0 0)) (congrArg (fun b=>Value.pointer (some ⟨b,0,none⟩)) (nY w _)) rfl 32 (ai bQ (.slice none 0 0)) (heap_alloc2_new w _ _) (dM.out _) (zF.out _) (bf _ _ _ _) ?_)))
 generalize ((w.alloc (.cells (ai bQ (.slice none 0 0)) 32)).alloc (.cells (ai bQ (.slice none 0 0)) 32)).setRow (w.heap.size+1) (ai T (.slice none 0 0))=W1 at H1 H2 HB1 ⊢;have hw1:=H2.out.lt;refine ax ?_
 (try rw [nY w])
 go_wp2_with (first
  |((with_reducible refine fO 32 ?_);go_must (refine aW rfl _ _ rfl (w.heap.size+1) rfl (ai T (.slice none 0 0)) H2.out.jK _ Tryz.underlying32 rfl (dM.out _) ?_))
  |((with_reducible refine dO 32 ?_);go_must (refine wpList_store_row rfl _ _ _ rfl w.heap.size (ai T (.slice none 0 0)) rfl rfl 32 (ai bQ (.slice none 0 0)) H1.out.var (dM.out _) (zF.out _) (bf _ _ _ _) ?_)))
 refine bodyPost_ret (v:= .agg (ai T (.slice none 0 0))) (results_cell_row rfl _ _ w.heap.size _ (ai T (.slice none 0 0)) (0,0) _ rfl (setRow_heap _ _ _ _ _ _ H1.out.var) Tryz.underlying32 rfl (dM.out _)) rfl ?_;exact ⟨none,0,[],by rw [HT.out];rfl,VO _ _,rfl,aC HB1.out (Nat.le_refl _) _⟩
theorem Ed (n wd:Int) (w:World):Calls Tryz.prog 15 #[I n,I wd, .bool true] w (VerP w n wd true):=by
 obtain ⟨T,hT⟩:∃T,vt n wd false=T:=⟨_,rfl⟩;have YP:T.prev.length=32:=by rw [←hT];rfl
 have hTm:T.bK.length=32:=by rw [←hT];rfl
 have HT:=ae hT;have H1:Hid (AV w.heap.size 32 (ai bQ (.slice none 0 0)) (((w.alloc (.cells (ai bQ (.slice none 0 0)) 32)).alloc (.cells (ai bQ (.slice none 0 0)) 32)).setRow (w.heap.size+1) (ai T (.slice none 0 0)))):=ae ⟨(setRow_other _ _ _ _ (by omega)).trans (heap_alloc2_old w _ _)⟩;have H2:Hid (AV (w.heap.size+1) 32 (ai T (.slice none 0 0)) (((w.alloc (.cells (ai bQ (.slice none 0 0)) 32)).alloc (.cells (ai bQ (.slice none 0 0)) 32)).setRow (w.heap.size+1) (ai T (.slice none 0 0)))):=ae ⟨setRow_heap _ _ _ _ _ _ (heap_alloc2_new w _ _)⟩;have HB1:Hid (Below w.heap.size w (((w.alloc (.cells (ai bQ (.slice none 0 0)) 32)).alloc (.cells (ai bQ (.slice none 0 0)) 32)).setRow (w.heap.size+1) (ai T (.slice none 0 0)))):=ae (aC (ah (ag w _) (ag _ _)) (Nat.le_succ _) _);have dM:Hid (∀v,(Tryz.prog.info? 32).map (·.size)=some (ai T v).size):=ae fun v=>cu _ v YP hTm;have zF:Hid (∀v,(ai bQ (.slice none 0 0)).size=(ai T v).size):=ae fun v=>(bG bQ _ rfl rfl).trans (bG T v YP hTm).symm;clear hT YP hTm;go_enter Tryz.func15,Tryz.ntmps15;go_upto_region 2 with (first
  |((with_reducible refine bn 32 ?_);go_must (refine aG rfl _ rfl (ai bQ (.slice none 0 0)) fF ?_))
  |((with_reducible refine iI 32 ?_);go_must (refine bY rfl _ rfl (ai T (.slice none 0 0)) (by rw [←HT.out];kernel_rfl) ?_))
  |((with_reducible refine dO 32 ?_);go_must (refine wpList_store_row rfl _ _ _ rfl (w.heap.size+1) (ai T (.slice none 0 0)) (congrArg (fun b=>Value.pointer (some ⟨b,0,none⟩)) (nY w _)) rfl 32 (ai bQ (.slice none 0 0)) (heap_alloc2_new w _ _) (dM.out _) (zF.out _) (bf _ _ _ _) ?_)))
 generalize ((w.alloc (.cells (ai bQ (.slice none 0 0)) 32)).alloc (.cells (ai bQ (.slice none 0 0)) 32)).setRow (w.heap.size+1) (ai T (.slice none 0 0))=W1 at H1 H2 HB1 ⊢;have hw1:=H2.out.lt;refine ax ?_
 (try rw [nY w])
 go_wp2_with fail;refine (RD W1).mono ?_;rintro e w2 ⟨mb,hmb,rfl,hm2,hb2⟩;rw [show aj z0 (zs0 mb)= #[I 0, .slice (some ⟨mb,0,none⟩) 1 1,I (-1), .slice none 0 0,I 60, .slice none 0 0,I 0, .slice none 0 0] from rfl];have h1:=H1.out.below hb2;have h2:=H2.out.below hb2;have HB2:=ae (ah HB1.out hb2);have hl2:W1.heap.size≤w2.heap.size:=hb2.size;have hml:mb<w2.heap.size:=(aZ.1 hm2).1;have hbv:=ag w2 (.cells #[.string ⟨#[97]⟩,I 0, .slice (some ⟨mb,0,none⟩) 1 1,I (-1), .slice none 0 0,I 60, .slice none 0 0,I 0, .slice none 0 0] 55);have h1':=(h1.below hbv).far (g:=w.heap.size+1) (by omega) 3 (.slice (some ⟨w2.heap.size,0,none⟩) 1 1);have h2':=(h2.below hbv).put 3 (.slice (some ⟨w2.heap.size,0,none⟩) 1 1);rw [kP] at h2';have c3:(w2.alloc (.cells #[.string ⟨#[97]⟩,I 0, .slice (some ⟨mb,0,none⟩) 1 1,I (-1), .slice none 0 0,I 60, .slice none 0 0,I 0, .slice none 0 0] 55)).cell? ⟨w.heap.size+1,3,none⟩=some (.slice none 0 0):=((h2.below hbv).cell 3).trans (bH _ _);have f3:(w2.alloc (.cells #[.string ⟨#[97]⟩,I 0, .slice (some ⟨mb,0,none⟩) 1 1,I (-1), .slice none 0 0,I 60, .slice none 0 0,I 0, .slice none 0 0] 55)).frozen? ⟨w.heap.size+1,3,none⟩=false:=(h2.below hbv).gm 3;have HO:Hid (gX (w.heap.size+1) ((w2.alloc (.cells #[.string ⟨#[97]⟩,I 0, .slice (some ⟨mb,0,none⟩) 1 1,I (-1), .slice none 0 0,I 60, .slice none 0 0,I 0, .slice none 0 0] 55)).setCell ⟨w.heap.size+1,3,none⟩ (.slice (some ⟨w2.heap.size,0,none⟩) 1 1)) (.slice (some ⟨w2.heap.size,0,none⟩) 1 1) [⟨zA,zs0 mb⟩]):=ae (VP ((heap_setCell_other _ ⟨w.heap.size+1,3,none⟩ _ _ (by show w2.heap.size≠w.heap.size+1;omega)).trans (heap_alloc_last w2 _)) (by omega) ((heap_setCell_other _ ⟨w.heap.size+1,3,none⟩ _ _ (by show mb≠w.heap.size+1;omega)).trans ((hbv.block _ hml).trans hm2)) (by omega));have HB3:Hid (Below w.heap.size w ((w2.alloc (.cells #[.string ⟨#[97]⟩,I 0, .slice (some ⟨mb,0,none⟩) 1 1,I (-1), .slice none 0 0,I 60, .slice none 0 0,I 0, .slice none 0 0] 55)).setCell ⟨w.heap.size+1,3,none⟩ (.slice (some ⟨w2.heap.size,0,none⟩) 1 1))):=ae ((ah HB2.out hbv).setCell (p:=⟨w.heap.size+1,3,none⟩) (show w.heap.size≤w.heap.size+1 by omega) _);clear H1 H2 h1 h2 hm2 hb2 HB1 hbv;have H1:=ae h1';have H2:=ae h2';clear h1' h2';go_wp2_with (first
  |((with_reducible refine fO 32 ?_);go_must (refine aW rfl _ _ rfl (w.heap.size+1) rfl (ai T (.slice (some ⟨w2.heap.size,0,none⟩) 1 1)) H2.out.jK _ Tryz.underlying32 rfl (dM.out _) ?_))
  |((with_reducible refine dO 32 ?_);go_must (refine wpList_store_row rfl _ _ _ rfl w.heap.size (ai T (.slice (some ⟨w2.heap.size,0,none⟩) 1 1)) rfl rfl 32 (ai bQ (.slice none 0 0)) H1.out.var (dM.out _) (zF.out _) (bf _ _ _ _) ?_)))
 refine bodyPost_ret (v:= .agg (ai T (.slice (some ⟨w2.heap.size,0,none⟩) 1 1))) (results_cell_row rfl _ _ w.heap.size _ (ai T (.slice (some ⟨w2.heap.size,0,none⟩) 1 1)) (0,0) _ rfl (setRow_heap _ _ _ _ _ _ H1.out.var) Tryz.underlying32 rfl (dM.out _)) rfl ?_;exact ⟨some ⟨w2.heap.size,0,none⟩,1,[⟨zA,zs0 mb⟩],by rw [←HT.out];rfl,(HO.out.aQ (by simp [World.setRow]) fun k h1 h2=>setRow_other _ _ k _ (by omega)).lower (Nat.le_succ _),rfl,aC HB3.out (Nat.le_refl _) _⟩
attribute [local go_sem] jY jZ ku bH
theorem qN (k:Nat):Builtin.zeroCells (Value.cells (.int .u8 0)) k=(List.replicate k (Value.int .u8 0)).toArray:=by
 apply Array.ext
 ·simp [Builtin.zeroCells,Value.cells]
 ·intro i h1 h2;have e:i%1=0:=Nat.mod_one i;simp [Builtin.zeroCells,Value.cells,e]
theorem CZ (w:World) (ty:TypeId) (lo n c k:Nat) (A:Option Addr) (bs:List UInt8) (hown:nJ lo w A n c bs) (h0:0<n) (hk:0<k) (hn:n+k≤1000000) (hbase:lo≤w.heap.size):
  ∃A' c' w',(Builtin.append_ #[22,3] ty #[.slice A n c, .int .i64 (k:Int)]).run Tryz.prog w= .ok (.slice A' (n+k) c') w'∧nJ lo w' A' (n+k) c' (bs++List.replicate k 0)∧tC (.slice A n c) w (.slice A' (n+k) c') w':=by
 obtain ⟨i0,hi,hz0,hz1,hz2⟩:=info_parts mf;have hl:bs.length=n:=by have:=hown.1;rw [List.length_map] at this;omega
 rcases hown.2 with ⟨_,h⟩|⟨g,cap,cur,hv,hg,hh,hnc,hcm,hcs,htk⟩
 ·omega
 injection hv with hA _ hC;subst hA hC;have hcsz:cur.size=c:=by rw [hcs,Nat.mul_one]
 have hnews:(List.replicate k (Value.int .u8 0)).length=k:=List.length_replicate;have hcell:(List.replicate k (0:UInt8)).map Extern.Stop.cell=List.replicate k (Value.int .u8 0):=by rw [List.map_replicate];rfl
 by_cases hroom:n+k≤c
 ·have hst:=run_storeCells_at Tryz.prog g (n*i0.size) 5 (List.replicate k (Value.int .u8 0)) 0 cur w hh (by rw [hz1,hnews,hcsz];omega) (fun u hu=>by rw [(List.mem_replicate.1 hu).2];rfl);simp only [Nat.add_zero] at hst;have hw:IntKind.i64.wrap (k:Int)=k:=by rw [IntKind.wrap_i64];omega
  have hneg:¬((k:Int)<0):=by omega
  have hkz:¬(k*i0.size=0):=by rw [hz1];omega
  have h48:¬(281474976710656<(k:Int)*(i0.bytes:Int)):=by rw [hz2];omega
  have hrun:(Builtin.append_ #[22,3] ty #[.slice (some ⟨g,0,none⟩) n c, .int .i64 (k:Int)]).run Tryz.prog w= .ok (.slice (some ⟨g,0,none⟩) (n+k) c) (w.setRow g (cur.toList.take (n*i0.size)++List.replicate k (Value.int .u8 0)++cur.toList.drop (n*i0.size+(List.replicate k (Value.int .u8 0)).length)).toArray):=by
   simp [Builtin.append_,run_underlying Tryz.underlying22,run_underlying Tryz.underlying3,sizeOf,typeInfo,zeroValue,hi,hz0,asInt,asIntOf,hw,hneg,hkz,h48,hroom,qN,Addr.add_lit,hst]
  rw [hz1,Nat.mul_one,hnews] at hrun;rw [Nat.mul_one] at htk;refine ⟨_,_,_,hrun,⟨by rw [List.length_map,bJ,List.length_replicate,hl,Nat.mul_one], .inr ⟨g,c,_,rfl,hg,setRow_heap w g cur _ _ _ hh,hroom,hcm,?_,?_⟩⟩,⟨rfl,rfl,rfl,by simp [World.setRow],fun b _ hb=>setRow_other w g b _ (fun e=>hb (by rw [e];rfl)), .inl rfl⟩⟩
  ·simp only [List.size_toArray,bJ,List.length_take,List.length_drop,List.length_replicate,Array.length_toList];omega
  ·rw [htk,Nat.mul_one,List.map_append,hcell,List.append_assoc,←List.append_assoc];exact List.take_left' (by rw [bJ,List.length_map,List.length_replicate,hl])
 ·have holds:∀j u,(bs.map Extern.Stop.cell)[j]? =some u→w.drew.cell? ((⟨g,0,none⟩:Addr).add j)=some u:=World.ownsRow.cells hown (g:=g) rfl;have hf:=run_firstCells_some (P:=Tryz.prog) w.drew i0.size n ⟨g,0,none⟩ n c (bs.map Extern.Stop.cell) (by rw [List.length_map,hl,hz1,Nat.mul_one]) holds;have hrun:=Lib.run_append_grow_zeros (P:=Tryz.prog) w 22 3 ty 5 i0 (.int .u8 0) .i64 .i64 Tryz.underlying22 Tryz.underlying3 hi hz0 (some ⟨g,0,none⟩) n c (bs.map Extern.Stop.cell) hf k hk (by rw [hz1];omega) (by omega) (by omega) (by rw [hz2];omega) (growslice_fits (by omega) (by rw [hz2];omega));have hge:=grownCap_ge w (n+k) c 5;have hcm2:=grownCap_le_maxLen w (n+k) c 5 (by unfold maxLen;omega);refine ⟨_,_,_,hrun,⟨by rw [List.length_map,bJ,List.length_replicate,hl,Nat.mul_one], .inr ⟨w.heap.size,_,_,rfl,hbase,heap_alloc_new w.drew _,hge,hcm2,?_,?_⟩⟩,⟨rfl,rfl,rfl,by simp,fun b hb _=>heap_alloc_old w.drew _ hb, .inr ⟨w.heap.size,rfl,Nat.le_refl _⟩⟩⟩
  ·simp only [qN,Array.size_append,List.size_toArray,List.length_map,List.length_replicate,hl];omega
  ·rw [qN,qN];simp only [Array.toList_append,List.map_append,hcell];exact List.take_left' (by rw [bJ,List.length_map,List.length_replicate,hl,Nat.mul_one])
theorem qj {ops:Array Oper} {rest:List Oper} {o:Oper} {a:Act} {Q:Exit→Act→World→Prop} {w:World} (hgd:o.guard=none) (sl x:Operand)
  (ho:o.op= .call {callee:= .builtin .append,args:= #[sl,x],argTypes:= #[22,3]}) (lo n c k:Nat) (A:Option Addr) (bs:List UInt8) (hs:a.eval sl= .slice A n c) (hx:a.eval x= .int .i64 (k:Int)) (hown:nJ lo w A n c bs)
  (h0:0<n) (hk:0<k) (hn:n+k≤1000000) (hbase:lo≤w.heap.size)
  (h:∀A' c' w',nJ lo w' A' (n+k) c' (bs++List.replicate k 0)→tC (.slice A n c) w (.slice A' (n+k) c') w'→wpList Tryz.prog ops Q rest (a.put o.dst (.slice A' (n+k) c')) w'):wpList Tryz.prog ops Q (o::rest) a w:=by
 obtain ⟨A',c',w',hr,h1,h2⟩:=CZ w o.type lo n c k A bs hown h0 hk hn hbase;exact Lib.wpList_append_run w hgd sl x _ _ ho _ _ hs hx _ _ hr (h A' c' w' h1 h2)
theorem C9 (A A2:Option Addr) (n c c2:Nat) (bs:List UInt8) (w:World) (hl:bs.length=n) (hn:n≤1000000) (h1:aB w w.heap.size A (bs.map Extern.Stop.cell)) (h2:aB w w.heap.size A2 (bs.map Extern.Stop.cell)):
  Calls Tryz.prog 8 #[.slice A n c, .slice A2 n c2] w (Gives (.bool true) w):=by
 have H1:=ae h1;have H2:=ae h2;have HL:=ae hl;clear h1 h2 hl;go_enter Tryz.func8,Tryz.ntmps8;go_wp2_with fail
 go_loopw [5] (fun i wr=>∃k:Nat,k≤n∧i=I k∧∃m,wr=w.drewN m) (fun i _=>n - (intOf i).toNat)
 case atStart=>exact ⟨0,Nat.zero_le _,rfl,0,rfl⟩
 case round=>
  obtain ⟨k,hk,rfl,m,rfl⟩:=hrel;by_cases hlt:(k:Int)<(n:Int)
  ·have hk2:k<n:=by omega
   obtain ⟨b,off,rfl,hb,hc⟩:=H1.out.there (by rw [List.length_map,HL.out];omega);obtain ⟨b2,zf,rfl,hb2,hc2⟩:=H2.out.there (by rw [List.length_map,HL.out];omega);obtain ⟨x,hx⟩:∃x,bs[k]? =some x:=⟨_,dE (by rw [HL.out];exact hk2)⟩;have e1:w.cell? ⟨b,off+k,none⟩=some (.int .u8 (x.toNat:Int)):=hc k _ (by rw [List.getElem?_map,hx];rfl);have e2:w.cell? ⟨b2,zf+k,none⟩=some (.int .u8 (x.toNat:Int)):=hc2 k _ (by rw [List.getElem?_map,hx];rfl);clear hc hc2 hx;go_wp2_with fail;go_quiet (fail);go_wp2_with fail;go_roundw
   case rel=>exact ⟨k+1,by omega,by go_num,_,rfl⟩
   case measure=>simp [intOf];omega
  ·go_wp2_with fail;go_ret;exact ⟨rfl,rfl,rfl,rfl,Nat.le_refl _,fun _ _=>rfl⟩
theorem KH (A:Option Addr) (n c:Nat) (w:World) (hn:n≤4):Calls Tryz.prog 18 #[.slice A n c,I 5] w (Gives (.tuple #[.agg (ai bQ (.slice none 0 0)), .int .i64 4]) w):=by
 have HW0:=ae (AV.new w (ai bQ (.slice none 0 0)) 32);have HB0:=ae (ag w (.cells (ai bQ (.slice none 0 0)) 32));have I4:Hid ((Tryz.prog.info? 32).map (·.size)=some (ai bQ (.slice none 0 0)).size):=ae (cu bQ _ rfl rfl);have i1:(n:Int)<5:=by omega
 go_enter Tryz.func18,Tryz.ntmps18;go_wp2_with (first
  |((with_reducible refine bn 32 ?_);go_must (refine aG rfl _ rfl (ai bQ (.slice none 0 0)) fF ?_))
  |((with_reducible refine iI 32 ?_);go_must (refine bY rfl _ rfl (ai bQ (.slice none 0 0)) (by kernel_rfl) ?_))
  |((with_reducible refine dO 32 ?_);go_must (refine wpList_store_row rfl _ _ _ rfl w.heap.size (ai bQ (.slice none 0 0)) rfl rfl 32 (ai bQ (.slice none 0 0)) HW0.out.var I4.out rfl (bf _ _ _ _) ?_)))
 refine bodyPost_ret (v:= .tuple #[.agg (ai bQ (.slice none 0 0)),I 4]) (bF rfl _ _ w.heap.size _ (ai bQ (.slice none 0 0)) (0,0) _ rfl (setRow_heap _ _ _ _ _ _ HW0.out.var) Tryz.underlying32 rfl I4.out _ rfl) rfl ?_;exact ⟨rfl,aC HB0.out (Nat.le_refl _) _⟩
theorem Sr (t:Tb) (A:Option Addr) (n c:Nat) (w:World) (hi:0≤t.bz∧t.bz<16) (hv:t.version<1):Calls Tryz.prog 19 #[.agg (ai t (.slice A n c))] w (Gives (.int .i64 1) w):=by
 obtain ⟨is,his⟩:∃i,t.bz=i:=⟨_,rfl⟩;obtain ⟨ve,Zi⟩:∃i,t.version=i:=⟨_,rfl⟩;have HA:=ae (AV.new w (ai t (.slice A n c)) 32);have c0:(w.alloc (.cells (ai t (.slice A n c)) 32)).cell? ⟨w.heap.size,0,none⟩=some (I is):=(HA.out.cell 0).trans (by rw [←his];rfl);have c1:(w.alloc (.cells (ai t (.slice A n c)) 32)).cell? ⟨w.heap.size,1,none⟩=some (I ve):=(HA.out.cell 1).trans (by rw [←Zi];rfl);rw [his] at hi;rw [Zi] at hv;obtain ⟨i0,i1⟩:=hi;have i2:¬is<0:=by omega
 have i3:¬(16:Int)≤is:=by omega
 have HB:=ae (ag w (.cells (ai t (.slice A n c)) 32));clear his Zi;go_enter Tryz.func19,Tryz.ntmps19;go_wp2_with fail;go_ret;exact ⟨rfl,HB.out⟩
def og (ts:List eF):Int:=if (uM ts).2=false then -1 else if (uM ts).1<0 then -4 else ((ts[(uM ts).1.toNat]?).map (·.t.version)).getD 0
theorem tJ (A:Option Addr) (c n:Nat) (ts:List eF) (w:World) (hn:ts.length=n) (hn1:n≤1000) (hl:xZ ts) (h:jR w w.heap.size A ts) (hp:∀x∈ts,x.t.prev.length=32∧x.t.bK.length=32):
  Calls Tryz.prog 16 #[.slice A n c] w (Gives (.int .i64 (og ts)) w):=by
 have HC:=ae (JX A c n ts w hn hn1 hl h);have SY:=ae hp;obtain ⟨F,hF⟩:∃F,og ts=F:=⟨_,rfl⟩;rw [hF];have HF:=ae hF;clear hn hl h hp hF;go_enter Tryz.func16,Tryz.ntmps16;go_wp2_with fail;refine HC.out.mono ?_;rintro e w2 ⟨hb2,p,b,hpb,⟨rfl,rfl⟩|⟨rfl,hp0,rfl⟩|⟨rfl,i,x,y,rfl,hx,hy,_,rfl,hO⟩⟩
 ·have HE:Hid (F= -1):=ae (by rw [←HF.out];unfold og;rw [hpb];rfl);clear hpb;have ni:=ae (AV.new w2 (ai bQ (.slice none 0 0)) 32);have HB2:=ae (ah hb2 (ag w2 (.cells (ai bQ (.slice none 0 0)) 32)));have HW:=ae hb2.size;clear hb2;rw [jO];go_wp2_with (first
   |((with_reducible refine bn 32 ?_);go_must (refine aG rfl _ rfl (ai bQ (.slice none 0 0)) fF ?_))
   |((with_reducible refine dO 32 ?_);go_must (refine wpList_store_row rfl _ _ _ rfl w2.heap.size (ai bQ (.slice none 0 0)) rfl rfl 32 (ai bQ (.slice none 0 0)) ni.out.var (cu bQ _ rfl rfl) rfl (bf _ _ _ _) ?_)))
  go_ret;exact ⟨by rw [HE.out];rfl,aC HB2.out HW.out _⟩
 ·have HE:Hid (F= -4):=ae (by rw [←HF.out];unfold og;rw [hpb];simp [hp0]);clear hpb hp0;have ni:=ae (AV.new w2 (ai bQ (.slice none 0 0)) 32);have HB2:=ae (ah hb2 (ag w2 (.cells (ai bQ (.slice none 0 0)) 32)));have HW:=ae hb2.size;clear hb2;rw [jO];go_wp2_with (first
   |((with_reducible refine bn 32 ?_);go_must (refine aG rfl _ rfl (ai bQ (.slice none 0 0)) fF ?_))
   |((with_reducible refine dO 32 ?_);go_must (refine wpList_store_row rfl _ _ _ rfl w2.heap.size (ai bQ (.slice none 0 0)) rfl rfl 32 (ai bQ (.slice none 0 0)) ni.out.var (cu bQ _ rfl rfl) rfl (bf _ _ _ _) ?_)))
  go_ret;exact ⟨by rw [HE.out];rfl,aC HB2.out HW.out _⟩
 ·have HE:Hid (F=x.t.version):=ae (by rw [←HF.out];unfold og;rw [hpb];simp [hx];intro h;omega);have hq:=SY.out x (fK hx);obtain ⟨T,hT⟩:∃T,y.t=T:=⟨_,rfl⟩;have hTx:T=x.t:=hT.symm.trans hy;rw [hT];have dM:Hid ((Tryz.prog.info? 32).map (·.size)=some (ai T (.slice y.A y.zs.length y.c)).size):=ae (cu T _ (by rw [hTx];exact hq.1) (by rw [hTx];exact hq.2));have zF:Hid ((ai bQ (.slice none 0 0)).size=(ai T (.slice y.A y.zs.length y.c)).size):=ae ((bG bQ _ rfl rfl).trans (bG T _ (by rw [hTx];exact hq.1) (by rw [hTx];exact hq.2)).symm);obtain ⟨ve,Zi⟩:∃v,T.version=v:=⟨_,rfl⟩;have HVE:Hid (F=ve):=ae (by rw [HE.out,←Zi,hTx]);have ni:=ae ((AV.new w2 (ai bQ (.slice none 0 0)) 32));have HB2:=ae (aC (ah hb2 (ag w2 (.cells (ai bQ (.slice none 0 0)) 32))) hb2.size (ai T (.slice y.A y.zs.length y.c)));have vH:=ae (ni.out.lq (ai T (.slice y.A y.zs.length y.c)));have c1:((w2.alloc (.cells (ai bQ (.slice none 0 0)) 32)).setRow w2.heap.size (ai T (.slice y.A y.zs.length y.c))).cell? ⟨w2.heap.size,1,none⟩=some (I ve):=(vH.out.cell 1).trans (by rw [←Zi];rfl);clear hb2 hpb hx hy hO hq hT hTx Zi;go_wp2_with (first
   |((with_reducible refine bn 32 ?_);go_must (refine aG rfl _ rfl (ai bQ (.slice none 0 0)) fF ?_))
   |((with_reducible refine dO 32 ?_);go_must (refine wpList_store_row rfl _ _ _ rfl w2.heap.size (ai T (.slice y.A y.zs.length y.c)) rfl rfl 32 (ai bQ (.slice none 0 0)) ni.out.var dM.out zF.out (bf _ _ _ _) ?_)))
  go_ret;exact ⟨by rw [HVE.out];rfl,HB2.out⟩
end Go.Proofs.YtdibbemgpikgjaaGreat
namespace Go.Proofs.YtdibbemgpikgjaaGreat
open Go Go.RowKit
attribute [local go_sem] jY jZ ku bH
section
variable {P:Program} {ops:Array Oper} {a:Act} {w:World} {rest:List Oper} {o:Oper}
theorem oz {Q:Act→Prop} (hw:Region.wanted o (yielded ops a.tmps)=true) (ty:TypeId) (x:Operand) (ho:o.op= .load ty x) (g off:Nat) (hx:a.eval x= .pointer (some ⟨g,off,none⟩)) (cs:List Value) (hr:w.rangeAt g off cs)
  (d:TypeDesc) (hu:P.underlying ty=some d) (hd:d.isRow=true) (hi:(P.info? ty).map (·.size)=some cs.length)
  (h:wpStill P ops w Q rest (a.put o.dst (.agg cs.toArray))):wpStill P ops w Q (o::rest) a:=by
 refine wpStill_step fun K hK=>?_;rw [if_pos hw];unfold Oper.still execOp;simp only [ho,hx,Instr.loadAt,Instr.sureAddr,Sem.run_bind,Sem.run_pure,Result.andThen_ok,run_loadVar_mid w g off ty cs d hr hu hd hi];exact ⟨rfl,hK _ h⟩
end
theorem DY (r:List UInt8) (h:r.length=32) (W:World):(binOp .neq 24 (.agg (az r).toArray) (.agg (az r).toArray)).run Tryz.prog W= .ok (.bool false) W:=by
 unfold az;rw [run_neq_struct,Go.Proofs.YtdibbemgpikgjaaGreat.nM W r h];simp [Result.andThen]
theorem Nj (x:dm):∀j u,(aj x.e.z x.s).toList[j]? =some u→x.cells.toList[1+j]? =some u:=fun j u hu=>by
 rw [Nat.add_comm];exact hu
theorem Rz (t:Tb) (A1 A2:Option Addr) (c1 c2 n:Nat) (ZP ys2:List dm) (zs:List Ze) (w:World) (hp:t.prev.length=32) (hm:t.bK.length=32) (h1:ZP.map (·.e)=zs) (h2:ys2.map (·.e)=zs) (hn:zs.length=n) (hn1:n≤1000) (hl:∀e∈zs,oQ e.z) (m1:nX w w.heap.size A1 ZP) (m2:nX w w.heap.size A2 ys2):
  Calls Tryz.prog 10 #[.agg (ai t (.slice A1 n c1)), .agg (ai t (.slice A2 n c2))] w (Gives (.bool true) w):=by
 have HV:=ae (oK.start w 32 (ai t (.slice A1 n c1)) (ai t (.slice A2 n c2)));have l1:ZP.length=n:=by rw [←hn,←h1,List.length_map]
 have l2:ys2.length=n:=by rw [←hn,←h2,List.length_map]
 obtain ⟨W0,hW0⟩:∃W0,(w.alloc (.cells (ai t (.slice A1 n c1)) 32)).alloc (.cells (ai t (.slice A2 n c2)) 32)=W0:=⟨_,rfl⟩;rw [hW0] at HV;have HW0:=ae hW0;have Nu:=ae l1;have HL2:=ae l2;have Em:=ae h1;have HE2:=ae h2;have IY:=ae m1;have XL:=ae m2;have PE:=ae hl;have nq1:=DY t.prev hp;have nq2:=DY t.bK hm;have mY:=ae (pg t _ HV.out.a);have HP2:=ae (pg t _ HV.out.b);have oG:=ae (Ku t _ HV.out.a hp);have lL:=ae (Ku t _ HV.out.b hp);have SL:Hid ((Tryz.prog.info? 24).map (·.size)=some (az t.prev).length):=ae (by simp only [az,List.length_map,hp];kernel_rfl);have H33:Hid ((Tryz.prog.info? 24).map (·.size)=some (az t.bK).length):=ae (by simp only [az,List.length_map,hm];kernel_rfl);have p0:=HV.out.a.2;have p1:=HV.out.b.2;clear hn h1 h2 m1 m2 hl hp hm l1 l2 hW0;go_enter Tryz.func10,Tryz.ntmps10;go_upto_region 1 with fail;rw [HW0.out];go_wp2_with (first
  |((with_reducible refine dI 24 ?_);go_must (first
    |(refine bC rfl _ _ rfl w.heap.size 4 rfl (az t.prev) mY.out _ Tryz.underlying24 rfl SL.out ?_)
    |(refine bC rfl _ _ rfl (w.heap.size+1) 4 rfl (az t.prev) HP2.out _ Tryz.underlying24 rfl SL.out ?_)
    |(refine bC rfl _ _ rfl w.heap.size 36 rfl (az t.bK) oG.out _ Tryz.underlying24 rfl H33.out ?_)
    |(refine bC rfl _ _ rfl (w.heap.size+1) 36 rfl (az t.bK) lL.out _ Tryz.underlying24 rfl H33.out ?_))))
 go_loopw [5] (fun i wr=>Ah w 32 (ai t (.slice A1 n c1)) (ai t (.slice A2 n c2)) n i wr) (fun i _=>n - (intOf i).toNat)
 case atStart=>exact ⟨0,Nat.zero_le _,rfl,HV.out⟩
 case round=>
  clear p0 p1 nq1 nq2;obtain ⟨k,hk,rfl,hv⟩:=hrel;have Wu:=ae hv;have p3:wr.cell? ⟨w.heap.size,3,none⟩=some (.slice A1 n c1):=(hv.a.2 3).trans (bH _ _);have q3:wr.cell? ⟨w.heap.size+1,3,none⟩=some (.slice A2 n c2):=(hv.b.2 3).trans (bH _ _);clear hv;by_cases hlt:(k:Int)<(n:Int)
  ·have hk2:k<n:=by omega
   obtain ⟨x1,hx1⟩:∃x,ZP[k]? =some x:=⟨_,dE (by rw [Nu.out];exact hk2)⟩;obtain ⟨x2,hx2⟩:∃x,ys2[k]? =some x:=⟨_,dE (by rw [HL2.out];exact hk2)⟩;have he:x1.e=x2.e:=by
    have a1:zs[k]? =some x1.e:=by rw [←Em.out,List.getElem?_map,hx1];rfl
    have a2:zs[k]? =some x2.e:=by rw [←HE2.out,List.getElem?_map,hx2];rfl
    rw [a1] at a2;injection a2
   have hel:oQ x1.e.z:=PE.out _ (by rw [←Em.out];exact List.mem_map_of_mem (fK hx1));have z1:=IY.out.each x1 (fK hx1);have z2:=XL.out.each x2 (fK hx2);obtain ⟨b,off,rfl,hb,hc⟩:=IY.out.row.there (by rw [dG,Nu.out];omega);obtain ⟨b2,zf,rfl,hb2,hc2⟩:=XL.out.row.there (by rw [dG,HL2.out];omega);have r1:wr.rangeAt b (off+k*9) x1.cells.toList:=aU (aB.elem (s:=9) (f:=fun x:dm=>x.cells.toList) (fun _ _=>rfl) hc k x1 hx1) Wu.out.up hb;have r2:wr.rangeAt b2 (zf+k*9) x2.cells.toList:=aU (aB.elem (s:=9) (f:=fun x:dm=>x.cells.toList) (fun _ _=>rfl) hc2 k x2 hx2) Wu.out.up hb2;obtain ⟨nm,hnm⟩:∃s,x1.e.name=s:=⟨_,rfl⟩;have e1:wr.cell? ⟨b,off+k*9,none⟩=some (.string nm):=by rw [←hnm];exact r1 0 _ rfl
   have e2:wr.cell? ⟨b2,zf+k*9,none⟩=some (.string nm):=by rw [←hnm,he];exact r2 0 _ rfl
   have R1:Hid (wr.drew.rangeAt b (off+k*9+1) (aj x1.e.z x1.s).toList):=ae (fun j u hu=>by rw [Nat.add_assoc];exact r1 (1+j) u (Nj x1 j u hu));have R2:Hid (wr.drew.rangeAt b2 (zf+k*9+1) (aj x1.e.z x2.s).toList):=ae (fun j u hu=>by rw [he] at hu;rw [Nat.add_assoc];exact r2 (1+j) u (Nj x2 j u hu));have ZI:Hid (∀s,(Tryz.prog.info? 51).map (·.size)=some (aj x1.e.z s).toList.length):=ae (fun s=>by kernel_rfl);have HS:Hid (Calls Tryz.prog 26 #[.agg (aj x1.e.z x1.s), .agg (aj x1.e.z x2.s)] wr.drew (Gives (.bool true) wr.drew)):=ae (Dc x1.e.z x1.s x2.s _ _ wr.drew hel rfl rfl ((z1.keep (Wu.out.drew 1).up).more (Wu.out.drew 1).up.size) (by rw [he];exact (z2.keep (Wu.out.drew 1).up).more (Wu.out.drew 1).up.size));clear hx1 hx2 he hel z1 z2 hc hc2 r1 r2 hnm;go_wp2_with fail;refine wp_region_still_tail 26 (by kernel_rfl) (by kernel_rfl) ?_;simp only [List.take_succ_cons,List.take_zero,List.drop_succ_cons,List.drop_zero]
   iterate 19 still_step
   refine oz rfl _ _ rfl b (off+k*9+1) rfl (aj x1.e.z x1.s).toList R1.out _ Tryz.underlying51 rfl (ZI.out _) ?_
   iterate 5 still_step
   refine oz rfl _ _ rfl b2 (zf+k*9+1) rfl (aj x1.e.z x2.s).toList R2.out _ Tryz.underlying51 rfl (ZI.out _) ?_;refine wpStill_nil ?_;change wpList _ _ _ _ _ wr.drew;go_wp2_with fail;refine HS.out.mono ?_;rintro e w3 ⟨rfl,hb3⟩;have vH:Hid (oK w 32 (ai t (.slice (some ⟨b,off,none⟩) n c1)) (ai t (.slice (some ⟨b2,zf,none⟩) n c2)) w3):=ae ((Wu.out.drew 1).below hb3);clear hb3 e1 e2 p3 q3;go_wp2_with fail;go_roundw
   case rel=>exact ⟨k+1,by omega,by go_num,vH.out⟩
   case measure=>simp [intOf];omega
  ·go_wp2_with fail;go_ret;exact ⟨rfl,Wu.out.up⟩
end Go.Proofs.YtdibbemgpikgjaaGreat
