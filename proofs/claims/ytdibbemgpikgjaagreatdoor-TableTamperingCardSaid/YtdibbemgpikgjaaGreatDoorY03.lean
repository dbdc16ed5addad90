/- The texts TbK, TbR, TbJ, in this order. -/
import Derived.Test.YtdibbemgpikgjaaGreatDoorY00
import Derived.Test.YtdibbemgpikgjaaGreatDoorY01
import Derived.Test.YtdibbemgpikgjaaGreatDoorY02
set_option maxRecDepth 10000
set_option maxHeartbeats 8000000
namespace Go.Proofs.YtdibbemgpikgjaaGreatDoor
open Go Go.RowKit
theorem DX (c:Nat) (w:World):Calls Tryz.prog 60 #[.slice none 0 c] w fun e w'=>e= .returned (.slice none 0 0)∧w'=w:=by
 have heq:∀W,(binOp .eql 61 (.slice none 0 c) (.slice none 0 0)).run Tryz.prog W= .ok (.bool true) W:=fun W=>by simp [binOp,run_equal_slice_nil W 61 125 none 0 c Tryz.underlying61]
 go_enter Tryz.func60,Tryz.ntmps60
 go_wp2
 go_ret;exact ⟨rfl,rfl⟩
theorem BI (c:Nat) (w:World):Calls Tryz.prog 61 #[.slice none 0 c] w fun e w'=>e= .returned (.slice none 0 0)∧w'=w:=by
 have heq:∀W,(binOp .eql 64 (.slice none 0 c) (.slice none 0 0)).run Tryz.prog W= .ok (.bool true) W:=fun W=>by simp [binOp,run_equal_slice_nil W 64 127 none 0 c Tryz.underlying64]
 go_enter Tryz.func61,Tryz.ntmps61
 go_wp2
 go_ret;exact ⟨rfl,rfl⟩
theorem DY (c:Nat) (w:World):Calls Tryz.prog 62 #[.slice none 0 c] w fun e w'=>e= .returned (.slice none 0 0)∧w'=w:=by
 have heq:∀W,(binOp .eql 65 (.slice none 0 c) (.slice none 0 0)).run Tryz.prog W= .ok (.bool true) W:=fun W=>by simp [binOp,run_equal_slice_nil W 65 129 none 0 c Tryz.underlying65]
 go_enter Tryz.func62,Tryz.ntmps62
 go_wp2
 go_ret;exact ⟨rfl,rfl⟩
theorem IG (c:Nat) (w:World):Calls Tryz.prog 47 #[.slice none 0 c] w fun e w'=>e= .returned (.slice none 0 0)∧w'=w:=by
 have heq:∀W,(binOp .eql 35 (.slice none 0 c) (.slice none 0 0)).run Tryz.prog W= .ok (.bool true) W:=fun W=>by simp [binOp,run_equal_slice_nil W 35 90 none 0 c Tryz.underlying35]
 go_enter Tryz.func47,Tryz.ntmps47
 go_wp2
 go_ret;exact ⟨rfl,rfl⟩
theorem bG {w W w':World} {base e size n:Nat} {v:Value} {ys:List Value} (hb:Below base w W) (hown:W.ownsRow base e size v n ys) (hle:base≤W.heap.size) (hg:W.grownBy w' v.ownBlock):Below base w w':=
 ⟨hg.os.trans hb.os,hg.tape.trans hb.tape,hg.output.trans hb.output,Nat.le_trans hb.size hg.size,fun k hk=>(hg.block k (by omega) (eU hown k hk)).trans (hb.block k hk)⟩
theorem gm (w:World) (e size:Nat):(w.alloc (.cells #[] e)).ownsRow w.heap.size e size (.slice (some ⟨w.heap.size,0,none⟩) 0 0) 0 []:=
 ⟨by simp, .inr ⟨w.heap.size,0,#[],rfl,Nat.le_refl _,heap_alloc_last w _,Nat.le_refl _,Nat.zero_le _,by simp,by simp⟩⟩
def ClI (w:World) (zs:List Int) (n:Nat) (e:Ending) (w':World):Prop:=
 ∃g c,e= .returned (.slice (some ⟨g,0,none⟩) n c)∧w'.ownsRow w.heap.size 3 1 (.slice (some ⟨g,0,none⟩) n c) n (zs.map I)∧Below w.heap.size w w'
theorem IE (b off c:Nat) (zs:List Int) (n:Nat) (w:World) (hA:∀j,j<zs.length→w.cell? ⟨b,off+j,none⟩=some (I (zs[j]?.getD 0))) (hb:b<w.heap.size) (hl:zs.length=n) (h0:0<n) (hn:n≤10000):
  Calls Tryz.prog 59 #[.slice (some ⟨b,off,none⟩) n c] w (ClI w zs n):=by
 have HN:Hid (∀j u,(zs.map I)[j]? =some u→(w.alloc (.cells #[] 3)).cell? ((⟨b,off,none⟩:Addr).add j)=some u):=ae fun j u hu=>by
  rw [List.getElem?_map] at hu;obtain ⟨z,hz,rfl⟩:=Option.map_eq_some_iff.1 hu;have hj:j<zs.length:=(eG.1 hz).1;rw [Addr.add_mid,World.cell?_of_block (Below.heap_alloc w _ b hb),hA j hj,hz];rfl
 have HO:=ae (gm w 3 1);have HL:=ae hl;have HB:=ae (ag w (.cells #[] 3));obtain ⟨i0,hi,hz0,hz1,hz2⟩:=info_parts tZ;have HI:=ae hi;have HZ0:=ae hz0;have HZ1:=ae hz1;have HZ2:=ae hz2;have heq:∀W,(binOp .eql 60 (.slice (some ⟨b,off,none⟩) n c) (.slice none 0 0)).run Tryz.prog W= .ok (.bool false) W:=fun W=>by simp [binOp,run_equal_slice_nil W 60 3 (some ⟨b,off,none⟩) n c Tryz.underlying60]
 clear hA hl hi hz0 hz1 hz2;go_enter Tryz.func59,Tryz.ntmps59;go_wp2_with (at_builtin;refine wpList_append_own_at _ rfl _ _ 60 rfl w.heap.size 3 i0 (.int .i64 0) 1 8 Tryz.underlying60 HI.out HZ0.out HZ1.out HZ2.out rfl (by decide) _ 0 [] rfl HO.out ⟨b,off,none⟩ n c (zs.map I) rfl (by rw [List.length_map,HL.out];omega) HN.out (by intro u hu;obtain ⟨z,_,rfl⟩:=List.mem_map.1 hu;rfl) (by unfold maxLen;omega) (by omega) (by simp) ?_);intro v' w' hown hg _ _;have HB2:=ae (bG HB.out HO.out (by simp) hg);obtain ⟨g,cap,rfl,_⟩:=dE hown h0;have HOW:=ae hown;clear hown hg;go_wp2_with fail;go_ret;exact ⟨g,cap,rfl,HOW.out,HB2.out⟩
def aO (zs:List dB):List Value:=zs.flatMap fun x=>x.cells.toList
theorem dL (zs:List dB):(aO zs).length=zs.length*9:=by
 induction zs with
 |nil=>rfl
 |cons x zs ih=>unfold aO at ih ⊢;rw [List.flatMap_cons,aZ,ih,List.length_cons];show 9+zs.length*9=_;omega
theorem wJ (zs:List dB):∀u∈aO zs,u.oneCell'=true:=by
 intro u hu;unfold aO at hu;obtain ⟨x,_,hx⟩:=List.mem_flatMap.1 hu;have h:x.cells.all (·.oneCell')=true:=by kernel_rfl
 rw [Array.all_eq_true_iff_forall_mem] at h;exact h u (by simpa using hx)
theorem lq (zs:List dB) (k j:Nat) (x:dB) (hx:zs[k]? =some x) (hj:j<9):(aO zs)[k*9+j]? =x.cells[j]? :=by
 induction zs generalizing k with
 |nil=>cases hx
 |cons y zs ih=>
  unfold aO at ih ⊢;rw [List.flatMap_cons];have h9:y.cells.toList.length=9:=rfl;cases k with
  |zero=>
   injection hx with hx;subst hx;rw [Nat.zero_mul,Nat.zero_add,List.getElem?_append_left (by omega)];simp
  |succ k=>
   rw [List.getElem?_append_right (by omega),h9,show (k+1)*9+j - 9=k*9+j by omega];exact ih k hx
def jo:Array Value:= #[.string ⟨#[]⟩,I 0, .slice none 0 0,I 0, .slice none 0 0,I 0, .slice none 0 0,I 0, .slice none 0 0]
theorem xh:(Tryz.prog.info? 90).map (fun i=>(i.zero,i.size,i.bytes))=some (some (.agg jo),9,144):=by kernel_rfl
def ClZ (w:World) (zs:List dB) (n:Nat) (e:Ending) (w':World):Prop:=
 ∃g c,e= .returned (.slice (some ⟨g,0,none⟩) n c)∧w'.ownsRow w.heap.size 90 9 (.slice (some ⟨g,0,none⟩) n c) n (aO zs)∧Below w.heap.size w w'
theorem FV (b c:Nat) (zs:List dB) (n:Nat) (w:World) (hA:∀j u,(aO zs)[j]? =some u→w.cell? ⟨b,j,none⟩=some u) (hb:b<w.heap.size) (hl:zs.length=n) (h0:0<n) (hn:n≤10000):
  Calls Tryz.prog 47 #[.slice (some ⟨b,0,none⟩) n c] w (ClZ w zs n):=by
 have HN:Hid (∀j u,(aO zs)[j]? =some u→(w.alloc (.cells #[] 90)).cell? ((⟨b,0,none⟩:Addr).add j)=some u):=ae fun j u hu=>by
  rw [addr_add,World.cell?_of_block (Below.heap_alloc w _ b hb)];exact hA j u hu
 have HO:=ae (gm w 90 9);have HL:=ae (show (aO zs).length=n*9 by rw [dL,hl]);have HB:=ae (ag w (.cells #[] 90));obtain ⟨i0,hi,hz0,hz1,hz2⟩:=info_parts xh;have HI:=ae hi;have HZ0:=ae hz0;have HZ1:=ae hz1;have HZ2:=ae hz2;have heq:∀W,(binOp .eql 35 (.slice (some ⟨b,0,none⟩) n c) (.slice none 0 0)).run Tryz.prog W= .ok (.bool false) W:=fun W=>by simp [binOp,run_equal_slice_nil W 35 90 (some ⟨b,0,none⟩) n c Tryz.underlying35]
 clear hA hl hi hz0 hz1 hz2;go_enter Tryz.func47,Tryz.ntmps47;go_wp2_with (at_builtin;refine wpList_append_own_at _ rfl _ _ 35 rfl w.heap.size 90 i0 (.agg jo) 9 144 Tryz.underlying35 HI.out HZ0.out HZ1.out HZ2.out rfl (by decide) _ 0 [] rfl HO.out ⟨b,0,none⟩ n c (aO zs) rfl HL.out HN.out (wJ zs) (by unfold maxLen;omega) (by omega) (by simp) ?_);intro v' w' hown hg _ _;have HB2:=ae (bG HB.out HO.out (by simp) hg);obtain ⟨g,cap,rfl,_⟩:=dE hown h0;have HOW:=ae hown;clear hown hg;go_wp2_with fail;go_ret;exact ⟨g,cap,rfl,HOW.out,HB2.out⟩
structure yU (s:Zs):Prop where
 B:s.B=none∧s.b=0
 C:s.C=none∧s.c=0
 D:s.D=none∧s.d=0
def CzP (w:World) (z:Zn) (e:Ending) (w':World):Prop:=
 ∃g c,e= .returned (.agg (ay z ⟨some ⟨g,0,none⟩,c,none,0,none,0,none,0⟩))∧w'.ownsRow w.heap.size 3 1 (.slice (some ⟨g,0,none⟩) z.cal.az.length c) z.cal.az.length (z.cal.az.map I)∧Below w.heap.size w w'
theorem zH (z:Zn) (s:Zs) (w:World) (h:gU z) (hs:yU s) (hA:fJ w w.heap.size s.A z.cal.az):Calls Tryz.prog 42 #[.agg (ay z s)] w (CzP w z):=by
 obtain ⟨n,hn⟩:∃n,z.cal.az.length=n:=⟨_,rfl⟩;have hn0:0<n:=by have:=h.cal.mo.1;omega
 have hn1:n≤16:=by have:=h.cal.mo.2;omega
 obtain ⟨b,off,hb0,hb,hc⟩:∃b off,s.A=some ⟨b,off,none⟩∧b<w.heap.size∧∀j,j<z.cal.az.length→w.cell? ⟨b,off+j,none⟩=some (I (z.cal.az[j]?.getD 0)):=by
  rcases hA with h1|h1
  ·omega
  ·exact h1
 have e0:ay z s= #[I z.cal.aX, .slice (some ⟨b,off,none⟩) n s.a,I z.cal.dM, .slice none 0 0,I z.start, .slice none 0 0,I z.hor, .slice none 0 0]:=by
  unfold ay;rw [hb0,hn,hs.B.1,hs.B.2,hs.C.1,hs.C.2,hs.D.1,hs.D.2,h.cal.ru,h.trans,h.aN];rfl
 have gu:Hid (∀w',Below w.heap.size w w'→Calls Tryz.prog 59 #[.slice (some ⟨b,off,none⟩) n s.a] w' (ClI w' z.cal.az n)):=ae fun w' hb2=>
  IE b off s.a z.cal.az n w' (fun j hj=>(hb2.cell (p:=⟨b,off+j,none⟩) hb).trans (hc j hj)) (by have:=hb2.size;omega) hn hn0 (by omega)
 have Em:Hid (z.cal.rules= []∧z.trans= []∧z.aN= []):=ae ⟨h.cal.ru,h.trans,h.aN⟩;have HN:=ae hn;rw [e0];clear h hs hA hb0 hc e0 hn;have uC:=ae (ah (ag w (.cells #[I z.cal.aX, .slice (some ⟨b,off,none⟩) n s.a,I z.cal.dM, .slice none 0 0,I z.start, .slice none 0 0,I z.hor, .slice none 0 0] 67)) (ag _ (.cells #[I 0, .slice none 0 0,I 0, .slice none 0 0,I 0, .slice none 0 0,I 0, .slice none 0 0] 67)));have HR0:=ae (heap_alloc2_old w (.cells #[I z.cal.aX, .slice (some ⟨b,off,none⟩) n s.a,I z.cal.dM, .slice none 0 0,I z.start, .slice none 0 0,I z.hor, .slice none 0 0] 67) (.cells #[I 0, .slice none 0 0,I 0, .slice none 0 0,I 0, .slice none 0 0,I 0, .slice none 0 0] 67));have HR1:=ae (heap_alloc2_new w (.cells #[I z.cal.aX, .slice (some ⟨b,off,none⟩) n s.a,I z.cal.dM, .slice none 0 0,I z.start, .slice none 0 0,I z.hor, .slice none 0 0] 67) (.cells #[I 0, .slice none 0 0,I 0, .slice none 0 0,I 0, .slice none 0 0,I 0, .slice none 0 0] 67));go_enter Tryz.func42,Tryz.ntmps42;go_wp2_with fail;refine (gu.out _ uC.out).mono ?_;rintro e w1 ⟨g,c,rfl,hown,hb1⟩;have hsz:((w.alloc (.cells #[I z.cal.aX, .slice (some ⟨b,off,none⟩) n s.a,I z.cal.dM, .slice none 0 0,I z.start, .slice none 0 0,I z.hor, .slice none 0 0] 67)).alloc (.cells #[I 0, .slice none 0 0,I 0, .slice none 0 0,I 0, .slice none 0 0,I 0, .slice none 0 0] 67)).heap.size=w.heap.size+2:=by simp
 rw [hsz] at hb1 hown;have hr1:w1.heap[w.heap.size]? =some (.cells #[I z.cal.aX, .slice (some ⟨b,off,none⟩) n s.a,I z.cal.dM, .slice none 0 0,I z.start, .slice none 0 0,I z.hor, .slice none 0 0] 67 (0,0)):=(hb1.block _ (by omega)).trans HR0.out;have hr2:w1.heap[w.heap.size+1]? =some (.cells #[I 0, .slice none 0 0,I 0, .slice none 0 0,I 0, .slice none 0 0,I 0, .slice none 0 0] 67 (0,0)):=(hb1.block _ (by omega)).trans HR1.out;have hg:w.heap.size+2≤g:=by
  rcases hown.2 with ⟨h,_⟩|⟨g',c',cur,h,hg,_⟩
  ·cases h
  ·injection h with h _ _;injection h with h;injection h with h;omega
 have k1:∀i,w1.cell? ⟨w.heap.size,i,none⟩=(#[I z.cal.aX, .slice (some ⟨b,off,none⟩) n s.a,I z.cal.dM, .slice none 0 0,I z.start, .slice none 0 0,I z.hor, .slice none 0 0]:Array Value)[i]? :=fun i=>cell_of_row w1 _ i _ _ _ hr1;have f1:∀i,w1.frozen? ⟨w.heap.size,i,none⟩=false:=fun i=>frozen_of_row w1 _ i _ _ hr1;have hW2:(w1.setCell ⟨w.heap.size,1,none⟩ (.slice (some ⟨g,0,none⟩) n c)).heap[w.heap.size]? =some (.cells #[I z.cal.aX, .slice (some ⟨g,0,none⟩) n c,I z.cal.dM, .slice none 0 0,I z.start, .slice none 0 0,I z.hor, .slice none 0 0] 67 (0,0)):=by
  rw [heap_setCell_same w1 _ 1 _ _ _ hr1];rfl
 have k2:∀i,(w1.setCell ⟨w.heap.size,1,none⟩ (.slice (some ⟨g,0,none⟩) n c)).cell? ⟨w.heap.size,i,none⟩=(#[I z.cal.aX, .slice (some ⟨g,0,none⟩) n c,I z.cal.dM, .slice none 0 0,I z.start, .slice none 0 0,I z.hor, .slice none 0 0]:Array Value)[i]? :=fun i=>cell_of_row _ _ i _ _ _ hW2;have s3:(w1.setCell ⟨w.heap.size,1,none⟩ (.slice (some ⟨g,0,none⟩) n c)).setCell ⟨w.heap.size,3,none⟩ (.slice none 0 0)=(w1.setCell ⟨w.heap.size,1,none⟩ (.slice (some ⟨g,0,none⟩) n c)):=iZ (v:= .slice none 0 0) (k2 3);have s5:(w1.setCell ⟨w.heap.size,1,none⟩ (.slice (some ⟨g,0,none⟩) n c)).setCell ⟨w.heap.size,5,none⟩ (.slice none 0 0)=(w1.setCell ⟨w.heap.size,1,none⟩ (.slice (some ⟨g,0,none⟩) n c)):=iZ (v:= .slice none 0 0) (k2 5);have s7:(w1.setCell ⟨w.heap.size,1,none⟩ (.slice (some ⟨g,0,none⟩) n c)).setCell ⟨w.heap.size,7,none⟩ (.slice none 0 0)=(w1.setCell ⟨w.heap.size,1,none⟩ (.slice (some ⟨g,0,none⟩) n c)):=iZ (v:= .slice none 0 0) (k2 7);have wS:Hid (Row (w1.setCell ⟨w.heap.size,1,none⟩ (.slice (some ⟨g,0,none⟩) n c)) w.heap.size #[I z.cal.aX, .slice (some ⟨g,0,none⟩) n c,I z.cal.dM, .slice none 0 0,I z.start, .slice none 0 0,I z.hor, .slice none 0 0]):=ae ⟨(bT.1 hW2).1,k2⟩;have Vz:Hid ((w1.setCell ⟨w.heap.size,1,none⟩ (.slice (some ⟨g,0,none⟩) n c)).heap[w.heap.size+1]? =some (.cells #[I 0, .slice none 0 0,I 0, .slice none 0 0,I 0, .slice none 0 0,I 0, .slice none 0 0] 67 (0,0))):=ae ((heap_setCell_other w1 _ _ _ (by show w.heap.size+1≠w.heap.size;omega)).trans hr2);have hb2:Below (w.heap.size+2) w1 w1:=Below.refl _ _;have HB2:Hid (Below w.heap.size w (w1.setCell ⟨w.heap.size,1,none⟩ (.slice (some ⟨g,0,none⟩) n c))):=ae ((uC.out.trans (hb1.mono (by omega))).setCell (p:=⟨w.heap.size,1,none⟩) (Nat.le_refl _) _);have HOW:=ae (dW (u:= .slice (some ⟨g,0,none⟩) n c) (p:=⟨w.heap.size,1,none⟩) hown (by intro h;injection h with h;simp only at h;omega));have HG:=ae hg;clear hsz hb1 hown hr1 hr2 hg hW2 hb2 HR0 HR1 gu uC k2;go_wp2_with (first
  |(go_at_call 60;refine (DX _ _).mono ?_;rintro e w2 ⟨rfl,rfl⟩)
  |(go_at_call 61;refine (BI _ _).mono ?_;rintro e w2 ⟨rfl,rfl⟩)
  |(go_at_call 62;refine (DY _ _).mono ?_;rintro e w2 ⟨rfl,rfl⟩)
  |(with_reducible refine dN 67 ?_;refine aY rfl _ _ rfl w.heap.size rfl #[I z.cal.aX, .slice (some ⟨g,0,none⟩) n c,I z.cal.dM, .slice none 0 0,I z.start, .slice none 0 0,I z.hor, .slice none 0 0] wS.out _ Tryz.underlying67 rfl (by kernel_rfl) ?_)
  |(with_reducible refine cZ 67 ?_;refine wpList_store_row rfl _ _ _ rfl (w.heap.size+1) #[I z.cal.aX, .slice (some ⟨g,0,none⟩) n c,I z.cal.dM, .slice none 0 0,I z.start, .slice none 0 0,I z.hor, .slice none 0 0] rfl rfl 67 #[I 0, .slice none 0 0,I 0, .slice none 0 0,I 0, .slice none 0 0,I 0, .slice none 0 0] Vz.out (by kernel_rfl) rfl (by kernel_rfl) ?_))
 refine bodyPost_ret (v:= .agg #[I z.cal.aX, .slice (some ⟨g,0,none⟩) n c,I z.cal.dM, .slice none 0 0,I z.start, .slice none 0 0,I z.hor, .slice none 0 0]) (results_cell_row rfl _ _ (w.heap.size+1) _ #[I z.cal.aX, .slice (some ⟨g,0,none⟩) n c,I z.cal.dM, .slice none 0 0,I z.start, .slice none 0 0,I z.hor, .slice none 0 0] (0,0) _ rfl (setRow_heap _ _ _ _ _ _ Vz.out) Tryz.underlying67 rfl (by kernel_rfl)) rfl ?_;refine ⟨g,c,?_,?_,below_setRow HB2.out (Nat.le_succ _) _⟩
 ·unfold ay;rw [HN.out,Em.out.1,Em.out.2.1,Em.out.2.2];rfl
 ·rw [HN.out];exact bf (dH HOW.out fun k h1 _=>setRow_other _ _ k _ (by omega)) (by omega)
theorem ou {W:World} {lo e size g n m cap:Nat} {xs:List Value} (h:W.ownsRow lo e size (.slice (some ⟨g,0,none⟩) n cap) m xs):
  ∃cur,W.heap[g]? =some (.cells cur e (0,0))∧lo≤g∧m≤cap∧cap≤maxLen∧cur.size=cap*size∧cur.toList.take (m*size)=xs∧xs.length=m*size∧n=m:=by
 obtain ⟨h0,⟨h1,_⟩|⟨g',cap',cur,h1,h2,h3,h4,h5,h6,h7⟩⟩:=h
 ·cases h1
 ·injection h1 with e1 e2 e3;injection e1 with e1;injection e1 with e1;subst e1 e2 e3;exact ⟨cur,h3,h2,h4,h5,h6,h7,h0,rfl⟩
theorem MC {W:World} {lo e size g n cap:Nat} {xs:List Value} {cur:Array Value} (h1:W.heap[g]? =some (.cells cur e (0,0))) (h2:lo≤g) (h3:n≤cap) (h4:cap≤maxLen) (h5:cur.size=cap*size) (h6:cur.toList.take (n*size)=xs) (h7:xs.length=n*size):W.ownsRow lo e size (.slice (some ⟨g,0,none⟩) n cap) n xs:=
 ⟨h7, .inr ⟨g,cap,cur,rfl,h2,h1,h3,h4,h5,h6⟩⟩
theorem oW {W:World} {lo e size g n m cap:Nat} {xs:List Value} (h:W.ownsRow lo e size (.slice (some ⟨g,0,none⟩) n cap) m xs) (j:Nat) (u:Value) (hu:xs[j]? =some u):W.cell? ⟨g,j,none⟩=some u:=by
 obtain ⟨cur,h1,h2,h3,h4,h5,h6,h7,_⟩:=ou h;rw [cell_of_row W g j _ _ _ h1];rw [←h6] at hu;rw [List.getElem?_take] at hu;split at hu
 ·simpa using hu
 ·cases hu
theorem xw {W:World} {lo e size g n m cap:Nat} {xs:List Value} (h:W.ownsRow lo e size (.slice (some ⟨g,0,none⟩) n cap) m xs) (j:Nat):W.frozen? ⟨g,j,none⟩=false:=by
 obtain ⟨cur,h1,_⟩:=ou h;exact frozen_of_row W g j _ _ h1
theorem kG {W:World} {lo e size g n m cap:Nat} {xs:List Value} (h:W.ownsRow lo e size (.slice (some ⟨g,0,none⟩) n cap) m xs):lo≤g∧g<W.heap.size:=by
 obtain ⟨cur,h1,h2,_⟩:=ou h;exact ⟨h2,(bT.1 h1).1⟩
theorem WZ {W:World} {lo e size g n m cap:Nat} {xs:List Value} (h:W.ownsRow lo e size (.slice (some ⟨g,0,none⟩) n cap) m xs) (o:Nat) (v:Value):(W.setCell ⟨g,o,none⟩ v).ownsRow lo e size (.slice (some ⟨g,0,none⟩) n cap) m (xs.set o v):=by
 obtain ⟨cur,h1,h2,h3,h4,h5,h6,h7,rfl⟩:=ou h;refine MC (heap_setCell_same W g o cur e v h1) h2 h3 h4 (by rw [Array.size_setIfInBounds];exact h5) ?_ (by rw [List.length_set];exact h7);rw [Array.toList_setIfInBounds,List.take_set,h6]
def P6 (xs:List Value) (o:Nat):List Value→List Value
 | []=>xs
 |v::r=>P6 (xs.set o v) (o+1) r
theorem Ce {lo e size g n m cap:Nat}:∀(vs:List Value) (o:Nat) (xs:List Value) (W:World),W.ownsRow lo e size (.slice (some ⟨g,0,none⟩) n cap) m xs→(W.setCells g o vs).ownsRow lo e size (.slice (some ⟨g,0,none⟩) n cap) m (P6 xs o vs)
 | [],_,_,_,h=>h
 |v::r,o,xs,_,h=>Ce r (o+1) (xs.set o v) _ (WZ h o v)
theorem set_mid (ls bs cs:List Value) (j:Nat) (v:Value) (hj:j<bs.length):(ls++(bs++cs)).set (ls.length+j) v=ls++(bs.set j v++cs):=by
 rw [List.set_append_right _ _ (by omega),List.set_append_left _ _ (by omega)];simp
theorem I9 (ls cs:List Value):∀(vs bs:List Value) (j:Nat),j+vs.length≤bs.length→P6 (ls++(bs++cs)) (ls.length+j) vs=ls++(P6 bs j vs++cs)
 | [],_,_,_=>rfl
 |v::r,bs,j,h=>by
  rw [List.length_cons] at h;show P6 ((ls++(bs++cs)).set (ls.length+j) v) (ls.length+j+1) r=_;rw [set_mid ls bs cs j v (by omega),Nat.add_assoc];exact I9 ls cs r (bs.set j v) (j+1) (by rw [List.length_set];omega)
theorem pg:∀(vs:List Value) (w:World) (b o k:Nat),k≠b→(w.setCells b o vs).heap[k]? =w.heap[k]?
 | [],_,_,_,_,_=>rfl
 |v::r,w,b,o,k,h=>(pg r _ b (o+1) k h).trans (heap_setCell_other w _ k v h)
theorem xB:∀(vs:List Value) (w:World) (b o:Nat),(w.setCells b o vs).heap.size=w.heap.size
 | [],_,_,_=>rfl
 |v::r,w,b,o=>(xB r _ b (o+1)).trans (by simp [World.setCell])
theorem Jh {B:Nat} {w0:World}:∀(vs:List Value) (w:World) (b o:Nat),Below B w0 w→B≤b→Below B w0 (w.setCells b o vs)
 | [],_,_,_,h,_=>h
 |v::r,_,b,o,h,hb=>Jh r _ b (o+1) (h.setCell (p:=⟨b,o,none⟩) hb v) hb
theorem JM (xs ys:List dB):aO (xs++ys)=aO xs++aO ys:=by simp [aO]
theorem zA (ys:List dB) (x:dB) (rest:List dB):aO (ys++x::rest)=aO ys++(x.cells.toList++aO rest):=by simp [aO]
theorem xO (ys:List dB) (x:dB) (rest:List dB) (s:Zs):P6 (aO (ys++x::rest)) (ys.length*9+1) (ay x.e.z s).toList=aO (ys++⟨x.e,s⟩::rest):=by
 rw [zA,zA,←dL,I9 _ _ _ _ _ (by show 1+8≤9;omega)];rfl
structure gJ (lo:Nat) (w:World) (v:Value) (zs:List dB):Prop where
 row:w.ownsRow lo 90 9 v zs.length (aO zs)
 az:∀x∈zs,LI lo w x.s.A x.e.z.cal.az
 nils:∀x∈zs,yU x.s
 nil:zs.length=0→v= .slice none 0 0
theorem gJ.aS {lo:Nat} {w w':World} {v:Value} {zs:List dB} (h:gJ lo w v zs) (hs:w.heap.size≤w'.heap.size) (hb:∀k,lo≤k→k<w.heap.size→w'.heap[k]? =w.heap[k]?):gJ lo w' v zs:=
 ⟨dH h.row hb,fun x hx=>(h.az x hx).aS hs hb,h.nils,h.nil⟩
theorem gJ.below {lo:Nat} {w w':World} {v:Value} {zs:List dB} (h:gJ lo w v zs) (hb:Below w.heap.size w w'):gJ lo w' v zs:=h.aS hb.size fun k _ hk=>hb.block k hk
theorem gJ.lower {lo lo':Nat} {w:World} {v:Value} {zs:List dB} (h:gJ lo w v zs) (hl:lo'≤lo):gJ lo' w v zs:=
 ⟨bf h.row hl,fun x hx=>(h.az x hx).lower hl,h.nils,h.nil⟩
theorem gJ.form {lo:Nat} {w:World} {v:Value} {zs:List dB} (h:gJ lo w v zs):(zs= []∧v= .slice none 0 0)∨(0<zs.length∧∃g c,v= .slice (some ⟨g,0,none⟩) zs.length c∧lo≤g∧g<w.heap.size):=by
 by_cases h0:zs.length=0
 ·exact .inl ⟨List.eq_nil_of_length_eq_zero h0,h.nil h0⟩
 ·obtain ⟨g,c,h1,h2⟩:=dE h.row (by omega);refine .inr ⟨by omega,g,c,h1,?_,h2⟩;have hr:=h.row;rw [h1] at hr;exact (kG hr).1
theorem gJ.zes {lo:Nat} {w:World} {A:Option Addr} {n c:Nat} {zs:List dB} (h:gJ lo w (.slice A n c) zs):Ew w w.heap.size A zs:=by
 rcases h.form with ⟨h1,_⟩|⟨_,g,c',h1,h2,h3⟩
 ·exact .inl (by rw [h1];rfl)
 ·injection h1 with e1 e2 e3;subst e1;have hr:=h.row;refine .inr ⟨g,rfl,h3,fun k x hx=>⟨fun j u hu=>?_,(h.az x (dS hx)).ints⟩⟩;have hj:j<9:=(eG.1 hu).1;exact oW hr _ u (by rw [lq zs k j x hx hj];simpa using hu)
theorem nD (t:Tb) (v v':Value):(ai t v).setIfInBounds 3 v'=ai t v':=by simp [ai,fF]
theorem bz (t:Tb) (A:Option Addr) (n c:Nat):(ai t (.slice A n c)).all (·.oneCell')=true:=by
 rw [Array.all_eq_true_iff_forall_mem];intro u hu;unfold ai fF at hu;rw [List.mem_toArray,List.mem_append,List.mem_append] at hu;rcases hu with h|h|h
 ·simp at h;rcases h with rfl|rfl|rfl|rfl<;>rfl
 ·exact ni _ u h
 ·exact ni _ u h
structure zC (w:World) (t:Tb) (v:Value) (W:World):Prop where
 var:W.heap[w.heap.size]? =some (.cells (ai t v) 37 (0,0))
 res:W.heap[w.heap.size+1]? =some (.cells Tryz.zeroCells37 37 (0,0))
 up:Below w.heap.size w W
theorem zC.lt {w W:World} {t:Tb} {v:Value} (h:zC w t v W):w.heap.size+1<W.heap.size:=(bT.1 h.res).1
theorem zC.grow {w W W':World} {t:Tb} {v:Value} (h:zC w t v W) (hb:Below W.heap.size W W'):zC w t v W':=
 ⟨(hb.block _ (by have:=h.lt;omega)).trans h.var,(hb.block _ h.lt).trans h.res,ah h.up hb⟩
theorem zC.store {w W:World} {t:Tb} {v:Value} (h:zC w t v W) (v':Value):zC w t v' (W.setCell ⟨w.heap.size,3,none⟩ v'):=
 ⟨by rw [heap_setCell_same W _ 3 _ _ _ h.var,nD],(heap_setCell_other W _ _ v' (by show w.heap.size+1≠w.heap.size;omega)).trans h.res,h.up.setCell (p:=⟨w.heap.size,3,none⟩) (Nat.le_refl _) _⟩
theorem zC.puts {w W:World} {t:Tb} {v:Value} (h:zC w t v W) (g o:Nat) (vs:List Value) (hg:w.heap.size+2≤g):zC w t v (W.setCells g o vs):=
 ⟨(pg vs W g o _ (by omega)).trans h.var,(pg vs W g o _ (by omega)).trans h.res,Jh vs W g o h.up (by omega)⟩
theorem zC.drew {w W:World} {t:Tb} {v:Value} (h:zC w t v W):zC w t v W.drew:=⟨h.var,h.res,h.up.drew⟩
theorem zC.start (w:World) (t:Tb) (v:Value):zC w t v ((w.alloc (.cells (ai t v) 37)).alloc (.cells Tryz.zeroCells37 37)):=
 ⟨heap_alloc2_old w _ _,heap_alloc2_new w _ _,ah (ag w _) (ag _ _)⟩
theorem zC.row {w W:World} {t:Tb} {v:Value} (h:zC w t v W):Row W w.heap.size (ai t v):=⟨by have:=h.lt;omega,fun i=>cell_of_row W _ i _ _ _ h.var⟩
def ClT (w:World) (t:Tb) (zs:List dB) (e:Ending) (w':World):Prop:=
 ∃A c zs',e= .returned (.agg (ai t (.slice A zs.length c)))∧gJ w.heap.size w' (.slice A zs.length c) zs'∧zs'.map (·.e)=zs.map (·.e)∧Below w.heap.size w w'
attribute [local go_sem] jy jA jQ bD
theorem IJ (t:Tb) (h32:t.prev.length=32) (hm:t.bn.length=32) (w:World):Calls Tryz.prog 29 #[.agg (ai t (.slice none 0 0))] w (ClT w t []):=by
 have HS:=ae (zC.start w t (.slice none 0 0));have dR:=ae (bU t (.slice none 0 0) h32 hm);have mZ:Hid (Tryz.zeroCells37.size=(ai t (.slice none 0 0)).size):=ae (by rw [bF _ _ h32 hm];kernel_rfl);go_enter Tryz.func29,Tryz.ntmps29;go_wp2_with fail;generalize (w.alloc (.cells (ai t (.slice none 0 0)) 37)).alloc (.cells Tryz.zeroCells37 37)=W1 at HS ⊢;have hr0:=HS.out.row.2;have hl0:=HS.out.lt;have hf0:∀i,W1.frozen? ⟨w.heap.size,i,none⟩=false:=fun i=>frozen_of_row _ _ i _ _ HS.out.var;have hs3:W1.setCell ⟨w.heap.size,3,none⟩ (.slice none 0 0)=W1:=iZ (v:= .slice none 0 0) (hr0 3);refine (IG _ _).mono ?_;rintro e w2 ⟨rfl,rfl⟩;go_wp2_with fail
 go_loop [11] (fun i=>i= .int .i64 0) (fun _=>0)
 case atStart=>rfl
 case round=>
  subst hrel;go_wp2_with (first
   |(with_reducible refine dN 37 ?_;refine aY rfl _ _ rfl w.heap.size rfl (ai t (.slice none 0 0)) HS.out.row _ Tryz.underlying37 rfl dR.out ?_)
   |(with_reducible refine cZ 37 ?_;refine wpList_store_row rfl _ _ _ rfl (w.heap.size+1) (ai t (.slice none 0 0)) rfl rfl 37 Tryz.zeroCells37 HS.out.res dR.out mZ.out (bz _ _ _ _) ?_))
  refine bodyPost_ret (v:= .agg (ai t (.slice none 0 0))) (results_cell_row rfl _ _ (w.heap.size+1) _ (ai t (.slice none 0 0)) (0,0) _ rfl (setRow_heap _ _ _ _ _ _ HS.out.res) Tryz.underlying37 rfl dR.out) rfl ?_;exact ⟨none,0,[],rfl,⟨World.ownsRow_nil _ _ _ _,(fun _ h=>nomatch h),(fun _ h=>nomatch h),fun _=>rfl⟩,rfl,below_setRow HS.out.up (Nat.le_succ _) _⟩
def LX (lo g:Nat) (w:World) (A:Option Addr) (zs:List Int):Prop:=
 ∃b off,A=some ⟨b,off,none⟩∧lo≤b∧b<w.heap.size∧b≠g∧∀j,j<zs.length→w.cell? ⟨b,off+j,none⟩=some (I (zs[j]?.getD 0))
theorem LX.aS {lo g:Nat} {w w':World} {A:Option Addr} {zs:List Int} (h:LX lo g w A zs) (hs:w.heap.size≤w'.heap.size) (hb:∀k,k<w.heap.size→k≠g→w'.heap[k]? =w.heap[k]?):LX lo g w' A zs:=by
 obtain ⟨b,off,h1,h2,h3,h4,h5⟩:=h;exact ⟨b,off,h1,h2,dP h3 hs,h4,fun j hj=>(World.cell?_of_block (a:=⟨b,off+j,none⟩) (hb b h3 h4)).trans (h5 j hj)⟩
theorem LX.li {lo g:Nat} {w:World} {A:Option Addr} {zs:List Int} (h:LX lo g w A zs):LI lo w A zs:=by
 obtain ⟨b,off,h1,h2,h3,_,h5⟩:=h;exact .inr ⟨b,off,h1,h2,h3,h5⟩
theorem LX.eQ {lo B g b n c:Nat} {w:World} {zs:List Int} (h:w.ownsRow B 3 1 (.slice (some ⟨b,0,none⟩) n c) n (zs.map I)) (hl:lo≤B) (hg:g<B):LX lo g w (some ⟨b,0,none⟩) zs:=by
 have h1:=kG h;refine ⟨b,0,rfl,by omega,h1.2,by omega,fun j hj=>?_⟩;rw [Nat.zero_add];refine oW h j _ ?_;rw [List.getElem?_map,bZ hj];rfl
def ClRel (w:World) (t:Tb) (g n c:Nat) (zs:List dB) (i:Value) (wr:World):Prop:=
 ∃(k:Nat) (ys:List dB),k≤n∧i= .int .i64 k∧ys.length=k∧ys.map (·.e)=(zs.take k).map (·.e)∧zC w t (.slice (some ⟨g,0,none⟩) n c) wr∧
  wr.ownsRow (w.heap.size+2) 90 9 (.slice (some ⟨g,0,none⟩) n c) n (aO (ys++zs.drop k))∧∀y∈ys,LX (w.heap.size+2) g wr y.s.A y.e.z.cal.az∧yU y.s
theorem IK (t:Tb) (g0 c0 n:Nat) (zs:List dB) (w:World) (hz:∀x∈zs,gU x.e.z∧yU x.s) (hn:zs.length=n) (hn0:0<n) (hn1:n≤128) (h32:t.prev.length=32) (hm:t.bn.length=32)
  (hA:∀j u,(aO zs)[j]? =some u→w.cell? ⟨g0,j,none⟩=some u) (hg0:g0<w.heap.size) (hI:∀x∈zs,fJ w w.heap.size x.s.A x.e.z.cal.az):
  Calls Tryz.prog 29 #[.agg (ai t (.slice (some ⟨g0,0,none⟩) n c0))] w (ClT w t zs):=by
 have HS:=ae (zC.start w t (.slice (some ⟨g0,0,none⟩) n c0));have dR:Hid (∀v,(Tryz.prog.info? 37).map (·.size)=some (ai t v).size):=ae fun v=>bU t v h32 hm;have mZ:Hid (∀v,Tryz.zeroCells37.size=(ai t v).size):=ae fun v=>(by rw [bF _ _ h32 hm];kernel_rfl);have HZ:=ae hz;have HN:=ae hn;have HA:=ae hA;have HI:=ae hI;clear hz hn hA hI;go_enter Tryz.func29,Tryz.ntmps29;go_wp2_with fail;generalize (w.alloc (.cells (ai t (.slice (some ⟨g0,0,none⟩) n c0)) 37)).alloc (.cells Tryz.zeroCells37 37)=W1 at HS ⊢;have hl0:=HS.out.lt;refine (FV g0 c0 zs n W1 (fun j u hu=>(HS.out.up.cell (p:=⟨g0,j,none⟩) hg0).trans (HA.out j u hu)) (by omega) HN.out hn0 (by omega)).mono ?_;rintro e w2 ⟨g,c,rfl,hown,hb2⟩;have HS2:=ae (HS.out.grow hb2);have hr2:=HS2.out.row.2;have hf2:∀i,w2.frozen? ⟨w.heap.size,i,none⟩=false:=fun i=>frozen_of_row _ _ i _ _ HS2.out.var;have hg1:=kG hown;have jU:=ae (HS2.out.store (.slice (some ⟨g,0,none⟩) n c));have vg:=ae (dW (u:= .slice (some ⟨g,0,none⟩) n c) (p:=⟨w.heap.size,3,none⟩) (bf hown (base':=w.heap.size+2) (by omega)) (by intro h;injection h with h;simp only at h;omega));have hg2:w.heap.size+2≤g:=by omega
 clear hown hb2 HS hl0 hg1;go_wp2_with fail;generalize w2.setCell ⟨w.heap.size,3,none⟩ (.slice (some ⟨g,0,none⟩) n c)=w3 at jU vg ⊢;clear hr2 hf2
 go_loopw [11] (fun i wr=>ClRel w t g n c zs i wr) (fun i _=>n - (intOf i).toNat)
 case atStart=>exact ⟨0,[],Nat.zero_le _,rfl,rfl,rfl,jU.out,vg.out,fun _ h=>nomatch h⟩
 case round=>
  obtain ⟨k,ys,hk,rfl,hyl,hye,hcs,hown,hym⟩:=hrel;have HC:=ae hcs;have HO:=ae hown;have JW:=ae hye;have NV:=ae hym;have nI:=ae hyl;clear hcs hown hye hym hyl jU vg;by_cases hlt:k<n
  ·have hkz:k<zs.length:=by rw [HN.out];exact hlt
   obtain ⟨x,hx⟩:∃x,zs[k]? =some x:=⟨_,bZ hkz⟩;have hd:zs.drop k=x::zs.drop (k+1):=by
    rw [List.drop_eq_getElem_cons hkz];rw [bZ hkz] at hx;injection hx with hx;rw [hx]
   have hown2:=HO.out;rw [hd] at hown2;have pI:=ae hown2;have hxm:=dS hx;obtain ⟨hfl,hnil⟩:=HZ.out x hxm;have cc:∀j u,x.cells[j]? =some u→wr.cell? ⟨g,k*9+j,none⟩=some u:=fun j u hu=>by
    have hj:j<9:=(bT.1 hu).1;refine oW hown2 _ _ ?_;rw [lq _ k j x (by rw [List.getElem?_append_right (by have:=nI.out;omega),nI.out];simp) hj];exact hu
   have hwr:g<wr.heap.size:=(kG hown2).2;have fz:∀j,wr.frozen? ⟨g,j,none⟩=false:=xw hown2;have a3:wr.cell? ⟨w.heap.size,3,none⟩=some (.slice (some ⟨g,0,none⟩) n c):=(HC.out.row.2 3).trans rfl;have z0:wr.cell? ⟨g,k*9+1,none⟩=some (I x.e.z.cal.aX):=cc 1 _ rfl;have z1:wr.cell? ⟨g,k*9+2,none⟩=some (.slice x.s.A x.e.z.cal.az.length x.s.a):=cc 2 _ rfl;have z2:wr.cell? ⟨g,k*9+3,none⟩=some (I x.e.z.cal.dM):=cc 3 _ rfl;have z3:wr.cell? ⟨g,k*9+4,none⟩=some (.slice x.s.B x.e.z.cal.rules.length x.s.b):=cc 4 _ rfl;have z4:wr.cell? ⟨g,k*9+5,none⟩=some (I x.e.z.start):=cc 5 _ rfl;have z5:wr.cell? ⟨g,k*9+6,none⟩=some (.slice x.s.C x.e.z.trans.length x.s.c):=cc 6 _ rfl;have z6:wr.cell? ⟨g,k*9+7,none⟩=some (I x.e.z.hor):=cc 7 _ rfl;have z7:wr.cell? ⟨g,k*9+8,none⟩=some (.slice x.s.D x.e.z.aN.length x.s.d):=cc 8 _ rfl;have HCZ:Hid (∀W,Below wr.heap.size wr W→Calls Tryz.prog 42 #[.agg #[I x.e.z.cal.aX, .slice x.s.A x.e.z.cal.az.length x.s.a,I x.e.z.cal.dM, .slice x.s.B x.e.z.cal.rules.length x.s.b,I x.e.z.start, .slice x.s.C x.e.z.trans.length x.s.c,I x.e.z.hor, .slice x.s.D x.e.z.aN.length x.s.d]] W (CzP W x.e.z)):=
    ae fun W hb=>zH x.e.z x.s W hfl hnil (((HI.out x hxm).keep (ah HC.out.up hb)).more (ah HC.out.up hb).size)
   have i0:(0:Int)≤(k:Int):=by omega
   have i1:(k:Int)<(n:Int):=by omega
   have hNg:w.heap.size<wr.heap.size:=by omega
   clear cc hkz hd hown2 hfl hnil hxm;have HX:=ae hx;clear hx;go_wp2_with fail;have hk9:k*9+1+8≤n*9:=by omega
   go_region_law (first|(go_simp;go_at_call 42;refine (HCZ.out _ (Below.refl _ _).drew).mono ?_;rintro e w5 ⟨g5,c5,rfl,hown5,hb5⟩;dsimp only [ay];have hs5:=hb5.size;have hc5:w5.cell? ⟨w.heap.size,3,none⟩=some (.slice (some ⟨g,0,none⟩) n c):=(hb5.cell (p:=⟨w.heap.size,3,none⟩) hNg).trans a3;have LM:∀j,w5.cell? ⟨g,j,none⟩=wr.cell? ⟨g,j,none⟩:=fun j=>hb5.cell (p:=⟨g,j,none⟩) hwr;have hf5:∀j,w5.frozen? ⟨g,j,none⟩=false:=fun j=>(hb5.frozen (p:=⟨g,j,none⟩) hwr).trans (fz j);have HW5:=ae hown5;have pO:=ae hb5;clear hown5 hb5 hs5))
   all_goals
    have hO5:w5.ownsRow (w.heap.size+2) 90 9 (.slice (some ⟨g,0,none⟩) n c) n (aO (ys++x::zs.drop (k+1))):=dH pI.out fun j _ h2=>pO.out.block j h2;have hO6:=Ce (ay x.e.z ⟨some ⟨g5,0,none⟩,c5,none,0,none,0,none,0⟩).toList (k*9+1) _ _ hO5;rw [←nI.out,xO ys x _ _,nI.out] at hO6;have hC6:=(HC.out.drew.grow pO.out).puts g (k*9+1) (ay x.e.z ⟨some ⟨g5,0,none⟩,c5,none,0,none,0,none,0⟩).toList hg2;have hM6:∀y∈ys++ [(⟨x.e,⟨some ⟨g5,0,none⟩,c5,none,0,none,0,none,0⟩⟩:dB)],LX (w.heap.size+2) g (w5.setCells g (k*9+1) (ay x.e.z ⟨some ⟨g5,0,none⟩,c5,none,0,none,0,none,0⟩).toList) y.s.A y.e.z.cal.az∧yU y.s:=by
     intro y hy;rcases List.mem_append.1 hy with hy|hy
     ·obtain ⟨h1,h2⟩:=NV.out y hy;exact ⟨h1.aS (by rw [xB];exact pO.out.size) (fun j hj hjg=>(pg _ _ _ _ _ hjg).trans (pO.out.block j hj)),h2⟩
     ·rw [List.mem_singleton.1 hy];exact ⟨(LX.eQ HW5.out (by show w.heap.size+2≤wr.heap.size;have:=HC.out.lt;omega) hwr).aS (by rw [xB];exact Nat.le_refl _) (fun j _ hjg=>pg _ _ _ _ _ hjg),⟨⟨rfl,rfl⟩,⟨rfl,rfl⟩,⟨rfl,rfl⟩⟩⟩
    have wX:=ae hO6;have sH:=ae hC6;have Zf:=ae hM6;clear hO5 hO6 hC6 hM6 hc5 LM hf5;go_wp2_with fail;go_roundw
    case rel=>
     refine ⟨k+1,ys++ [⟨x.e,⟨some ⟨g5,0,none⟩,c5,none,0,none,0,none,0⟩⟩],by omega,by go_num,by rw [aZ,nI.out];rfl,?_,sH.out,by rw [List.append_assoc];exact wX.out,Zf.out⟩;rw [List.map_append,JW.out,List.take_add_one,HX.out,List.map_append];rfl
    case measure=>simp [intOf];omega
  ·have hkn:k=n:=by omega
   have sW:=ae hkn;have hlt':¬(k:Int)<(n:Int):=by omega
   clear hkn hlt;go_wp2_with (first
    |(with_reducible refine dN 37 ?_;refine aY rfl _ _ rfl w.heap.size rfl (ai t (.slice (some ⟨g,0,none⟩) n c)) HC.out.row _ Tryz.underlying37 rfl (dR.out _) ?_)
    |(with_reducible refine cZ 37 ?_;refine wpList_store_row rfl _ _ _ rfl (w.heap.size+1) (ai t (.slice (some ⟨g,0,none⟩) n c)) rfl rfl 37 Tryz.zeroCells37 HC.out.res (dR.out _) (mZ.out _) (bz _ _ _ _) ?_))
   refine bodyPost_ret (v:= .agg (ai t (.slice (some ⟨g,0,none⟩) n c))) (results_cell_row rfl _ _ (w.heap.size+1) _ (ai t (.slice (some ⟨g,0,none⟩) n c)) (0,0) _ rfl (setRow_heap _ _ _ _ _ _ HC.out.res) Tryz.underlying37 rfl (dR.out _)) rfl ?_;have hd:ys++zs.drop k=ys:=by rw [List.drop_of_length_le (by rw [HN.out,sW.out];exact Nat.le_refl _),List.append_nil]
   have hrow:=HO.out;rw [hd] at hrow;have hyn:ys.length=n:=nI.out.trans sW.out;refine ⟨some ⟨g,0,none⟩,c,ys,by rw [HN.out],⟨?_,fun y hy=>?_,fun y hy=>(NV.out y hy).2,fun h=>by omega⟩,by rw [JW.out,sW.out,List.take_of_length_le (by rw [HN.out];exact Nat.le_refl _)],below_setRow HC.out.up (Nat.le_succ _) _⟩
   ·rw [HN.out,hyn];exact bf (dH hrow fun j h1 _=>setRow_other _ _ j _ (by omega)) (by omega)
   ·have h1:LI (w.heap.size+2) (wr.setRow (w.heap.size+1) (ai t (.slice (some ⟨g,0,none⟩) n c))) y.s.A y.e.z.cal.az:=(NV.out y hy).1.li.aS (by simp [World.setRow]) fun j h1 _=>setRow_other _ _ j _ (by omega);exact h1.lower (by omega)
end Go.Proofs.YtdibbemgpikgjaaGreatDoor
