/- The texts TbK, TbR, TbY, TbY2, in this order. -/
import Derived.Test.YtdibbemgpikgjaaGreatW00
import Derived.Test.YtdibbemgpikgjaaGreatW01
import Derived.Test.YtdibbemgpikgjaaGreatW03
set_option maxRecDepth 10000
set_option maxHeartbeats 8000000
namespace Go.Proofs.YtdibbemgpikgjaaGreat
open Go Go.RowKit
theorem Et (c:Nat) (w:World):Calls Tryz.prog 50 #[.slice none 0 c] w fun e w'=>e= .returned (.slice none 0 0)∧w'=w:=by
 have heq:∀W,(binOp .eql 45 (.slice none 0 c) (.slice none 0 0)).run Tryz.prog W= .ok (.bool true) W:=fun W=>by simp [binOp,run_equal_slice_nil W 45 134 none 0 c Tryz.underlying45]
 go_enter Tryz.func50,Tryz.ntmps50
 go_wp2
 go_ret;exact ⟨rfl,rfl⟩
theorem Cj (c:Nat) (w:World):Calls Tryz.prog 51 #[.slice none 0 c] w fun e w'=>e= .returned (.slice none 0 0)∧w'=w:=by
 have heq:∀W,(binOp .eql 48 (.slice none 0 c) (.slice none 0 0)).run Tryz.prog W= .ok (.bool true) W:=fun W=>by simp [binOp,run_equal_slice_nil W 48 100 none 0 c Tryz.underlying48]
 go_enter Tryz.func51,Tryz.ntmps51
 go_wp2
 go_ret;exact ⟨rfl,rfl⟩
theorem Eu (c:Nat) (w:World):Calls Tryz.prog 52 #[.slice none 0 c] w fun e w'=>e= .returned (.slice none 0 0)∧w'=w:=by
 have heq:∀W,(binOp .eql 49 (.slice none 0 c) (.slice none 0 0)).run Tryz.prog W= .ok (.bool true) W:=fun W=>by simp [binOp,run_equal_slice_nil W 49 130 none 0 c Tryz.underlying49]
 go_enter Tryz.func52,Tryz.ntmps52
 go_wp2
 go_ret;exact ⟨rfl,rfl⟩
theorem Jm (c:Nat) (w:World):Calls Tryz.prog 41 #[.slice none 0 c] w fun e w'=>e= .returned (.slice none 0 0)∧w'=w:=by
 have heq:∀W,(binOp .eql 30 (.slice none 0 c) (.slice none 0 0)).run Tryz.prog W= .ok (.bool true) W:=fun W=>by simp [binOp,run_equal_slice_nil W 30 55 none 0 c Tryz.underlying30]
 go_enter Tryz.func41,Tryz.ntmps41
 go_wp2
 go_ret;exact ⟨rfl,rfl⟩
theorem bZ {w W w':World} {base e size n:Nat} {v:Value} {ys:List Value} (hb:Below base w W) (hown:W.ownsRow base e size v n ys) (hle:base≤W.heap.size) (hg:W.grownBy w' v.ownBlock):Below base w w':=
 ⟨hg.os.trans hb.os,hg.tape.trans hb.tape,hg.output.trans hb.output,Nat.le_trans hb.size hg.size,fun k hk=>(hg.block k (by omega) (eG hown k hk)).trans (hb.block k hk)⟩
theorem gV (w:World) (e size:Nat):(w.alloc (.cells #[] e)).ownsRow w.heap.size e size (.slice (some ⟨w.heap.size,0,none⟩) 0 0) 0 []:=
 ⟨by simp, .inr ⟨w.heap.size,0,#[],rfl,Nat.le_refl _,heap_alloc_last w _,Nat.le_refl _,Nat.zero_le _,by simp,by simp⟩⟩
def ClI (w:World) (zs:List Int) (n:Nat) (e:Ending) (w':World):Prop:=
 ∃g c,e= .returned (.slice (some ⟨g,0,none⟩) n c)∧w'.ownsRow w.heap.size 3 1 (.slice (some ⟨g,0,none⟩) n c) n (zs.map I)∧Below w.heap.size w w'
theorem Jl (b off c:Nat) (zs:List Int) (n:Nat) (w:World) (hA:∀j,j<zs.length→w.cell? ⟨b,off+j,none⟩=some (I (zs[j]?.getD 0))) (hb:b<w.heap.size) (hl:zs.length=n) (h0:0<n) (hn:n≤10000):
  Calls Tryz.prog 49 #[.slice (some ⟨b,off,none⟩) n c] w (ClI w zs n):=by
 have HN:Hid (∀j u,(zs.map I)[j]? =some u→(w.alloc (.cells #[] 3)).cell? ((⟨b,off,none⟩:Addr).add j)=some u):=ae fun j u hu=>by
  rw [List.getElem?_map] at hu;obtain ⟨z,hz,rfl⟩:=Option.map_eq_some_iff.1 hu;have hj:j<zs.length:=(iP.1 hz).1;rw [Addr.add_mid,World.cell?_of_block (Below.heap_alloc w _ b hb),hA j hj,hz];rfl
 have HO:=ae (gV w 3 1);have HL:=ae hl;have HB:=ae (ag w (.cells #[] 3));obtain ⟨i0,hi,hz0,hz1,hz2⟩:=info_parts qN;have HI:=ae hi;have HZ0:=ae hz0;have HZ1:=ae hz1;have HZ2:=ae hz2;have heq:∀W,(binOp .eql 44 (.slice (some ⟨b,off,none⟩) n c) (.slice none 0 0)).run Tryz.prog W= .ok (.bool false) W:=fun W=>by simp [binOp,run_equal_slice_nil W 44 3 (some ⟨b,off,none⟩) n c Tryz.underlying44]
 clear hA hl hi hz0 hz1 hz2;go_enter Tryz.func49,Tryz.ntmps49;go_wp2_with (at_builtin;refine wpList_append_own_at _ rfl _ _ 44 rfl w.heap.size 3 i0 (.int .i64 0) 1 8 Tryz.underlying44 HI.out HZ0.out HZ1.out HZ2.out rfl (by decide) _ 0 [] rfl HO.out ⟨b,off,none⟩ n c (zs.map I) rfl (by rw [List.length_map,HL.out];omega) HN.out (by intro u hu;obtain ⟨z,_,rfl⟩:=List.mem_map.1 hu;rfl) (by unfold maxLen;omega) (by omega) (by simp) ?_);intro v' w' hown hg _ _;have HB2:=ae (bZ HB.out HO.out (by simp) hg);obtain ⟨g,cap,rfl,_⟩:=eU hown h0;have HOW:=ae hown;clear hown hg;go_wp2_with fail;go_ret;exact ⟨g,cap,rfl,HOW.out,HB2.out⟩
def aP (zs:List dA):List Value:=zs.flatMap fun x=>x.cells.toList
theorem dN (zs:List dA):(aP zs).length=zs.length*9:=by
 induction zs with
 |nil=>rfl
 |cons x zs ih=>unfold aP at ih ⊢;rw [List.flatMap_cons,bF,ih,List.length_cons];show 9+zs.length*9=_;omega
theorem wW (zs:List dA):∀u∈aP zs,u.oneCell'=true:=by
 intro u hu;unfold aP at hu;obtain ⟨x,_,hx⟩:=List.mem_flatMap.1 hu;have h:x.cells.all (·.oneCell')=true:=by kernel_rfl
 rw [Array.all_eq_true_iff_forall_mem] at h;exact h u (by simpa using hx)
theorem lN (zs:List dA) (k j:Nat) (x:dA) (hx:zs[k]? =some x) (hj:j<9):(aP zs)[k*9+j]? =x.cells[j]? :=by
 induction zs generalizing k with
 |nil=>cases hx
 |cons y zs ih=>
  unfold aP at ih ⊢;rw [List.flatMap_cons];have h9:y.cells.toList.length=9:=rfl;cases k with
  |zero=>
   injection hx with hx;subst hx;rw [Nat.zero_mul,Nat.zero_add,List.getElem?_append_left (by omega)];simp
  |succ k=>
   rw [List.getElem?_append_right (by omega),h9,show (k+1)*9+j - 9=k*9+j by omega];exact ih k hx
def fZ:Array Value:= #[.string ⟨#[]⟩,I 0, .slice none 0 0,I 0, .slice none 0 0,I 0, .slice none 0 0,I 0, .slice none 0 0]
theorem uQ:(Tryz.prog.info? 55).map (fun i=>(i.zero,i.size,i.bytes))=some (some (.agg fZ),9,144):=by kernel_rfl
def ClZ (w:World) (zs:List dA) (n:Nat) (e:Ending) (w':World):Prop:=
 ∃g c,e= .returned (.slice (some ⟨g,0,none⟩) n c)∧w'.ownsRow w.heap.size 55 9 (.slice (some ⟨g,0,none⟩) n c) n (aP zs)∧Below w.heap.size w w'
theorem Gx (b c:Nat) (zs:List dA) (n:Nat) (w:World) (hA:∀j u,(aP zs)[j]? =some u→w.cell? ⟨b,j,none⟩=some u) (hb:b<w.heap.size) (hl:zs.length=n) (h0:0<n) (hn:n≤10000):
  Calls Tryz.prog 41 #[.slice (some ⟨b,0,none⟩) n c] w (ClZ w zs n):=by
 have HN:Hid (∀j u,(aP zs)[j]? =some u→(w.alloc (.cells #[] 55)).cell? ((⟨b,0,none⟩:Addr).add j)=some u):=ae fun j u hu=>by
  rw [addr_add,World.cell?_of_block (Below.heap_alloc w _ b hb)];exact hA j u hu
 have HO:=ae (gV w 55 9);have HL:=ae (show (aP zs).length=n*9 by rw [dN,hl]);have HB:=ae (ag w (.cells #[] 55));obtain ⟨i0,hi,hz0,hz1,hz2⟩:=info_parts uQ;have HI:=ae hi;have HZ0:=ae hz0;have HZ1:=ae hz1;have HZ2:=ae hz2;have heq:∀W,(binOp .eql 30 (.slice (some ⟨b,0,none⟩) n c) (.slice none 0 0)).run Tryz.prog W= .ok (.bool false) W:=fun W=>by simp [binOp,run_equal_slice_nil W 30 55 (some ⟨b,0,none⟩) n c Tryz.underlying30]
 clear hA hl hi hz0 hz1 hz2;go_enter Tryz.func41,Tryz.ntmps41;go_wp2_with (at_builtin;refine wpList_append_own_at _ rfl _ _ 30 rfl w.heap.size 55 i0 (.agg fZ) 9 144 Tryz.underlying30 HI.out HZ0.out HZ1.out HZ2.out rfl (by decide) _ 0 [] rfl HO.out ⟨b,0,none⟩ n c (aP zs) rfl HL.out HN.out (wW zs) (by unfold maxLen;omega) (by omega) (by simp) ?_);intro v' w' hown hg _ _;have HB2:=ae (bZ HB.out HO.out (by simp) hg);obtain ⟨g,cap,rfl,_⟩:=eU hown h0;have HOW:=ae hown;clear hown hg;go_wp2_with fail;go_ret;exact ⟨g,cap,rfl,HOW.out,HB2.out⟩
structure zt (s:Zs):Prop where
 B:s.B=none∧s.b=0
 C:s.C=none∧s.c=0
 D:s.D=none∧s.d=0
def CzP (w:World) (z:Zn) (e:Ending) (w':World):Prop:=
 ∃g c,e= .returned (.agg (ax z ⟨some ⟨g,0,none⟩,c,none,0,none,0,none,0⟩))∧w'.ownsRow w.heap.size 3 1 (.slice (some ⟨g,0,none⟩) z.cal.aj.length c) z.cal.aj.length (z.cal.aj.map I)∧Below w.heap.size w w'
theorem Ag (z:Zn) (s:Zs) (w:World) (h:ig z) (hs:zt s) (hA:fO w w.heap.size s.A z.cal.aj):Calls Tryz.prog 29 #[.agg (ax z s)] w (CzP w z):=by
 obtain ⟨n,hn⟩:∃n,z.cal.aj.length=n:=⟨_,rfl⟩;have hn0:0<n:=by have:=h.cal.mo.1;omega
 have hn1:n≤16:=by have:=h.cal.mo.2;omega
 obtain ⟨b,off,hb0,hb,hc⟩:∃b off,s.A=some ⟨b,off,none⟩∧b<w.heap.size∧∀j,j<z.cal.aj.length→w.cell? ⟨b,off+j,none⟩=some (I (z.cal.aj[j]?.getD 0)):=by
  rcases hA with h1|h1
  ·omega
  ·exact h1
 have e0:ax z s= #[I z.cal.aI, .slice (some ⟨b,off,none⟩) n s.a,I z.cal.aY, .slice none 0 0,I z.start, .slice none 0 0,I z.hor, .slice none 0 0]:=by
  unfold ax;rw [hb0,hn,hs.B.1,hs.B.2,hs.C.1,hs.C.2,hs.D.1,hs.D.2,h.cal.ru,h.trans,h.az];rfl
 have gJ:Hid (∀w',Below w.heap.size w w'→Calls Tryz.prog 49 #[.slice (some ⟨b,off,none⟩) n s.a] w' (ClI w' z.cal.aj n)):=ae fun w' hb2=>
  Jl b off s.a z.cal.aj n w' (fun j hj=>(hb2.cell (p:=⟨b,off+j,none⟩) hb).trans (hc j hj)) (by have:=hb2.size;omega) hn hn0 (by omega)
 have Rx:Hid (z.cal.rules= []∧z.trans= []∧z.az= []):=ae ⟨h.cal.ru,h.trans,h.az⟩;have HN:=ae hn;rw [e0];clear h hs hA hb0 hc e0 hn;have yC:=ae (ah (ag w (.cells #[I z.cal.aI, .slice (some ⟨b,off,none⟩) n s.a,I z.cal.aY, .slice none 0 0,I z.start, .slice none 0 0,I z.hor, .slice none 0 0] 51)) (ag _ (.cells #[I 0, .slice none 0 0,I 0, .slice none 0 0,I 0, .slice none 0 0,I 0, .slice none 0 0] 51)));have HR0:=ae (heap_alloc2_old w (.cells #[I z.cal.aI, .slice (some ⟨b,off,none⟩) n s.a,I z.cal.aY, .slice none 0 0,I z.start, .slice none 0 0,I z.hor, .slice none 0 0] 51) (.cells #[I 0, .slice none 0 0,I 0, .slice none 0 0,I 0, .slice none 0 0,I 0, .slice none 0 0] 51));have HR1:=ae (heap_alloc2_new w (.cells #[I z.cal.aI, .slice (some ⟨b,off,none⟩) n s.a,I z.cal.aY, .slice none 0 0,I z.start, .slice none 0 0,I z.hor, .slice none 0 0] 51) (.cells #[I 0, .slice none 0 0,I 0, .slice none 0 0,I 0, .slice none 0 0,I 0, .slice none 0 0] 51));go_enter Tryz.func29,Tryz.ntmps29;go_wp2_with fail;refine (gJ.out _ yC.out).mono ?_;rintro e w1 ⟨g,c,rfl,hown,hb1⟩;have hsz:((w.alloc (.cells #[I z.cal.aI, .slice (some ⟨b,off,none⟩) n s.a,I z.cal.aY, .slice none 0 0,I z.start, .slice none 0 0,I z.hor, .slice none 0 0] 51)).alloc (.cells #[I 0, .slice none 0 0,I 0, .slice none 0 0,I 0, .slice none 0 0,I 0, .slice none 0 0] 51)).heap.size=w.heap.size+2:=by simp
 rw [hsz] at hb1 hown;have hr1:w1.heap[w.heap.size]? =some (.cells #[I z.cal.aI, .slice (some ⟨b,off,none⟩) n s.a,I z.cal.aY, .slice none 0 0,I z.start, .slice none 0 0,I z.hor, .slice none 0 0] 51 (0,0)):=(hb1.block _ (by omega)).trans HR0.out;have hr2:w1.heap[w.heap.size+1]? =some (.cells #[I 0, .slice none 0 0,I 0, .slice none 0 0,I 0, .slice none 0 0,I 0, .slice none 0 0] 51 (0,0)):=(hb1.block _ (by omega)).trans HR1.out;have hg:w.heap.size+2≤g:=by
  rcases hown.2 with ⟨h,_⟩|⟨g',c',cur,h,hg,_⟩
  ·cases h
  ·injection h with h _ _;injection h with h;injection h with h;omega
 have k1:∀i,w1.cell? ⟨w.heap.size,i,none⟩=(#[I z.cal.aI, .slice (some ⟨b,off,none⟩) n s.a,I z.cal.aY, .slice none 0 0,I z.start, .slice none 0 0,I z.hor, .slice none 0 0]:Array Value)[i]? :=fun i=>cell_of_row w1 _ i _ _ _ hr1;have f1:∀i,w1.frozen? ⟨w.heap.size,i,none⟩=false:=fun i=>frozen_of_row w1 _ i _ _ hr1;have hW2:(w1.setCell ⟨w.heap.size,1,none⟩ (.slice (some ⟨g,0,none⟩) n c)).heap[w.heap.size]? =some (.cells #[I z.cal.aI, .slice (some ⟨g,0,none⟩) n c,I z.cal.aY, .slice none 0 0,I z.start, .slice none 0 0,I z.hor, .slice none 0 0] 51 (0,0)):=by
  rw [heap_setCell_same w1 _ 1 _ _ _ hr1];rfl
 have k2:∀i,(w1.setCell ⟨w.heap.size,1,none⟩ (.slice (some ⟨g,0,none⟩) n c)).cell? ⟨w.heap.size,i,none⟩=(#[I z.cal.aI, .slice (some ⟨g,0,none⟩) n c,I z.cal.aY, .slice none 0 0,I z.start, .slice none 0 0,I z.hor, .slice none 0 0]:Array Value)[i]? :=fun i=>cell_of_row _ _ i _ _ _ hW2;have s3:(w1.setCell ⟨w.heap.size,1,none⟩ (.slice (some ⟨g,0,none⟩) n c)).setCell ⟨w.heap.size,3,none⟩ (.slice none 0 0)=(w1.setCell ⟨w.heap.size,1,none⟩ (.slice (some ⟨g,0,none⟩) n c)):=jl (v:= .slice none 0 0) (k2 3);have s5:(w1.setCell ⟨w.heap.size,1,none⟩ (.slice (some ⟨g,0,none⟩) n c)).setCell ⟨w.heap.size,5,none⟩ (.slice none 0 0)=(w1.setCell ⟨w.heap.size,1,none⟩ (.slice (some ⟨g,0,none⟩) n c)):=jl (v:= .slice none 0 0) (k2 5);have s7:(w1.setCell ⟨w.heap.size,1,none⟩ (.slice (some ⟨g,0,none⟩) n c)).setCell ⟨w.heap.size,7,none⟩ (.slice none 0 0)=(w1.setCell ⟨w.heap.size,1,none⟩ (.slice (some ⟨g,0,none⟩) n c)):=jl (v:= .slice none 0 0) (k2 7);have yI:Hid (Row (w1.setCell ⟨w.heap.size,1,none⟩ (.slice (some ⟨g,0,none⟩) n c)) w.heap.size #[I z.cal.aI, .slice (some ⟨g,0,none⟩) n c,I z.cal.aY, .slice none 0 0,I z.start, .slice none 0 0,I z.hor, .slice none 0 0]):=ae ⟨(bY.1 hW2).1,k2⟩;have yz:Hid ((w1.setCell ⟨w.heap.size,1,none⟩ (.slice (some ⟨g,0,none⟩) n c)).heap[w.heap.size+1]? =some (.cells #[I 0, .slice none 0 0,I 0, .slice none 0 0,I 0, .slice none 0 0,I 0, .slice none 0 0] 51 (0,0))):=ae ((heap_setCell_other w1 _ _ _ (by show w.heap.size+1≠w.heap.size;omega)).trans hr2);have hb2:Below (w.heap.size+2) w1 w1:=Below.refl _ _;have HB2:Hid (Below w.heap.size w (w1.setCell ⟨w.heap.size,1,none⟩ (.slice (some ⟨g,0,none⟩) n c))):=ae ((yC.out.trans (hb1.mono (by omega))).setCell (p:=⟨w.heap.size,1,none⟩) (Nat.le_refl _) _);have HOW:=ae (dn (u:= .slice (some ⟨g,0,none⟩) n c) (p:=⟨w.heap.size,1,none⟩) hown (by intro h;injection h with h;simp only at h;omega));have HG:=ae hg;clear hsz hb1 hown hr1 hr2 hg hW2 hb2 HR0 HR1 gJ yC k2;go_wp2_with (first
  |(go_at_call 50;refine (Et _ _).mono ?_;rintro e w2 ⟨rfl,rfl⟩)
  |(go_at_call 51;refine (Cj _ _).mono ?_;rintro e w2 ⟨rfl,rfl⟩)
  |(go_at_call 52;refine (Eu _ _).mono ?_;rintro e w2 ⟨rfl,rfl⟩)
  |(with_reducible refine dM 51 ?_;refine aV rfl _ _ rfl w.heap.size rfl #[I z.cal.aI, .slice (some ⟨g,0,none⟩) n c,I z.cal.aY, .slice none 0 0,I z.start, .slice none 0 0,I z.hor, .slice none 0 0] yI.out _ Tryz.underlying51 rfl (by kernel_rfl) ?_)
  |(with_reducible refine bV 51 ?_;refine wpList_store_row rfl _ _ _ rfl (w.heap.size+1) #[I z.cal.aI, .slice (some ⟨g,0,none⟩) n c,I z.cal.aY, .slice none 0 0,I z.start, .slice none 0 0,I z.hor, .slice none 0 0] rfl rfl 51 #[I 0, .slice none 0 0,I 0, .slice none 0 0,I 0, .slice none 0 0,I 0, .slice none 0 0] yz.out (by kernel_rfl) rfl (by kernel_rfl) ?_))
 refine bodyPost_ret (v:= .agg #[I z.cal.aI, .slice (some ⟨g,0,none⟩) n c,I z.cal.aY, .slice none 0 0,I z.start, .slice none 0 0,I z.hor, .slice none 0 0]) (results_cell_row rfl _ _ (w.heap.size+1) _ #[I z.cal.aI, .slice (some ⟨g,0,none⟩) n c,I z.cal.aY, .slice none 0 0,I z.start, .slice none 0 0,I z.hor, .slice none 0 0] (0,0) _ rfl (setRow_heap _ _ _ _ _ _ yz.out) Tryz.underlying51 rfl (by kernel_rfl)) rfl ?_;refine ⟨g,c,?_,?_,below_setRow HB2.out (Nat.le_succ _) _⟩
 ·unfold ax;rw [HN.out,Rx.out.1,Rx.out.2.1,Rx.out.2.2];rfl
 ·rw [HN.out];exact aX (bf HOW.out fun k h1 _=>setRow_other _ _ k _ (by omega)) (by omega)
theorem ji {W:World} {lo e size g n m cap:Nat} {xs:List Value} (h:W.ownsRow lo e size (.slice (some ⟨g,0,none⟩) n cap) m xs):
  ∃cur,W.heap[g]? =some (.cells cur e (0,0))∧lo≤g∧m≤cap∧cap≤maxLen∧cur.size=cap*size∧cur.toList.take (m*size)=xs∧xs.length=m*size∧n=m:=by
 obtain ⟨h0,⟨h1,_⟩|⟨g',cap',cur,h1,h2,h3,h4,h5,h6,h7⟩⟩:=h
 ·cases h1
 ·injection h1 with e1 e2 e3;injection e1 with e1;injection e1 with e1;subst e1 e2 e3;exact ⟨cur,h3,h2,h4,h5,h6,h7,h0,rfl⟩
theorem G8 {W:World} {lo e size g n cap:Nat} {xs:List Value} {cur:Array Value} (h1:W.heap[g]? =some (.cells cur e (0,0))) (h2:lo≤g) (h3:n≤cap) (h4:cap≤maxLen) (h5:cur.size=cap*size) (h6:cur.toList.take (n*size)=xs) (h7:xs.length=n*size):W.ownsRow lo e size (.slice (some ⟨g,0,none⟩) n cap) n xs:=
 ⟨h7, .inr ⟨g,cap,cur,rfl,h2,h1,h3,h4,h5,h6⟩⟩
theorem l9 {W:World} {lo e size g n m cap:Nat} {xs:List Value} (h:W.ownsRow lo e size (.slice (some ⟨g,0,none⟩) n cap) m xs) (j:Nat) (u:Value) (hu:xs[j]? =some u):W.cell? ⟨g,j,none⟩=some u:=by
 obtain ⟨cur,h1,h2,h3,h4,h5,h6,h7,_⟩:=ji h;rw [cell_of_row W g j _ _ _ h1];rw [←h6] at hu;rw [List.getElem?_take] at hu;split at hu
 ·simpa using hu
 ·cases hu
theorem xK {W:World} {lo e size g n m cap:Nat} {xs:List Value} (h:W.ownsRow lo e size (.slice (some ⟨g,0,none⟩) n cap) m xs) (j:Nat):W.frozen? ⟨g,j,none⟩=false:=by
 obtain ⟨cur,h1,_⟩:=ji h;exact frozen_of_row W g j _ _ h1
theorem fM {W:World} {lo e size g n m cap:Nat} {xs:List Value} (h:W.ownsRow lo e size (.slice (some ⟨g,0,none⟩) n cap) m xs):lo≤g∧g<W.heap.size:=by
 obtain ⟨cur,h1,h2,_⟩:=ji h;exact ⟨h2,(bY.1 h1).1⟩
theorem XB {W:World} {lo e size g n m cap:Nat} {xs:List Value} (h:W.ownsRow lo e size (.slice (some ⟨g,0,none⟩) n cap) m xs) (o:Nat) (v:Value):(W.setCell ⟨g,o,none⟩ v).ownsRow lo e size (.slice (some ⟨g,0,none⟩) n cap) m (xs.set o v):=by
 obtain ⟨cur,h1,h2,h3,h4,h5,h6,h7,rfl⟩:=ji h;refine G8 (heap_setCell_same W g o cur e v h1) h2 h3 h4 (by rw [Array.size_setIfInBounds];exact h5) ?_ (by rw [List.length_set];exact h7);rw [Array.toList_setIfInBounds,List.take_set,h6]
def Qs (xs:List Value) (o:Nat):List Value→List Value
 | []=>xs
 |v::r=>Qs (xs.set o v) (o+1) r
theorem Dh {lo e size g n m cap:Nat}:∀(vs:List Value) (o:Nat) (xs:List Value) (W:World),W.ownsRow lo e size (.slice (some ⟨g,0,none⟩) n cap) m xs→(W.setCells g o vs).ownsRow lo e size (.slice (some ⟨g,0,none⟩) n cap) m (Qs xs o vs)
 | [],_,_,_,h=>h
 |v::r,o,xs,_,h=>Dh r (o+1) (xs.set o v) _ (XB h o v)
theorem set_mid (ls bs cs:List Value) (j:Nat) (v:Value) (hj:j<bs.length):(ls++(bs++cs)).set (ls.length+j) v=ls++(bs.set j v++cs):=by
 rw [List.set_append_right _ _ (by omega),List.set_append_left _ _ (by omega)];simp
theorem JM (ls cs:List Value):∀(vs bs:List Value) (j:Nat),j+vs.length≤bs.length→Qs (ls++(bs++cs)) (ls.length+j) vs=ls++(Qs bs j vs++cs)
 | [],_,_,_=>rfl
 |v::r,bs,j,h=>by
  rw [List.length_cons] at h;show Qs ((ls++(bs++cs)).set (ls.length+j) v) (ls.length+j+1) r=_;rw [set_mid ls bs cs j v (by omega),Nat.add_assoc];exact JM ls cs r (bs.set j v) (j+1) (by rw [List.length_set];omega)
theorem pq:∀(vs:List Value) (w:World) (b o k:Nat),k≠b→(w.setCells b o vs).heap[k]? =w.heap[k]?
 | [],_,_,_,_,_=>rfl
 |v::r,w,b,o,k,h=>(pq r _ b (o+1) k h).trans (heap_setCell_other w _ k v h)
theorem xP:∀(vs:List Value) (w:World) (b o:Nat),(w.setCells b o vs).heap.size=w.heap.size
 | [],_,_,_=>rfl
 |v::r,w,b,o=>(xP r _ b (o+1)).trans (by simp [World.setCell])
theorem JP {B:Nat} {w0:World}:∀(vs:List Value) (w:World) (b o:Nat),Below B w0 w→B≤b→Below B w0 (w.setCells b o vs)
 | [],_,_,_,h,_=>h
 |v::r,_,b,o,h,hb=>JP r _ b (o+1) (h.setCell (p:=⟨b,o,none⟩) hb v) hb
theorem zV (xs ys:List dA):aP (xs++ys)=aP xs++aP ys:=by simp [aP]
theorem zW (ys:List dA) (x:dA) (rest:List dA):aP (ys++x::rest)=aP ys++(x.cells.toList++aP rest):=by simp [aP]
theorem yj (ys:List dA) (x:dA) (rest:List dA) (s:Zs):Qs (aP (ys++x::rest)) (ys.length*9+1) (ax x.e.z s).toList=aP (ys++⟨x.e,s⟩::rest):=by
 rw [zW,zW,←dN,JM _ _ _ _ _ (by show 1+8≤9;omega)];rfl
structure gX (lo:Nat) (w:World) (v:Value) (zs:List dA):Prop where
 row:w.ownsRow lo 55 9 v zs.length (aP zs)
 aj:∀x∈zs,LI lo w x.s.A x.e.z.cal.aj
 nils:∀x∈zs,zt x.s
 nil:zs.length=0→v= .slice none 0 0
theorem gX.aQ {lo:Nat} {w w':World} {v:Value} {zs:List dA} (h:gX lo w v zs) (hs:w.heap.size≤w'.heap.size) (hb:∀k,lo≤k→k<w.heap.size→w'.heap[k]? =w.heap[k]?):gX lo w' v zs:=
 ⟨bf h.row hb,fun x hx=>(h.aj x hx).aQ hs hb,h.nils,h.nil⟩
theorem gX.below {lo:Nat} {w w':World} {v:Value} {zs:List dA} (h:gX lo w v zs) (hb:Below w.heap.size w w'):gX lo w' v zs:=h.aQ hb.size fun k _ hk=>hb.block k hk
theorem gX.lower {lo lo':Nat} {w:World} {v:Value} {zs:List dA} (h:gX lo w v zs) (hl:lo'≤lo):gX lo' w v zs:=
 ⟨aX h.row hl,fun x hx=>(h.aj x hx).lower hl,h.nils,h.nil⟩
theorem gX.form {lo:Nat} {w:World} {v:Value} {zs:List dA} (h:gX lo w v zs):(zs= []∧v= .slice none 0 0)∨(0<zs.length∧∃g c,v= .slice (some ⟨g,0,none⟩) zs.length c∧lo≤g∧g<w.heap.size):=by
 by_cases h0:zs.length=0
 ·exact .inl ⟨List.eq_nil_of_length_eq_zero h0,h.nil h0⟩
 ·obtain ⟨g,c,h1,h2⟩:=eU h.row (by omega);refine .inr ⟨by omega,g,c,h1,?_,h2⟩;have hr:=h.row;rw [h1] at hr;exact (fM hr).1
theorem gX.zes {lo:Nat} {w:World} {A:Option Addr} {n c:Nat} {zs:List dA} (h:gX lo w (.slice A n c) zs):E8 w w.heap.size A zs:=by
 rcases h.form with ⟨h1,_⟩|⟨_,g,c',h1,h2,h3⟩
 ·exact .inl (by rw [h1];rfl)
 ·injection h1 with e1 e2 e3;subst e1;have hr:=h.row;refine .inr ⟨g,rfl,h3,fun k x hx=>⟨fun j u hu=>?_,(h.aj x (gz hx)).ints⟩⟩;have hj:j<9:=(iP.1 hu).1;exact l9 hr _ u (by rw [lN zs k j x hx hj];simpa using hu)
attribute [local go_sem] jX kC jY kD nK nM jV ku jW kz
theorem fG.drew {w:World} {g:Nat} {v:Value} {bs:List UInt8} (h:fG w g v bs):fG w.drew g v bs:=⟨h.1,h.2.drew⟩
theorem aJ {g:Nat} {v v':Value} {w w':World} (h:iy g v w.drew v' w'):iy g v w v' w':=⟨h.os,h.tape,h.output,h.size,h.block,h.own⟩
theorem bI {w w':World} {g:Nat} {v v':Value} {bs:List UInt8} (h:fG w g v bs) (hk:iy g v w v' w'):Below g w w':=
 ⟨hk.os,hk.tape,hk.output,hk.size,fun k hb=>hk.block k (by have:=h.lt;omega) (by omega) (eG h.2 k (by omega))⟩
theorem NI (w:World) (g:Nat) (p:Addr) (v:Value) (bs:List UInt8) (n:Int) (hf:fits n) (hl:bs.length≤1000000000) (hst:fG w g v bs) (hp:w.cell? p=some (I n)):
  Calls Tryz.prog 86 #[.iface 71 (pt g), .pointer (some p)] w (fJ w g v (bs++le n 1)):=by
 have HC:=ae (cu w g p v bs n 1 hf.1 hf.2 (by omega) (by omega) hst.lt hst hp);clear hst hp;go_enter Tryz.func86,Tryz.ntmps86;go_wp2_with fail;refine HC.out.mono ?_;rintro e w1 ⟨rfl,h⟩;have H:=ae h;clear h HC;go_wp2_with fail
 go_end0
 exact ⟨rfl,H.out⟩
def WlRel (w:World) (g:Nat) (v:Value) (bs:List UInt8) (n:Nat) (zs:List Int) (i:Value) (wr:World):Prop:=
 ∃k:Nat,k≤n∧i= .int .i64 k∧∃v',fG wr g v' (bs++(le n 1++dJ (zs.take k)))∧iy g v w v' wr
theorem yc (w:World) (g lb lo:Nat) (A:Option Addr) (n c:Nat) (zs:List Int) (v:Value) (bs:List UInt8) (hn:zs.length=n) (hn2:n≤100000) (hp:w.cell? ⟨lb,lo,none⟩=some (.slice A n c)) (MC:lb<g) (hA:fO w g A zs) (hfit:∀z∈zs,fits z)
  (hl:bs.length≤100000000) (hst:fG w g v bs):
  Calls Tryz.prog 85 #[.iface 71 (pt g), .pointer (some ⟨lb,lo,none⟩),I 1, .func (.func 86) #[] #[]] w (fJ w g v (bs++(le n 1++dJ zs))):=by
 have HC:=ae (fP w.drew g v bs n 1 (by omega) (by omega) (by omega) (by omega) hst.drew);have HST:=ae hst;have HN:=ae hn;have HF:=ae hfit;have HA:=ae hA;have HP:=ae hp;have hgl:=hst.lt;clear hst hn hfit hA;go_enter Tryz.func85,Tryz.ntmps85;go_wp2_with fail;go_still_tail 9,(by kernel_rfl);go_wp2_with fail;refine HC.out.mono ?_;rintro e w1 ⟨rfl,v1,hs1,hk1⟩;have kS:=ae hs1;have gK:=ae (aJ hk1);clear hs1 hk1 HC hp;go_wp2_with fail
 go_loopw [22] (fun i wr=>WlRel w g v bs n zs i wr) (fun i _=>n - (intOf i).toNat)
 case atStart=>exact ⟨0,Nat.zero_le _,rfl,v1,by simpa [dJ] using kS.out,gK.out⟩
 case round=>
  obtain ⟨k,hk,rfl,v2,hs2,hk2⟩:=hrel;have hb2:=bI HST.out hk2;have HB2:=ae hb2;have HS2:=ae hs2;have ja:=ae hk2;have hp2:wr.cell? ⟨lb,lo,none⟩=some (.slice A n c):=(hb2.cell (p:=⟨lb,lo,none⟩) MC).trans HP.out;clear hs2 hk2 hb2 kS gK;by_cases hlt:k<n
  ·have hkz:k<zs.length:=by rw [HN.out];exact hlt
   obtain ⟨b,off,rfl,hbg,hc0⟩:∃b off,A=some ⟨b,off,none⟩∧b<g∧∀j,j<zs.length→w.cell? ⟨b,off+j,none⟩=some (I (zs[j]?.getD 0)):=by
    rcases HA.out with h|h
    ·omega
    ·exact h
   obtain ⟨z,hz⟩:∃z,zs[k]? =some z:=⟨_,dK hkz⟩;have hcz:wr.cell? ⟨b,off+k,none⟩=some (I z):=(HB2.out.cell (p:=⟨b,off+k,none⟩) hbg).trans (by rw [hc0 k hkz,hz];rfl);have hlen:(bs++(le (n:Int) 1++dJ (zs.take k))).length≤1000000000:=by
    rw [bF,bF,aA,gB,List.length_take];omega
   have HM:=ae (NI wr g ⟨b,off+k,none⟩ v2 _ z (HF.out z (gz hz)) hlen HS2.out hcz);have HZ:=ae hz;have i0:(0:Int)≤(k:Int):=by omega
   have i1:(k:Int)<(n:Int):=by omega
   have i2:((k:Int)==(n:Int))=false:=by simp;omega
   clear hkz hc0 hz hlen hcz;go_wp2_with fail;refine HM.out.mono ?_;rintro e w3 ⟨rfl,v3,hs3,hk3⟩;have nS:=ae hs3;have kX:=ae (ja.out.trans hk3);clear hs3 hk3 hp2;go_wp2_with fail;go_roundw
   case rel=>exact ⟨k+1,by omega,by go_num,v3,by rw [jJ zs k z HZ.out,Ce,←List.append_assoc (le _ _),←List.append_assoc];exact nS.out,kX.out⟩
   case measure=>simp [intOf];omega
  ·have hkn:k=n:=by omega
   have kY:=ae hkn;clear hkn;go_wp2_with fail
   go_end0
   exact ⟨rfl,v2,by have h:=HS2.out;rwa [kY.out,List.take_of_length_le (by rw [HN.out];exact Nat.le_refl _)] at h,ja.out⟩
theorem DR (w:World) (g lb lo:Nat) (A:Option Addr) (c:Nat) (v:Value) (bs:List UInt8) (hp:w.cell? ⟨lb,lo,none⟩=some (.slice A 0 c)) (hl:bs.length≤100000000) (hst:fG w g v bs):
  Calls Tryz.prog 87 #[.iface 71 (pt g), .pointer (some ⟨lb,lo,none⟩),I 1, .func (.func 88) #[] #[]] w (fJ w g v (bs++le 0 1)):=by
 have HC:=ae (fP w.drew g v bs 0 1 (by omega) (by omega) (by omega) (by omega) hst.drew);clear hst;go_enter Tryz.func87,Tryz.ntmps87;go_wp2_with fail;go_still_tail 9,(by kernel_rfl);go_wp2_with fail;refine HC.out.mono ?_;rintro e w1 ⟨rfl,v1,hs1,hk1⟩;have kS:=ae hs1;have gK:=ae (aJ hk1);clear hs1 hk1 HC hp;go_wp2_with fail
 go_loop [22] (fun i=>i= .int .i64 0) (fun _=>0)
 case atStart=>rfl
 case round=>
  subst hrel;go_wp2_with fail
  go_end0
  exact ⟨rfl,v1,kS.out,gK.out⟩
theorem AP (w:World) (g lb lo:Nat) (A:Option Addr) (c:Nat) (v:Value) (bs:List UInt8) (hp:w.cell? ⟨lb,lo,none⟩=some (.slice A 0 c)) (hl:bs.length≤100000000) (hst:fG w g v bs):
  Calls Tryz.prog 62 #[.iface 71 (pt g), .pointer (some ⟨lb,lo,none⟩),I 2, .func (.func 63) #[] #[]] w (fJ w g v (bs++le 0 2)):=by
 have HC:=ae (fP w.drew g v bs 0 2 (by omega) (by omega) (by omega) (by omega) hst.drew);clear hst;go_enter Tryz.func62,Tryz.ntmps62;go_wp2_with fail;go_still_tail 9,(by kernel_rfl);go_wp2_with fail;refine HC.out.mono ?_;rintro e w1 ⟨rfl,v1,hs1,hk1⟩;have kS:=ae hs1;have gK:=ae (aJ hk1);clear hs1 hk1 HC hp;go_wp2_with fail
 go_loop [22] (fun i=>i= .int .i64 0) (fun _=>0)
 case atStart=>rfl
 case round=>
  subst hrel;go_wp2_with fail
  go_end0
  exact ⟨rfl,v1,kS.out,gK.out⟩
theorem DU (w:World) (g lb lo:Nat) (A:Option Addr) (c:Nat) (v:Value) (bs:List UInt8) (hp:w.cell? ⟨lb,lo,none⟩=some (.slice A 0 c)) (hl:bs.length≤100000000) (hst:fG w g v bs):
  Calls Tryz.prog 64 #[.iface 71 (pt g), .pointer (some ⟨lb,lo,none⟩),I 1, .func (.func 65) #[] #[]] w (fJ w g v (bs++le 0 1)):=by
 have HC:=ae (fP w.drew g v bs 0 1 (by omega) (by omega) (by omega) (by omega) hst.drew);clear hst;go_enter Tryz.func64,Tryz.ntmps64;go_wp2_with fail;go_still_tail 9,(by kernel_rfl);go_wp2_with fail;refine HC.out.mono ?_;rintro e w1 ⟨rfl,v1,hs1,hk1⟩;have kS:=ae hs1;have gK:=ae (aJ hk1);clear hs1 hk1 HC hp;go_wp2_with fail
 go_loop [22] (fun i=>i= .int .i64 0) (fun _=>0)
 case atStart=>rfl
 case round=>
  subst hrel;go_wp2_with fail
  go_end0
  exact ⟨rfl,v1,kS.out,gK.out⟩
end Go.Proofs.YtdibbemgpikgjaaGreat
namespace Go.Proofs.YtdibbemgpikgjaaGreat
open Go Go.RowKit
attribute [local go_sem] jX kC jY kD nK nM jV ku jW kz
def jw (c:Cal):List UInt8:=le c.aI 4++((le c.aj.length 1++dJ c.aj)++(le 0 1++le 0 1))
theorem sJ (c:Cal):(jw c).length=7+c.aj.length:=by simp [jw,aA,gB];omega
theorem DL (w:World) (g cb co:Nat) (c:Cal) (A:Option Addr) (a:Nat) (B:Option Addr) (b:Nat) (v:Value) (bs:List UInt8) (hc:AY c) (hr:w.rangeAt cb co (aG c A a B b).toList) (hfz:w.frozen? ⟨cb,co+2,none⟩=false) (hcb:cb<g) (hA:fO w g A c.aj)
  (hl:bs.length≤10000000) (hst:fG w g v bs):
  Calls Tryz.prog 61 #[.iface 71 (pt g), .pointer (some ⟨cb,co,none⟩)] w (fJ w g v (bs++jw c)):=by
 have hgl:=hst.lt;have c0:w.cell? ⟨cb,co,none⟩=some (I c.aI):=hr 0 _ rfl;have c1:w.cell? ⟨cb,co+1,none⟩=some (.slice A c.aj.length a):=hr 1 _ rfl;have c2:w.cell? ⟨cb,co+2,none⟩=some (I (-1)):=(hr 2 _ rfl).trans (by rw [hc.le]);have c3:w.cell? ⟨cb,co+3,none⟩=some (.slice B 0 b):=(hr 3 _ rfl).trans (by rw [hc.ru];rfl);obtain ⟨n,hn⟩:∃n,c.aj.length=n:=⟨_,rfl⟩;rw [hn] at c1;have hn2:n≤16:=by have:=hc.mo.2;omega
 have hN1:(bs++le c.aI 4).length≤10000004:=by rw [bF,aA];omega
 have HE:=ae hc.ep;have HN:=ae hn;have HM:Hid (∀z∈c.aj,fits z):=ae fun z hz=>by have:=hc.all z hz;unfold fits;omega
 have jO:=ae (cu w.drew g ⟨cb,co,none⟩ v bs c.aI 4 (by have:=hc.ep;omega) (by have:=hc.ep;omega) (by omega) (by omega) hst.lt hst.drew c0);have HST:=ae hst;have HA:=ae hA;clear hc hr hst hA hn;go_enter Tryz.func61,Tryz.ntmps61;go_wp2_with fail;go_still_tail 7,(by kernel_rfl);go_wp2_with fail;refine jO.out.mono ?_;rintro e w1 ⟨rfl,v1,hs1,hk1⟩;have hb1:=bI HST.out (aJ hk1);have HB1:=ae hb1;have kS:=ae hs1;have gK:=ae (aJ hk1);have d1:w1.cell? ⟨cb,co+1,none⟩=some (.slice A n a):=(hb1.cell (p:=⟨cb,co+1,none⟩) hcb).trans c1;have hcb1:cb<w1.heap.size:=by have:=hs1.lt;omega
 have HL:=ae (yc w1 g cb (co+1) A n a c.aj v1 _ HN.out (by omega) d1 hcb (HA.out.keep hb1) HM.out (by omega) hs1);have hN2:(bs++le c.aI 4++(le (n:Int) 1++dJ c.aj)).length≤10000040:=by
  simp only [bF,aA,gB,HN.out];omega
 clear hs1 hk1 hb1 jO c0 d1;go_wp2_with fail;refine HL.out.mono ?_;rintro e w2 ⟨rfl,v2,hs2,hk2⟩;have hb2:=HB1.out.trans (bI kS.out hk2);have HB2:=ae hb2;have HS2:=ae hs2;have ja:=ae (gK.out.trans hk2);have d2:w2.cell? ⟨cb,co+2,none⟩=some (I (-1)):=(hb2.cell (p:=⟨cb,co+2,none⟩) hcb).trans c2;obtain ⟨h1,h2⟩:=hs2.grow (ag w2 (.cells #[I 0] 3));have HG1:=ae h1;have HG2:=ae h2;have KW:=ae hs2.new_ne;have VT:=ae (heap_alloc_last w2 (.cells #[I 0] 3));have HC2:=ae (cu (w2.alloc (.cells #[I 0] 3)) g ⟨w2.heap.size,0,none⟩ v2 _ 0 1 (by omega) (by omega) (by omega) (by omega) h1.lt h1 ((Row.new w2 #[I 0] 3).2 0));clear hs2 hk2 hb2 HL h1 h2;go_wp2_with fail;refine HC2.out.mono ?_;rintro e w3 ⟨rfl,v3,hs3,hk3⟩;have hb3:=bI HG1.out hk3;have d3:w3.cell? ⟨w2.heap.size,0,none⟩=some (I 0):=cell_of_row w3 _ 0 _ _ _ ((HG1.out.far hk3 w2.heap.size (by simp) KW.out.1 KW.out.2).trans VT.out);have Am:Below g w w3:=(HB2.out.trans ((ag w2 (.cells #[I 0] 3)).mono (by have:=HS2.out.lt;omega))).trans hb3;have HB3:=ae Am;have e3:w3.cell? ⟨cb,co+2,none⟩=some (I (-1)):=(Am.cell (p:=⟨cb,co+2,none⟩) hcb).trans c2;have f3:w3.frozen? ⟨cb,co+2,none⟩=false:=(Am.frozen (p:=⟨cb,co+2,none⟩) hcb).trans hfz;have e4:w3.cell? ⟨cb,co+3,none⟩=some (.slice B 0 b):=(Am.cell (p:=⟨cb,co+3,none⟩) hcb).trans c3;have hsame:=jl e3;have nS:=ae hs3;have kX:=ae ((ja.out.trans HG2.out).trans hk3);have hN3:(bs++le c.aI 4++(le (n:Int) 1++dJ c.aj)++le 0 1).length≤10000041:=by rw [bF];simp only [aA];omega
 have HLL:=ae (DR w3 g cb (co+3) B b v3 _ e4 (by omega) hs3);clear hs3 hk3 hb3 Am HC2 d2 VT;go_wp2_with fail;refine HLL.out.mono ?_;rintro e w4 ⟨rfl,v4,hs4,hk4⟩;have yu:=ae hs4;have KL:=ae (kX.out.trans hk4);clear hs4 hk4 HLL hsame d3 e3 f3 e4;go_wp2_with fail
 go_end0
 exact ⟨rfl,v4,by unfold jw;rw [HN.out];have h:=yu.out;simpa [List.append_assoc] using h,KL.out⟩
def oJ (e:Ze):List UInt8:=(le e.name.size 1++e.name.data.toList)++(jw e.z.cal++(le e.z.start 2++(le 0 2++(le e.z.hor 8++le 0 1))))
theorem D6 (e:Ze) (h:ig e.z) (hs:e.name.size≤32):(oJ e).length≤69:=by
 have h1:=sJ e.z.cal;have h2:=h.cal.mo.2;have h3:e.name.data.toList.length=e.name.size:=by rw [Array.length_toList];rfl
 simp only [oJ,bF,aA,h1,h3];omega
theorem Kw (w:World) (g eb eo:Nat) (x:dA) (v:Value) (bs:List UInt8) (h:ig x.e.z) (hs:x.e.name.size≤32) (hr:w.rangeAt eb eo x.cells.toList) (hfz:w.frozen? ⟨eb,eo+1+2,none⟩=false) (heb:eb<g) (hA:fO w g x.s.A x.e.z.cal.aj)
  (hl:bs.length≤9000000) (hst:fG w g v bs):
  Calls Tryz.prog 43 #[.iface 71 (pt g), .pointer (some ⟨eb,eo,none⟩)] w (fJ w g v (bs++oJ x.e)):=by
 have hgl:=hst.lt;have c0:w.cell? ⟨eb,eo,none⟩=some (.string x.e.name):=hr 0 _ rfl;have vT:Hid (w.rangeAt eb (eo+1) (aG x.e.z.cal x.s.A x.s.a x.s.B x.s.b).toList):=ae fun j u hu=>by
  have hj:j<4:=(iP.1 hu).1;rw [show eo+1+j=eo+(j+1) by omega];refine hr (j+1) u ?_
  match j,hj with
  |0,_=>exact hu
  |1,_=>exact hu
  |2,_=>exact hu
  |3,_=>exact hu
 have c5:w.cell? ⟨eb,eo+1+4,none⟩=some (I x.e.z.start):=hr 5 _ rfl;have c6:w.cell? ⟨eb,eo+1+5,none⟩=some (.slice x.s.C 0 x.s.c):=(hr 6 _ rfl).trans (by rw [h.trans];rfl);have c7:w.cell? ⟨eb,eo+1+6,none⟩=some (I x.e.z.hor):=hr 7 _ rfl;have c8:w.cell? ⟨eb,eo+1+7,none⟩=some (.slice x.s.D 0 x.s.d):=(hr 8 _ rfl).trans (by rw [h.az];rfl);have hnl:x.e.name.data.toList.length=x.e.name.size:=by rw [Array.length_toList];rfl
 have hcl:=sJ x.e.z.cal;have hml:=h.cal.mo.2;have jO:=ae (F7 w.drew g ⟨eb,eo,none⟩ v bs x.e.name (by omega) (by omega) hst.drew c0 (by show eb≠g;omega) (eG hst.2 eb (by omega)) (by show eb<w.heap.size;omega));have HST:=ae hst;have HF:=ae h;have HA:=ae hA;have Gi:Hid (∀j u,Below g w u→u.cell? ⟨eb,j,none⟩=w.cell? ⟨eb,j,none⟩):=ae fun j u hb=>hb.cell (p:=⟨eb,j,none⟩) heb;have HL:Hid (x.e.name.data.toList.length=x.e.name.size∧(jw x.e.z.cal).length=7+x.e.z.cal.aj.length∧x.e.z.cal.aj.length≤16∧x.e.name.size≤32∧bs.length≤9000000):=ae ⟨hnl,hcl,hml,hs,hl⟩;clear h hr hst hA hnl hcl hml hs hl;go_enter Tryz.func43,Tryz.ntmps43;go_wp2_with fail;go_still_tail 7,(by kernel_rfl);go_wp2_with fail;refine jO.out.mono ?_;rintro e w1 ⟨rfl,v1,hs1,hk1⟩;obtain ⟨B1,hB1⟩:∃B,bs++(le x.e.name.size 1++x.e.name.data.toList)=B:=⟨_,rfl⟩;have hl1:B1.length≤9000040:=by rw [←hB1];have:=HL.out;simp only [bF,aA];omega
 rw [hB1] at hs1;have hb1:=bI HST.out (aJ hk1);have HB1:=ae hb1;have kS:=ae hs1;have gK:=ae (aJ hk1);have jS:=ae hB1;have HC2:=ae (DL w1 g eb (eo+1) x.e.z.cal x.s.A x.s.a x.s.B x.s.b v1 B1 HF.out.cal (fun j u hu=>(hb1.cell (p:=⟨eb,eo+1+j,none⟩) heb).trans (vT.out j u hu)) ((hb1.frozen (p:=⟨eb,eo+1+2,none⟩) heb).trans hfz) heb (HA.out.keep hb1) (by omega) hs1);clear hs1 hk1 hb1 jO hB1 c0;go_wp2_with fail;refine HC2.out.mono ?_;rintro e w2 ⟨rfl,v2,hs2,hk2⟩;obtain ⟨B2,hB2⟩:∃B,B1++jw x.e.z.cal=B:=⟨_,rfl⟩;have hl2:B2.length≤9000070:=by rw [←hB2];have:=HL.out;simp only [bF];omega
 rw [hB2] at hs2;have hb2:=HB1.out.trans (bI kS.out hk2);have HB2:=ae hb2;have HS2:=ae hs2;have ja:=ae (gK.out.trans hk2);have jr:=ae hB2;have Uj:=HF.out.start;have qy:=ae (qi w2.drew g ⟨eb,eo+1+4,none⟩ v2 B2 x.e.z.start (by omega) (by omega) (by omega) hs2.drew ((Gi.out _ _ hb2).trans c5));clear hs2 hk2 hb2 HC2 hB2 c5 Uj;go_wp2_with fail;go_still_tail 7,(by kernel_rfl);go_wp2_with fail;refine qy.out.mono ?_;rintro e w3 ⟨rfl,v3,hs3,hk3⟩;obtain ⟨B3,hB3⟩:∃B,B2++le x.e.z.start 2=B:=⟨_,rfl⟩;have hl3:B3.length≤9000080:=by rw [←hB3];simp only [bF,aA];omega
 rw [hB3] at hs3;have hb3:=HB2.out.trans (bI HS2.out (aJ hk3));have HB3:=ae hb3;have nS:=ae hs3;have kX:=ae (ja.out.trans (aJ hk3));have xg:=ae hB3;have qH:=ae (AP w3 g eb (eo+1+5) x.s.C x.s.c v3 B3 ((Gi.out _ _ hb3).trans c6) (by omega) hs3);clear hs3 hk3 hb3 qy hB3 c6;go_wp2_with fail;refine qH.out.mono ?_;rintro e w4 ⟨rfl,v4,hs4,hk4⟩;obtain ⟨B4,hB4⟩:∃B,B3++le 0 2=B:=⟨_,rfl⟩;have hl4:B4.length≤9000090:=by rw [←hB4];simp only [bF,aA];omega
 rw [hB4] at hs4;have hb4:=HB3.out.trans (bI nS.out hk4);have HB4:=ae hb4;have yu:=ae hs4;have KL:=ae (kX.out.trans hk4);have PK:=ae hB4;have hh0:=HF.out.hor;have yt:=ae (cu w4.drew g ⟨eb,eo+1+6,none⟩ v4 B4 x.e.z.hor 8 (by omega) (by omega) (by omega) (by omega) hs4.lt hs4.drew ((Gi.out _ _ hb4).trans c7));clear hs4 hk4 hb4 qH hB4 c7 hh0;go_wp2_with fail;go_still_tail 7,(by kernel_rfl);go_wp2_with fail;refine yt.out.mono ?_;rintro e w5 ⟨rfl,v5,hs5,hk5⟩;obtain ⟨B5,Rf⟩:∃B,B4++le x.e.z.hor 8=B:=⟨_,rfl⟩;have hl5:B5.length≤9000100:=by rw [←Rf];simp only [bF,aA];omega
 rw [Rf] at hs5;have hb5:=HB4.out.trans (bI yu.out (aJ hk5));have vV:=ae hs5;have zq:=ae (KL.out.trans (aJ hk5));have HQ5:=ae Rf;have rq:=ae (DU w5 g eb (eo+1+7) x.s.D x.s.d v5 B5 ((Gi.out _ _ hb5).trans c8) (by omega) hs5);clear hs5 hk5 hb5 yt Rf c8;go_wp2_with fail;refine rq.out.mono ?_;rintro e w6 ⟨rfl,v6,hs6,hk6⟩;have RY:=ae hs6;have ZZ:=ae (zq.out.trans hk6);clear hs6 hk6 rq;go_wp2_with fail
 go_end0
 refine ⟨rfl,v6,?_,ZZ.out⟩;have h:=RY.out;rw [←HQ5.out,←PK.out,←xg.out,←jr.out,←jS.out] at h;unfold oJ;simpa only [List.append_assoc] using h
end Go.Proofs.YtdibbemgpikgjaaGreat
