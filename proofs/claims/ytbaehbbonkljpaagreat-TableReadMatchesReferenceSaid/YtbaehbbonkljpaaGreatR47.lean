/- The texts Lo, Lp, Wc, in this order. -/
import Derived.Test.YtbaehbbonkljpaaGreatR00
import Derived.Test.YtbaehbbonkljpaaGreatR25
import Derived.Test.YtbaehbbonkljpaaGreatR46
set_option maxRecDepth 10000
set_option maxHeartbeats 8000000
namespace Go.Proofs.YtbaehbbonkljpaaGreat
open Go Go.RowKit
theorem U3:ni z0:=⟨by decide,by decide,by decide,by decide⟩
theorem ver_t1 {n wd:Int} {ys:List dB} (h:ys.map (·.e)=(vt n wd true).aG):∃s,ys= [⟨EC,s⟩]:=by
 have h2:ys.map (·.e)= [EC]:=h;cases ys with
 |nil=>cases h2
 |cons x r=>
  rw [List.map_cons] at h2;injection h2 with h3 h4;have hr:r= []:=List.map_eq_nil_iff.1 h4;subst hr;exact ⟨x.s,by rw [←h3]⟩
theorem ver_f0 {n wd:Int} {ys:List dB} (h:ys.map (·.e)=(vt n wd false).aG):ys= []:=by
 match ys,h with
 | [],_=>rfl
def yT (n wd:Int) (A:Option Addr) (c:Nat) (s:Zs):fH:=⟨vt n wd true,A,c,[⟨EC,s⟩]⟩
def gI (n wd:Int) (A:Option Addr) (c:Nat):fH:=⟨vt n wd false,A,c,[]⟩
theorem Qg (n wd:Int) (w:World):Calls Tryz.prog 9 #[I n,I wd, .bool true] w fun e w'=>∃A c s,e= .returned (.agg (yT n wd A c s).cells.toArray)∧jB w' w'.heap.size (yT n wd A c s)∧Below w.heap.size w w':=
 (Ew n wd w).mono (fun e w' ⟨A,c,ys,h1,h2,h3,h4⟩=>by
  obtain ⟨s,rfl⟩:=ver_t1 h3;exact ⟨A,c,s,h1,F6 h2 h3,h4⟩)
theorem UK (n wd:Int) (w:World):Calls Tryz.prog 9 #[I n,I wd, .bool false] w fun e w'=>∃A c,e= .returned (.agg (gI n wd A c).cells.toArray)∧jB w' w'.heap.size (gI n wd A c)∧Below w.heap.size w w':=
 (Qh n wd w).mono (fun e w' ⟨A,c,ys,h1,h2,h3,h4⟩=>by
  obtain rfl:=ver_f0 h3;exact ⟨A,c,h1,F6 h2 h3,h4⟩)
theorem xP (n wd:Int) (A:Option Addr) (c:Nat) (s:Zs):(yT n wd A c s).zs.length≤1000∧∀y∈(yT n wd A c s).zs,ni y.e.z:=⟨Nat.le_of_ble_eq_true rfl,fun y hy=>by rw [List.mem_singleton.1 hy];exact U3⟩
theorem BQ (n wd:Int) (A:Option Addr) (c:Nat):(gI n wd A c).zs.length≤1000∧∀y∈(gI n wd A c).zs,ni y.e.z:=⟨Nat.zero_le _,fun _ h=>nomatch h⟩
def kV (ys:List fH):Array Value:=(ys.flatMap fH.cells).toArray
section
variable {ops:Array Oper} {rest:List Oper} {o:Oper} {a:Act} {Q:Exit→Act→World→Prop} {w:World}
theorem wV (hgd:o.guard=none) (x0 x1 x2 x3:Operand) (ho:o.op= .buildSlice 32 4 #[(0,x0),(1,x1),(2,x2),(3,x3)]) (y0 y1 y2 y3:fH) (h0:y0.cells.length=68) (h1:y1.cells.length=68) (h2:y2.cells.length=68) (h3:y3.cells.length=68)
  (e0:a.eval x0= .agg y0.cells.toArray) (e1:a.eval x1= .agg y1.cells.toArray) (e2:a.eval x2= .agg y2.cells.toArray) (e3:a.eval x3= .agg y3.cells.toArray)
  (h:wpList Tryz.prog ops Q rest (a.put o.dst (.slice (some ⟨w.heap.size,0,none⟩) 4 4)) (w.alloc (.cells (kV [y0,y1,y2,y3]) 39))):wpList Tryz.prog ops Q (o::rest) a w:=by
 obtain ⟨i0,hi,hz0,hz1,hz2⟩:=info_parts qI;refine wpList_buildSlice hgd 32 39 4 _ ho ([y0,y1,y2,y3].flatMap fH.cells).toArray i0 (.agg (ah bz (.slice none 0 0))) Tryz.underlying32 hi hz0 (by rw [hz1];decide) (by rw [hz1];decide) ?_ h;rw [hz1];simp only [List.map_toArray,List.map_cons,List.map_nil,e0,e1,e2,e3];have h:=Go.Great.fill_whole (s:=68) (by omega) [.agg y0.cells.toArray, .agg y1.cells.toArray, .agg y2.cells.toArray, .agg y3.cells.toArray] ((Array.range (4*68)).map ((Value.agg (ah bz (.slice none 0 0))).cells[· %(Value.agg (ah bz (.slice none 0 0))).cells.size]!)) (fun v hv=>by
  simp at hv;rcases hv with rfl|rfl|rfl|rfl<;>simp [Value.cells,h0,h1,h2,h3]) (by simp)
 have e:([Value.agg y0.cells.toArray, .agg y1.cells.toArray, .agg y2.cells.toArray, .agg y3.cells.toArray].flatMap fun v=>v.cells.toList).toArray=([y0,y1,y2,y3].flatMap fH.cells).toArray:=by simp [Value.cells]
 rw [e] at h;exact h
theorem Gm (hgd:o.guard=none) (x0 x1:Operand) (ho:o.op= .buildSlice 32 2 #[(0,x0),(1,x1)]) (y0 y1:fH) (h0:y0.cells.length=68) (h1:y1.cells.length=68)
  (e0:a.eval x0= .agg y0.cells.toArray) (e1:a.eval x1= .agg y1.cells.toArray)
  (h:wpList Tryz.prog ops Q rest (a.put o.dst (.slice (some ⟨w.heap.size,0,none⟩) 2 2)) (w.alloc (.cells (kV [y0,y1]) 39))):wpList Tryz.prog ops Q (o::rest) a w:=by
 obtain ⟨i0,hi,hz0,hz1,hz2⟩:=info_parts qI;refine wpList_buildSlice hgd 32 39 2 _ ho ([y0,y1].flatMap fH.cells).toArray i0 (.agg (ah bz (.slice none 0 0))) Tryz.underlying32 hi hz0 (by rw [hz1];decide) (by rw [hz1];decide) ?_ h;rw [hz1];simp only [List.map_toArray,List.map_cons,List.map_nil,e0,e1];have h:=Go.Great.fill_whole (s:=68) (by omega) [.agg y0.cells.toArray, .agg y1.cells.toArray] ((Array.range (2*68)).map ((Value.agg (ah bz (.slice none 0 0))).cells[· %(Value.agg (ah bz (.slice none 0 0))).cells.size]!)) (fun v hv=>by
  simp at hv;rcases hv with rfl|rfl<;>simp [Value.cells,h0,h1]) (by simp)
 have e:([Value.agg y0.cells.toArray, .agg y1.cells.toArray].flatMap fun v=>v.cells.toList).toArray=([y0,y1].flatMap fH.cells).toArray:=by simp [Value.cells]
 rw [e] at h;exact h
end
theorem xB (ys:List fH) (W:World) (h:∀y∈ys,jB W W.heap.size y):jT (W.alloc (.cells (kV ys) 39)) (W.alloc (.cells (kV ys) 39)).heap.size (some ⟨W.heap.size,0,none⟩) ys:=by
 refine ⟨.inr ⟨W.heap.size,0,rfl,by simp,fun j u hu=>?_⟩,fun y hy=>(h y hy).grow (ag W _)⟩;rw [Nat.zero_add,cell_of_row _ _ j _ _ _ (heap_alloc_last W _)];unfold kV;simpa using hu
theorem jT.takeL {w:World} {B:Nat} {A:Option Addr} {ts:List fH} (h:jT w B A ts) (k:Nat):jT w B A (ts.take k):=by
 refine ⟨?_,fun y hy=>h.each y (List.mem_of_mem_take hy)⟩;rcases h.row with h|⟨b,off,h1,h2,h3⟩
 ·refine .inl (List.eq_nil_iff_length_eq_zero.1 ?_);have e:=List.eq_nil_of_length_eq_zero h;rw [List.flatMap_eq_nil_iff] at e ⊢;exact fun x hx=>e x (List.mem_of_mem_take hx)
 ·refine .inr ⟨b,off,h1,h2,fun j u hu=>h3 j u ?_⟩;have e:ts.flatMap fH.cells=(ts.take k).flatMap fH.cells++(ts.drop k).flatMap fH.cells:=by rw [←List.flatMap_append,List.take_append_drop]
  rw [e,List.getElem?_append_left (iT.1 hu).1];exact hu
theorem jT.tail {w:World} {B b off:Nat} {y:fH} {ts:List fH} (h:jT w B (some ⟨b,off,none⟩) (y::ts)) (hy:y.cells.length=68):jT w B (some ⟨b,off+68,none⟩) ts:=by
 refine ⟨?_,fun z hz=>h.each z (List.mem_cons_of_mem _ hz)⟩;rcases h.row with h|⟨b2,wJ,h1,h2,h3⟩
 ·rw [List.flatMap_cons,bH,hy] at h;omega
 ·injection h1 with h1;injection h1 with h1 h4;subst h1 h4;refine .inr ⟨b,off+68,rfl,h2,fun j u hu=>?_⟩;rw [Nat.add_assoc];exact h3 (68+j) u (by rw [List.flatMap_cons,List.getElem?_append_right (by omega),hy,show 68+j - 68=j by omega];exact hu)
theorem Yk:rD [EC] ⟨#[97]⟩=some z0:=by
 have e:Ba EC.name ⟨#[97]⟩=true:=by decide+kernel
 unfold rD;rw [List.find?_cons,e];rfl
theorem Yl:rD [EC] ⟨#[98]⟩=none:=by
 have e:Ba EC.name ⟨#[98]⟩=false:=by decide+kernel
 unfold rD;rw [List.find?_cons,e];rfl
section
variable (A1 A2 A3 A4 B1 B2:Option Addr) (c1 c2 c3 c4 d1 d2:Nat) (s1 s2 s4:Zs)
theorem Sm:nY [yT 1 0 A1 c1 s1,yT 2 0 A2 c2 s2,gI 3 2 A3 c3]=1:=by rfl
theorem Sr:nY [yT 1 0 A1 c1 s1,yT 2 0 A2 c2 s2,gI 3 2 A3 c3,gI 4 3 A4 c4]=2:=by rfl
theorem Su:nY [yT 1 0 A1 c1 s1,yT 2 0 A2 c2 s2,gI 3 2 A3 c3,yT 4 0 A4 c4 s4]=4:=by rfl
theorem Sv:nY [gI 1 0 B1 d1,gI 2 1 B2 d2]= -4:=by rfl
theorem Sz:nY [yT 2 0 A2 c2 s2,gI 3 2 A3 c3,gI 4 3 A4 c4]= -1:=by rfl
theorem WZ:nY []= -4:=by rfl
theorem pick_l:pick [yT 1 0 A1 c1 s1,yT 2 0 A2 c2 s2,gI 3 2 A3 c3,gI 4 3 A4 c4] ⟨#[97]⟩=some z0:=by
 have e:uY [yT 1 0 A1 c1 s1,yT 2 0 A2 c2 s2,gI 3 2 A3 c3,gI 4 3 A4 c4]=(1,true):=rfl;unfold pick;rw [e];exact Yk
theorem pick_n:pick [gI 1 0 B1 d1,gI 2 1 B2 d2] ⟨#[97]⟩=none:=by rfl
end
theorem prefA {w w':World} {e:Ending} {A A':Option Addr} {c c':Nat} {LS NS:List fH} {nm:ByteArray} (hL:pick LS nm=some z0) (hN:pick NS nm=none) (h:Rh w [⟨A,c,LS⟩,⟨A',c',NS⟩] [1,0] nm e w'):
  Below w.heap.size w w'∧∃s,e= .returned (.tuple #[.agg (au z0 s),I 0,I 0]):=by
 have p1:pk [⟨A,c,LS⟩,⟨A',c',NS⟩] nm 1=none:=hN;have p0:pk [⟨A,c,LS⟩,⟨A',c',NS⟩] nm 0=some z0:=hL;obtain ⟨hb,⟨⟨k,hk,hn⟩,_⟩|⟨_,⟨hall,_⟩|⟨j,k,z,s,hj,hp,_,he,_⟩⟩⟩:=h
 ·exfalso;apply hn;simp only [List.mem_cons,List.not_mem_nil,or_false] at hk;rcases hk with rfl|rfl
  ·exact ⟨by decide,by show (1:Int)<2;decide⟩
  ·exact ⟨by decide,by show (0:Int)<2;decide⟩
 ·have:=hall 0 (by simp);rw [p0] at this;cases this
 ·have hjl:j<2:=(iT.1 hj).1;rcases Nat.lt_succ_iff_lt_or_eq.1 hjl with h0|rfl
  ·have e0:j=0:=by omega
   subst e0;injection hj with hj;subst hj;rw [p1] at hp;cases hp
  ·injection hj with hj;subst hj;rw [p0] at hp;injection hp with hp;subst hp;exact ⟨hb,s,he⟩
theorem prefB {w w':World} {e:Ending} {A A':Option Addr} {c c':Nat} {LS NS:List fH} {nm:ByteArray} (h:Rh w [⟨A,c,LS⟩,⟨A',c',NS⟩] [2] nm e w'):
  Below w.heap.size w w'∧e= .returned (.tuple #[.agg iF,I 0,I 1]):=by
 obtain ⟨hb,⟨_,he⟩|⟨hall,_⟩⟩:=h
 ·exact ⟨hb,he⟩
 ·have:=hall 2 (by simp);exact absurd this.2 (by show¬((2:Int)<2);decide)
theorem RS (W:World) (cs:List zL) (vs:Array Value) (t:TypeId) (h:vs.toList=cs.map zL.cell) (he:∀x∈cs,jT W W.heap.size x.A x.ts):zM (W.alloc (.cells vs t)) (W.alloc (.cells vs t)).heap.size (some ⟨W.heap.size,0,none⟩) cs:=by
 refine ⟨.inr ⟨W.heap.size,0,rfl,by simp,fun j u hu=>?_⟩,fun x hx=>(he x hx).grow (ag W _)⟩;rw [Nat.zero_add,cell_of_row _ _ j _ _ _ (heap_alloc_last W _),←Array.getElem?_toList,h];exact hu
theorem Iy (W:World) (zs:List Int) (vs:Array Value) (t:TypeId) (h:vs.toList=zs.map I):jU (W.alloc (.cells vs t)) (W.alloc (.cells vs t)).heap.size (some ⟨W.heap.size,0,none⟩) zs:=by
 refine az.ints (.inr ⟨W.heap.size,0,rfl,by simp,fun j u hu=>?_⟩);rw [Nat.zero_add,cell_of_row _ _ j _ _ _ (heap_alloc_last W _),←Array.getElem?_toList,h];exact hu
theorem zoneB {w w':World} {e:Ending} (h:Zd w [EC] ⟨#[98]⟩ e w'):Below w.heap.size w w'∧e= .returned (.tuple #[.agg iF,I 4]):=by
 obtain ⟨hb,⟨_,he⟩|⟨z,s,hz,_⟩⟩:=h
 ·exact ⟨hb,he⟩
 ·rw [Yl] at hz;cases hz
theorem Qp (n wd:Int) (A:Option Addr) (c:Nat) (s:Zs) (W:World) (h:jB W W.heap.size (yT n wd A c s)):Calls Tryz.prog 15 #[.agg (yT n wd A c s).cells.toArray, .string ⟨#[98]⟩] W fun e w'=>Below W.heap.size W w'∧e= .returned (.tuple #[.agg iF,I 4]):=
 (JB (yT n wd A c s) 1 ⟨#[98]⟩ W rfl (by omega) (xP n wd A c s).2 h).mono (fun e w' h=>zoneB h)
theorem jT.head {w:World} {B b off:Nat} {y:fH} {ts:List fH} (h:jT w B (some ⟨b,off,none⟩) (y::ts)) (hy:y.cells.length=68):w.rangeAt b off y.cells∧b<B:=by
 rcases h.row with h|⟨b2,wJ,h1,h2,h3⟩
 ·rw [List.flatMap_cons,bH,hy] at h;omega
 ·injection h1 with h1;injection h1 with h1 h4;subst h1 h4;exact ⟨fun j u hu=>h3 j u (by rw [List.flatMap_cons,List.getElem?_append_left (iT.1 hu).1];exact hu),h2⟩
theorem Yb (n wd:Int) (A:Option Addr) (c:Nat) (s:Zs) (W:World) (hn:n<1):Calls Tryz.prog 17 #[.agg (yT n wd A c s).cells.toArray] W (Gives (.int .i64 1) W):=
 UJ (vt n wd true) A 1 c W ⟨by show (0:Int)≤2;decide,by show (2:Int)<16;decide⟩ (by show n<1;exact hn)
theorem Yg {z:Zn} (hy:z.ax= []):rP z= []:=by
 unfold rP sU;rw [hy];simp only [List.mergeSort_nil]
theorem z0_ok:uA z0=0:=by
 have e:rP z0= []:=Yg rfl;unfold uA Bc;rw [e];decide+kernel
theorem UL:pM (vt 1 0 true)=0:=by
 unfold pM;rw [if_neg (by decide+kernel),if_neg (by decide+kernel),if_neg (by decide+kernel)];show dY ⟨#[]⟩ [EC]=0;rw [nX,if_neg (by decide+kernel),if_pos (show uA EC.z=0 from z0_ok)];rfl
def mO:List UInt8:=([2,1,0]++List.replicate 32 0)++ [1,1,97,0,0,0,0,1,3,0,0,60,0,0,0]++List.replicate 9 0
theorem yC:xe (vt 1 0 true)=mO:=by decide+kernel
theorem Jt:FI mO=some (vt 1 0 true,[]):=by kernel_rfl
theorem Ju:FI (mO.take 58)=none:=by kernel_rfl
theorem Qj:mV mO=some (vt 1 0 true):=Hw Jt UL yC
theorem UM:mV (mO.take 58)=none:=DZ fun t h=>by rw [Ju] at h;cases h
end Go.Proofs.YtbaehbbonkljpaaGreat
