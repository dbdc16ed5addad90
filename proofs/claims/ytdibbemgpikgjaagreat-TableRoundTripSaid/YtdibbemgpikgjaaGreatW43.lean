/- The texts Uk, Lo, Lp, in this order. -/
import Derived.Test.YtdibbemgpikgjaaGreatW00
import Derived.Test.YtdibbemgpikgjaaGreatW41
import Derived.Test.YtdibbemgpikgjaaGreatW42
set_option maxRecDepth 10000
set_option maxHeartbeats 8000000
namespace Go.Proofs.YtdibbemgpikgjaaGreat
open Go Go.RowKit
theorem EC (A A2:Option Addr) (n m c c2:Nat) (bs cs:List UInt8) (w:World) (hl:bs.length=n) (hl2:cs.length=m) (hn:n≤1000000) (h1:aB w w.heap.size A (bs.map Extern.Stop.cell)) (h2:aB w w.heap.size A2 (cs.map Extern.Stop.cell)):
  Calls Tryz.prog 8 #[.slice A n c, .slice A2 m c2] w (Gives (.bool (decide (bs=cs))) w):=by
 by_cases hnm:n=m
 ·subst hnm;have H1:=ae h1;have H2:=ae h2;have HL:=ae hl;have HL2:=ae hl2;clear h1 h2 hl hl2;go_enter Tryz.func8,Tryz.ntmps8;go_wp2_with fail
  go_loopw [5] (fun i wr=>∃k:Nat,k≤n∧i=I k∧(∀j,j<k→bs[j]? =cs[j]?)∧∃m,wr=w.drewN m) (fun i _=>n - (intOf i).toNat)
  case atStart=>exact ⟨0,Nat.zero_le _,rfl,fun _ h=>absurd h (Nat.not_lt_zero _),0,rfl⟩
  case round=>
   obtain ⟨k,hk,rfl,hz,m,rfl⟩:=hrel;have HZ:=ae hz;clear hz;by_cases hlt:(k:Int)<(n:Int)
   ·have hk2:k<n:=by omega
    obtain ⟨b,off,rfl,hb,hc⟩:=H1.out.there (by rw [List.length_map,HL.out];omega);obtain ⟨b2,xH,rfl,hb2,hc2⟩:=H2.out.there (by rw [List.length_map,HL2.out];omega);obtain ⟨x,hx⟩:∃x,bs[k]? =some x:=⟨_,dK (by rw [HL.out];exact hk2)⟩;obtain ⟨y,hy⟩:∃y,cs[k]? =some y:=⟨_,dK (by rw [HL2.out];exact hk2)⟩;have e1:w.cell? ⟨b,off+k,none⟩=some (.int .u8 (x.toNat:Int)):=hc k _ (by rw [List.getElem?_map,hx];rfl);have e2:w.cell? ⟨b2,xH+k,none⟩=some (.int .u8 (y.toNat:Int)):=hc2 k _ (by rw [List.getElem?_map,hy];rfl);have HX:=ae hx;have HY:=ae hy;clear hc hc2 hx hy;by_cases hxy:x=y
    ·subst hxy;have hne:=LU x;go_wp2_with fail;go_quiet (fail);go_wp2_with fail;go_roundw
     case rel=>exact ⟨k+1,by omega,by go_num,fun j hj=>by
      rcases Nat.lt_succ_iff_lt_or_eq.1 hj with h|h
      ·exact HZ.out j h
      ·subst h;rw [HX.out,HY.out],_,rfl⟩
     case measure=>simp [intOf];omega
    ·have hne:=Tm hxy;have KW:=ae hxy;clear hxy;go_wp2_with fail;go_quiet (fail);go_wp2_with fail;go_ret;have hf:decide (bs=cs)=false:=decide_eq_false fun h=>by
      have h3:=HX.out;rw [h,HY.out] at h3;injection h3 with h3;exact KW.out h3.symm
     refine ⟨by rw [hf];rfl,?_⟩
     first|exact below_drewN' _ _|(rw [World.drewN_drewN];exact below_drewN' _ _)
   ·go_wp2_with fail;go_ret;have ht:bs=cs:=List.ext_getElem? fun j=>by
     have h1:=HL.out;have h2:=HL2.out;by_cases hj:j<k
     ·exact HZ.out j hj
     ·rw [List.getElem?_eq_none (by omega),List.getElem?_eq_none (by omega)]
    exact ⟨by rw [decide_eq_true ht];rfl,below_drewN' _ _⟩
 ·have hne:((n:Int) !=(m:Int))=true:=by rw [G6];exact decide_eq_true (by omega)
  have PI:=ae hnm;clear hnm h1 h2;go_enter Tryz.func8,Tryz.ntmps8;go_wp2_with fail;go_ret;have hf:decide (bs=cs)=false:=decide_eq_false fun h=>PI.out (by rw [←hl,←hl2,h]);exact ⟨by rw [hf];rfl,Below.refl _ _⟩
theorem Vp:oU z0:=⟨by decide,by decide,by decide,by decide⟩
theorem ver_t1 {n wd:Int} {ys:List dA} (h:ys.map (·.e)=(vt n wd true).aK):∃s,ys= [⟨AU,s⟩]:=by
 have h2:ys.map (·.e)= [AU]:=h;cases ys with
 |nil=>cases h2
 |cons x r=>
  rw [List.map_cons] at h2;injection h2 with h3 h4;have hr:r= []:=List.map_eq_nil_iff.1 h4;subst hr;exact ⟨x.s,by rw [←h3]⟩
theorem ver_f0 {n wd:Int} {ys:List dA} (h:ys.map (·.e)=(vt n wd false).aK):ys= []:=by
 match ys,h with
 | [],_=>rfl
def yT (n wd:Int) (A:Option Addr) (c:Nat) (s:Zs):fH:=⟨vt n wd true,A,c,[⟨AU,s⟩]⟩
def gI (n wd:Int) (A:Option Addr) (c:Nat):fH:=⟨vt n wd false,A,c,[]⟩
theorem QK (n wd:Int) (w:World):Calls Tryz.prog 15 #[I n,I wd, .bool true] w fun e w'=>∃A c s,e= .returned (.agg (yT n wd A c s).cells.toArray)∧lS w' w'.heap.size (yT n wd A c s)∧Below w.heap.size w w':=
 (Gf n wd w).mono (fun e w' ⟨A,c,ys,h1,h2,h3,h4⟩=>by
  obtain ⟨s,rfl⟩:=ver_t1 h3;exact ⟨A,c,s,h1,Hz h2 h3,h4⟩)
theorem Vd (n wd:Int) (w:World):Calls Tryz.prog 15 #[I n,I wd, .bool false] w fun e w'=>∃A c,e= .returned (.agg (gI n wd A c).cells.toArray)∧lS w' w'.heap.size (gI n wd A c)∧Below w.heap.size w w':=
 (QL n wd w).mono (fun e w' ⟨A,c,ys,h1,h2,h3,h4⟩=>by
  obtain rfl:=ver_f0 h3;exact ⟨A,c,h1,Hz h2 h3,h4⟩)
theorem zl (n wd:Int) (A:Option Addr) (c:Nat) (s:Zs):(yT n wd A c s).zs.length≤1000∧∀y∈(yT n wd A c s).zs,oU y.e.z:=⟨Nat.le_of_ble_eq_true rfl,fun y hy=>by rw [List.mem_singleton.1 hy];exact Vp⟩
theorem DW (n wd:Int) (A:Option Addr) (c:Nat):(gI n wd A c).zs.length≤1000∧∀y∈(gI n wd A c).zs,oU y.e.z:=⟨Nat.zero_le _,fun _ h=>nomatch h⟩
def lL (ys:List fH):Array Value:=(ys.flatMap fH.cells).toArray
section
variable {ops:Array Oper} {rest:List Oper} {o:Oper} {a:Act} {Q:Exit→Act→World→Prop} {w:World}
theorem yg (hgd:o.guard=none) (x0 x1 x2 x3:Operand) (ho:o.op= .buildSlice 39 4 #[(0,x0),(1,x1),(2,x2),(3,x3)]) (y0 y1 y2 y3:fH) (h0:y0.cells.length=68) (h1:y1.cells.length=68) (h2:y2.cells.length=68) (h3:y3.cells.length=68)
  (e0:a.eval x0= .agg y0.cells.toArray) (e1:a.eval x1= .agg y1.cells.toArray) (e2:a.eval x2= .agg y2.cells.toArray) (e3:a.eval x3= .agg y3.cells.toArray)
  (h:wpList Tryz.prog ops Q rest (a.put o.dst (.slice (some ⟨w.heap.size,0,none⟩) 4 4)) (w.alloc (.cells (lL [y0,y1,y2,y3]) 32))):wpList Tryz.prog ops Q (o::rest) a w:=by
 obtain ⟨i0,hi,hz0,hz1,hz2⟩:=info_parts rP;refine wpList_buildSlice hgd 39 32 4 _ ho ([y0,y1,y2,y3].flatMap fH.cells).toArray i0 (.agg (ai bn (.slice none 0 0))) Tryz.underlying39 hi hz0 (by rw [hz1];decide) (by rw [hz1];decide) ?_ h;rw [hz1];simp only [List.map_toArray,List.map_cons,List.map_nil,e0,e1,e2,e3];have h:=Go.Great.fill_whole (s:=68) (by omega) [.agg y0.cells.toArray, .agg y1.cells.toArray, .agg y2.cells.toArray, .agg y3.cells.toArray] ((Array.range (4*68)).map ((Value.agg (ai bn (.slice none 0 0))).cells[· %(Value.agg (ai bn (.slice none 0 0))).cells.size]!)) (fun v hv=>by
  simp at hv;rcases hv with rfl|rfl|rfl|rfl<;>simp [Value.cells,h0,h1,h2,h3]) (by simp)
 have e:([Value.agg y0.cells.toArray, .agg y1.cells.toArray, .agg y2.cells.toArray, .agg y3.cells.toArray].flatMap fun v=>v.cells.toList).toArray=([y0,y1,y2,y3].flatMap fH.cells).toArray:=by simp [Value.cells]
 rw [e] at h;exact h
theorem Ih (hgd:o.guard=none) (x0 x1:Operand) (ho:o.op= .buildSlice 39 2 #[(0,x0),(1,x1)]) (y0 y1:fH) (h0:y0.cells.length=68) (h1:y1.cells.length=68)
  (e0:a.eval x0= .agg y0.cells.toArray) (e1:a.eval x1= .agg y1.cells.toArray)
  (h:wpList Tryz.prog ops Q rest (a.put o.dst (.slice (some ⟨w.heap.size,0,none⟩) 2 2)) (w.alloc (.cells (lL [y0,y1]) 32))):wpList Tryz.prog ops Q (o::rest) a w:=by
 obtain ⟨i0,hi,hz0,hz1,hz2⟩:=info_parts rP;refine wpList_buildSlice hgd 39 32 2 _ ho ([y0,y1].flatMap fH.cells).toArray i0 (.agg (ai bn (.slice none 0 0))) Tryz.underlying39 hi hz0 (by rw [hz1];decide) (by rw [hz1];decide) ?_ h;rw [hz1];simp only [List.map_toArray,List.map_cons,List.map_nil,e0,e1];have h:=Go.Great.fill_whole (s:=68) (by omega) [.agg y0.cells.toArray, .agg y1.cells.toArray] ((Array.range (2*68)).map ((Value.agg (ai bn (.slice none 0 0))).cells[· %(Value.agg (ai bn (.slice none 0 0))).cells.size]!)) (fun v hv=>by
  simp at hv;rcases hv with rfl|rfl<;>simp [Value.cells,h0,h1]) (by simp)
 have e:([Value.agg y0.cells.toArray, .agg y1.cells.toArray].flatMap fun v=>v.cells.toList).toArray=([y0,y1].flatMap fH.cells).toArray:=by simp [Value.cells]
 rw [e] at h;exact h
end
theorem yR (ys:List fH) (W:World) (h:∀y∈ys,lS W W.heap.size y):kU (W.alloc (.cells (lL ys) 32)) (W.alloc (.cells (lL ys) 32)).heap.size (some ⟨W.heap.size,0,none⟩) ys:=by
 refine ⟨.inr ⟨W.heap.size,0,rfl,by simp,fun j u hu=>?_⟩,fun y hy=>(h y hy).grow (ag W _)⟩;rw [Nat.zero_add,cell_of_row _ _ j _ _ _ (heap_alloc_last W _)];unfold lL;simpa using hu
theorem kU.takeL {w:World} {B:Nat} {A:Option Addr} {ts:List fH} (h:kU w B A ts) (k:Nat):kU w B A (ts.take k):=by
 refine ⟨?_,fun y hy=>h.each y (List.mem_of_mem_take hy)⟩;rcases h.row with h|⟨b,off,h1,h2,h3⟩
 ·refine .inl (List.eq_nil_iff_length_eq_zero.1 ?_);have e:=List.eq_nil_of_length_eq_zero h;rw [List.flatMap_eq_nil_iff] at e ⊢;exact fun x hx=>e x (List.mem_of_mem_take hx)
 ·refine .inr ⟨b,off,h1,h2,fun j u hu=>h3 j u ?_⟩;have e:ts.flatMap fH.cells=(ts.take k).flatMap fH.cells++(ts.drop k).flatMap fH.cells:=by rw [←List.flatMap_append,List.take_append_drop]
  rw [e,List.getElem?_append_left (iP.1 hu).1];exact hu
theorem kU.tail {w:World} {B b off:Nat} {y:fH} {ts:List fH} (h:kU w B (some ⟨b,off,none⟩) (y::ts)) (hy:y.cells.length=68):kU w B (some ⟨b,off+68,none⟩) ts:=by
 refine ⟨?_,fun z hz=>h.each z (List.mem_cons_of_mem _ hz)⟩;rcases h.row with h|⟨b2,xH,h1,h2,h3⟩
 ·rw [List.flatMap_cons,bF,hy] at h;omega
 ·injection h1 with h1;injection h1 with h1 h4;subst h1 h4;refine .inr ⟨b,off+68,rfl,h2,fun j u hu=>?_⟩;rw [Nat.add_assoc];exact h3 (68+j) u (by rw [List.flatMap_cons,List.getElem?_append_right (by omega),hy,show 68+j - 68=j by omega];exact hu)
theorem Yo:sQ [AU] ⟨#[97]⟩=some z0:=by
 have e:C9 AU.name ⟨#[97]⟩=true:=by decide+kernel
 unfold sQ;rw [List.find?_cons,e];rfl
theorem Yp:sQ [AU] ⟨#[98]⟩=none:=by
 have e:C9 AU.name ⟨#[98]⟩=false:=by decide+kernel
 unfold sQ;rw [List.find?_cons,e];rfl
section
variable (A1 A2 A3 A4 B1 B2:Option Addr) (c1 c2 c3 c4 d1 d2:Nat) (s1 s2 s4:Zs)
theorem TJ:oZ [yT 1 0 A1 c1 s1,yT 2 0 A2 c2 s2,gI 3 2 A3 c3]=1:=by rfl
theorem TK:oZ [yT 1 0 A1 c1 s1,yT 2 0 A2 c2 s2,gI 3 2 A3 c3,gI 4 3 A4 c4]=2:=by rfl
theorem TL:oZ [yT 1 0 A1 c1 s1,yT 2 0 A2 c2 s2,gI 3 2 A3 c3,yT 4 0 A4 c4 s4]=4:=by rfl
theorem TM:oZ [gI 1 0 B1 d1,gI 2 1 B2 d2]= -4:=by rfl
theorem TN:oZ [yT 2 0 A2 c2 s2,gI 3 2 A3 c3,gI 4 3 A4 c4]= -1:=by rfl
theorem WW:oZ []= -4:=by rfl
theorem pick_l:pick [yT 1 0 A1 c1 s1,yT 2 0 A2 c2 s2,gI 3 2 A3 c3,gI 4 3 A4 c4] ⟨#[97]⟩=some z0:=by
 have e:vZ [yT 1 0 A1 c1 s1,yT 2 0 A2 c2 s2,gI 3 2 A3 c3,gI 4 3 A4 c4]=(1,true):=rfl;unfold pick;rw [e];exact Yo
theorem pick_n:pick [gI 1 0 B1 d1,gI 2 1 B2 d2] ⟨#[97]⟩=none:=by rfl
end
theorem prefA {w w':World} {e:Ending} {A A':Option Addr} {c c':Nat} {LS NS:List fH} {nm:ByteArray} (hL:pick LS nm=some z0) (hN:pick NS nm=none) (h:SH w [⟨A,c,LS⟩,⟨A',c',NS⟩] [1,0] nm e w'):
  Below w.heap.size w w'∧∃s,e= .returned (.tuple #[.agg (ax z0 s),I 0,I 0]):=by
 have p1:pk [⟨A,c,LS⟩,⟨A',c',NS⟩] nm 1=none:=hN;have p0:pk [⟨A,c,LS⟩,⟨A',c',NS⟩] nm 0=some z0:=hL;obtain ⟨hb,⟨⟨k,hk,hn⟩,_⟩|⟨_,⟨hall,_⟩|⟨j,k,z,s,hj,hp,_,he,_⟩⟩⟩:=h
 ·exfalso;apply hn;simp only [List.mem_cons,List.not_mem_nil,or_false] at hk;rcases hk with rfl|rfl
  ·exact ⟨by decide,by show (1:Int)<2;decide⟩
  ·exact ⟨by decide,by show (0:Int)<2;decide⟩
 ·have:=hall 0 (by simp);rw [p0] at this;cases this
 ·have hjl:j<2:=(iP.1 hj).1;rcases Nat.lt_succ_iff_lt_or_eq.1 hjl with h0|rfl
  ·have e0:j=0:=by omega
   subst e0;injection hj with hj;subst hj;rw [p1] at hp;cases hp
  ·injection hj with hj;subst hj;rw [p0] at hp;injection hp with hp;subst hp;exact ⟨hb,s,he⟩
theorem prefB {w w':World} {e:Ending} {A A':Option Addr} {c c':Nat} {LS NS:List fH} {nm:ByteArray} (h:SH w [⟨A,c,LS⟩,⟨A',c',NS⟩] [2] nm e w'):
  Below w.heap.size w w'∧e= .returned (.tuple #[.agg jM,I 0,I 1]):=by
 obtain ⟨hb,⟨_,he⟩|⟨hall,_⟩⟩:=h
 ·exact ⟨hb,he⟩
 ·have:=hall 2 (by simp);exact absurd this.2 (by show¬((2:Int)<2);decide)
theorem Tt (W:World) (cs:List Bq) (vs:Array Value) (t:TypeId) (h:vs.toList=cs.map Bq.cell) (he:∀x∈cs,kU W W.heap.size x.A x.ts):Bv (W.alloc (.cells vs t)) (W.alloc (.cells vs t)).heap.size (some ⟨W.heap.size,0,none⟩) cs:=by
 refine ⟨.inr ⟨W.heap.size,0,rfl,by simp,fun j u hu=>?_⟩,fun x hx=>(he x hx).grow (ag W _)⟩;rw [Nat.zero_add,cell_of_row _ _ j _ _ _ (heap_alloc_last W _),←Array.getElem?_toList,h];exact hu
theorem JB (W:World) (zs:List Int) (vs:Array Value) (t:TypeId) (h:vs.toList=zs.map I):fO (W.alloc (.cells vs t)) (W.alloc (.cells vs t)).heap.size (some ⟨W.heap.size,0,none⟩) zs:=by
 refine aB.ints (.inr ⟨W.heap.size,0,rfl,by simp,fun j u hu=>?_⟩);rw [Nat.zero_add,cell_of_row _ _ j _ _ _ (heap_alloc_last W _),←Array.getElem?_toList,h];exact hu
theorem zoneB {w w':World} {e:Ending} (h:Y9 w [AU] ⟨#[98]⟩ e w'):Below w.heap.size w w'∧e= .returned (.tuple #[.agg jM,I 4]):=by
 obtain ⟨hb,⟨_,he⟩|⟨z,s,hz,_⟩⟩:=h
 ·exact ⟨hb,he⟩
 ·rw [Yp] at hz;cases hz
theorem QS (n wd:Int) (A:Option Addr) (c:Nat) (s:Zs) (W:World) (h:lS W W.heap.size (yT n wd A c s)):Calls Tryz.prog 12 #[.agg (yT n wd A c s).cells.toArray, .string ⟨#[98]⟩] W fun e w'=>Below W.heap.size W w'∧e= .returned (.tuple #[.agg jM,I 4]):=
 (KE (yT n wd A c s) 1 ⟨#[98]⟩ W rfl (by omega) (zl n wd A c s).2 h).mono (fun e w' h=>zoneB h)
theorem kU.head {w:World} {B b off:Nat} {y:fH} {ts:List fH} (h:kU w B (some ⟨b,off,none⟩) (y::ts)) (hy:y.cells.length=68):w.rangeAt b off y.cells∧b<B:=by
 rcases h.row with h|⟨b2,xH,h1,h2,h3⟩
 ·rw [List.flatMap_cons,bF,hy] at h;omega
 ·injection h1 with h1;injection h1 with h1 h4;subst h1 h4;exact ⟨fun j u hu=>h3 j u (by rw [List.flatMap_cons,List.getElem?_append_left (iP.1 hu).1];exact hu),h2⟩
theorem Yh (n wd:Int) (A:Option Addr) (c:Nat) (s:Zs) (W:World) (hn:n<1):Calls Tryz.prog 19 #[.agg (yT n wd A c s).cells.toArray] W (Gives (.int .i64 1) W):=
 Vb (vt n wd true) A 1 c W ⟨by show (0:Int)≤2;decide,by show (2:Int)<16;decide⟩ (by show n<1;exact hn)
end Go.Proofs.YtdibbemgpikgjaaGreat
