/- The texts Kb, Kc, Kd, Ke, Kf, Oc, Sc, Uc, Sd, Ud, Kn, in this order. -/
import Derived.Test.YtbaehbbonkljpaaGreatR00
import Derived.Test.YtbaehbbonkljpaaGreatR01
import Derived.Test.YtbaehbbonkljpaaGreatR03
import Derived.Test.YtbaehbbonkljpaaGreatR04
import Derived.Test.YtbaehbbonkljpaaGreatR07
import Derived.Test.YtbaehbbonkljpaaGreatR08
import Derived.Test.YtbaehbbonkljpaaGreatR09
import Derived.Test.YtbaehbbonkljpaaGreatR11
set_option maxRecDepth 10000
set_option maxHeartbeats 8000000
namespace Go.Proofs.YtbaehbbonkljpaaGreat
open Go Go.RowKit
def Io (d:Int):Int:=if d%7=0 then d else 7*d
def JA (z:Zn):Int:=match z.ax with| []=>1|_::_=>Io (cycD z.cal)
theorem jw.alloc {w W:World} {cs:Array Value} (h:jw w cs W) (o:Obj):jw w cs (W.alloc o):=h.grow (ag W o)
def gq (wd wk:Int):Nat→Int→Int→Int→Int×Bool
 |0,_,_,last=>(last,wk==5&&decide (0≤last))
 |n+1,d,cn,last=>if d%7=wd then (if cn+1=wk∧wk<5 then (d,true) else gq wd wk n (d+1) (cn+1) d) else gq wd wk n (d+1) cn last
def firstF (c:Cal) (bg y mo:Int):Int:=if mo=2 then bg+TI c y 1 else bg
def findF (c:Cal) (bg y:Int) (r:Yr):Int×Bool:=gq r.dh r.cZ (TI c y r.month).toNat (firstF c bg y r.month) 0 (-1)
theorem oM.MB (w:World) (t t1 t2:TypeId) (us vs:Array Value):oM w t us vs ((w.alloc (.cells us t1)).alloc (.cells vs t2)):=
 ⟨Row.lU (heap_alloc2_old w _ _),Row.lU (heap_alloc2_new w _ _),ai (ag w _) (ag _ _)⟩
def FRel (w:World) (us vs:Array Value) (wd wk fs:Int) (n:Nat) (res:Int×Bool) (c l d:Value) (wr:World):Prop:=
 ∃j:Nat,∃cn la:Int,j≤n∧c= .int .i64 cn∧l= .int .i64 la∧d= .int .i64 (fs+j)∧0≤cn∧cn≤j∧ -1≤la∧la≤fs+j∧gq wd wk (n - j) (fs+j) cn la=res∧oM w 0 us vs wr
theorem PY {wd wk:Int} {n j:Nat} {d cn la:Int} {res:Int×Bool} (h:gq wd wk (n - j) d cn la=res) (hj:n≤j):res=(la,wk==5&&decide (0≤la)):=by
 rw [Nat.sub_eq_zero_of_le hj] at h;exact h.symm
theorem PX {wd wk fs:Int} {n j:Nat} {cn la:Int} {res:Int×Bool} (h:gq wd wk (n - j) (fs+j) cn la=res) (hj:j<n) (ht:((fs+j)%7==wd)=false):gq wd wk (n - (j+1)) (fs+((j+1:Nat):Int)) cn la=res:=by
 rw [show n - j=(n - (j+1))+1 by omega,gq,if_neg (by simpa using ht)] at h;rw [show fs+((j+1:Nat):Int)=fs+(j:Int)+1 by omega];exact h
theorem Uo {wd wk fs:Int} {n j:Nat} {cn la:Int} {res:Int×Bool} (h:gq wd wk (n - j) (fs+j) cn la=res) (hj:j<n) (ht:((fs+j)%7==wd)=true) (hu:cn+1=wk∧wk<5):res=(fs+j,true):=by
 rw [show n - j=(n - (j+1))+1 by omega,gq,if_pos (by simpa using ht),if_pos hu] at h;exact h.symm
theorem Eu {wd wk fs:Int} {n j:Nat} {cn la:Int} {res:Int×Bool} (h:gq wd wk (n - j) (fs+j) cn la=res) (hj:j<n) (ht:((fs+j)%7==wd)=true) (hu:¬(cn+1=wk∧wk<5)):gq wd wk (n - (j+1)) (fs+((j+1:Nat):Int)) (cn+1) (fs+j)=res:=by
 rw [show n - j=(n - (j+1))+1 by omega,gq,if_pos (by simpa using ht),if_neg hu] at h;rw [show fs+((j+1:Nat):Int)=fs+(j:Int)+1 by omega];exact h
def uJ (ts:List Tr) (t:Tr):Nat→Nat
 |0=>0
 |k+1=>if t.at_<(ts[k]?.map (·.at_)).getD 0 then uJ ts t k else k+1
def qJ (ts:List Tr) (t:Tr):List Tr:=ts.take (uJ ts t ts.length)++t::ts.drop (uJ ts t ts.length)
theorem N8 (ts:List Tr) (t:Tr) (k:Nat):uJ ts t k≤k:=by
 induction k with
 |zero=>exact Nat.le_refl _
 |succ k ih=>unfold uJ;split<;>omega
theorem AU (ts:List Tr) (t:Tr):(qJ ts t).length=ts.length+1:=by
 have:=N8 ts t ts.length;simp [qJ];omega
def AQ (ts:List Tr) (t:Tr) (k:Nat):List Value:=(ts.take k++t::ts.drop k).flatMap Tr.cells
theorem Tf (ts:List Tr) (t:Tr):AQ ts t ts.length=ts.flatMap Tr.cells++ [I t.at_,I t.off]:=by
 simp [AQ,List.take_length,List.drop_length,Tr.cells]
theorem swap4 (P R:List Value) (q:Nat) (a0 a1 t0 t1:Value) (h:P.length=q*2):
  ((((P++a0::a1::t0::t1::R).set ((q+1)*2) a0).set ((q+1)*2+1) a1).set (q*2) t0).set (q*2+1) t1=P++t0::t1::a0::a1::R:=by
 rw [List.set_append_right _ _ (by omega),List.set_append_right _ _ (by omega),List.set_append_right _ _ (by omega),List.set_append_right _ _ (by omega)];rw [h,show (q+1)*2 - q*2=2 by omega,show (q+1)*2+1 - q*2=3 by omega,show q*2 - q*2=0 by omega,show q*2+1 - q*2=1 by omega];rfl
theorem take_at (ts:List Tr) (q:Nat) (hq:q<ts.length):∃x,ts[q]? =some x∧ts.take (q+1)=ts.take q++ [x]∧ts.drop q=x::ts.drop (q+1):=
 ⟨ts[q],bZ hq,by rw [List.take_succ_eq_append_getElem hq],by rw [List.drop_eq_getElem_cons hq]⟩
theorem Ee (ts:List Tr) (t x:Tr) (q:Nat) (hq:q<ts.length) (hx:ts[q]? =some x):
  AQ ts t (q+1)=(ts.take q).flatMap Tr.cells++I x.at_::I x.off::I t.at_::I t.off::(ts.drop (q+1)).flatMap Tr.cells∧
  AQ ts t q=(ts.take q).flatMap Tr.cells++I t.at_::I t.off::I x.at_::I x.off::(ts.drop (q+1)).flatMap Tr.cells∧((ts.take q).flatMap Tr.cells).length=q*2:=by
 obtain ⟨x',h1,h2,h3⟩:=take_at ts q hq;rw [hx] at h1;injection h1 with h1;subst h1;refine ⟨by simp [AQ,h2,Tr.cells],by simp [AQ,h3,Tr.cells],?_⟩;rw [cu (s:=2) Tr.cells _ (fun _ _=>rfl),List.length_take,Nat.min_eq_left (by omega)]
def iG (lo:Nat) (w:World) (A:Option Addr) (n c:Nat) (ts:List Tr):Prop:=w.ownsRow lo 105 2 (.slice A n c) n (ts.flatMap Tr.cells)
def InsP (lo n:Nat) (w:World) (ts:List Tr) (e:Ending) (w':World):Prop:=∃A c,e= .returned (.slice A n c)∧iG lo w' A n c ts∧Below lo w w'
theorem RF {lo:Nat} {w w':World} {row:Option Nat} (h:w.grownBy w' row) (hr:∀g,row=some g→lo≤g) (hlo:lo≤w.heap.size):Below lo w w':=
 ⟨h.os,h.tape,h.output,h.size,fun k hk=>h.block k (by omega) (fun e=>by have:=hr k e.symm;omega)⟩
theorem Jp {lo:Nat} {w:World} {A:Option Addr} {n c:Nat} {ts:List Tr} (h:iG lo w A n c ts):∀g,(Value.slice A n c).ownBlock=some g→lo≤g:=fun g hg=>(World.ownsRow.lt h g hg).1
structure InR (lo:Nat) (W:World) (g c n:Nat) (ts:List Tr) (t:Tr) (k:Nat) (wr:World):Prop where
 own:wr.ownsRow lo 105 2 (.slice (some ⟨g,0,none⟩) (n+1) c) (n+1) (AQ ts t k)
 up:Below lo W wr
theorem UG (w:World) (o:Obj) (a b:Value) (t:TypeId):∀j u,[a,b][j]? =some u→((w.alloc o).alloc (.cells #[a,b] t)).cell? ((⟨w.heap.size+1,0,none⟩:Addr).add j)=some u:=by
 have h:=cell_two_new (w.alloc o) a b t;simpa using h
def InRel (lo:Nat) (W:World) (g c n:Nat) (ts:List Tr) (t:Tr) (i:Value) (wr:World):Prop:=∃k:Nat,k≤n∧i= .int .i64 k∧uJ ts t k=uJ ts t n∧InR lo W g c n ts t k wr
theorem InR.swap {lo g c n q:Nat} {W W2:World} {ts:List Tr} {zH Cm Ey Ye:Int} (h:InR lo W g c n ts ⟨zH,Cm⟩ (q+1) W2) (hlo:lo≤W.heap.size) (hq:q<ts.length) (hx:ts[q]? =some ⟨Ey,Ye⟩) (o:Obj):
  InR lo W g c n ts ⟨zH,Cm⟩ q (((((W2.setCell ⟨g,(q+1)*2,none⟩ (I Ey)).setCell ⟨g,(q+1)*2+1,none⟩ (I Ye)).setCell ⟨g,q*2,none⟩ (I zH)).setCell ⟨g,q*2+1,none⟩ (I Cm)).alloc o):=by
 obtain ⟨s1,s2,s3⟩:=Ee ts ⟨zH,Cm⟩ ⟨Ey,Ye⟩ q hq hx;have h1:=(((((((h.own.stored ((q+1)*2) (I Ey)).1.stored ((q+1)*2+1) (I Ye)).1).stored (q*2) (I zH)).1).stored (q*2+1) (I Cm)).1).alloc o;have hg:lo≤g:=(World.ownsRow.lt h.own g rfl).1;refine ⟨?_,((((h.up.setCell (p:=⟨g,(q+1)*2,none⟩) hg _).setCell (p:=⟨g,(q+1)*2+1,none⟩) hg _).setCell (p:=⟨g,q*2,none⟩) hg _).setCell (p:=⟨g,q*2+1,none⟩) hg _).alloc (Nat.le_trans hlo (by have:=h.up.size;simpa using this)) o⟩;rw [s1,swap4 _ _ _ _ _ _ _ s3,←s2] at h1;exact h1
theorem N7 {ts:List Tr} {t x:Tr} {q:Nat} (hx:ts[q]? =some x) (h:t.at_<x.at_):uJ ts t (q+1)=uJ ts t q:=by
 rw [uJ,hx,if_pos (by simpa using h)]
theorem En {ts:List Tr} {t x:Tr} {q:Nat} (hx:ts[q]? =some x) (h:¬t.at_<x.at_):uJ ts t (q+1)=q+1:=by
 rw [uJ,hx,if_neg (by simpa using h)]
def ytr (c:Cal) (bg y:Int) (r r':Yr) (out:List Tr):List Tr:=if (findF c bg y r).2=true then qJ out ⟨(findF c bg y r).1*1440+r.minute - r'.off,r.off⟩ else out
def UX (c:Cal) (r0 r1:Yr) (stop:Int):Nat→Int→Int→List Tr→List Tr
 |0,_,_,out=>out
 |n+1,bg,y,out=>if bg<stop then UX c r0 r1 stop n (bg+Ot c y) (y+1) (ytr c bg y r1 r0 (ytr c bg y r0 r1 out)) else out
def VI (z:Zn):List Tr:=match z.ax with
 | [r0,r1]=>UX z.cal r0 r1 (z.cal.aJ+JA z) 1400 z.cal.aJ 1 []
 |_=> []
def gG (ts:List Tr) (i:Nat):Int:=(ts[i]?.map (·.at_)).getD 0
def kT (ts:List Tr) (size:Int) (i:Nat):Int:=(if i+1<ts.length then gG ts (i+1) else gG ts 0+size) - gG ts i
def ed (ts:List Tr) (size:Int):Bool:=(List.range ts.length).all fun i=>decide (2160≤kT ts size i)
structure YrS (r:Yr):Prop where
 mo:r.month=1∨r.month=2
 wk:1≤r.cZ∧r.cZ≤5
 wd:0≤r.dh∧r.dh≤6
 mi:0≤r.minute∧r.minute≤1439
 of: -1080≤r.off∧r.off≤1080
theorem XU (wd wk:Int) (n:Nat):∀d cn la:Int, -1≤la→la≤d→ -1≤(gq wd wk n d cn la).1∧(gq wd wk n d cn la).1≤d+n∨(gq wd wk n d cn la).1=d:=by
 induction n with
 |zero=>intro d cn la h1 h2;exact .inl ⟨h1,by show la≤_;omega⟩
 |succ n ih=>
  intro d cn la h1 h2;unfold gq;split
  ·split
   ·exact .inr rfl
   ·rcases ih (d+1) (cn+1) d (by omega) (by omega) with h|h
    ·exact .inl ⟨h.1,by omega⟩
    ·exact .inl ⟨by omega,by omega⟩
  ·rcases ih (d+1) cn la h1 (by omega) with h|h
   ·exact .inl ⟨h.1,by omega⟩
   ·exact .inl ⟨by omega,by omega⟩
theorem Ti {ts:List Tr} {t x:Tr} (h:x∈qJ ts t):x=t∨x∈ts:=by
 unfold qJ at h;rcases List.mem_append.1 h with h|h
 ·exact .inr (List.mem_of_mem_take h)
 ·rcases List.mem_cons.1 h with h|h
  ·exact .inl h
  ·exact .inr (List.mem_of_mem_drop h)
theorem iG.below {lo n c:Nat} {w w':World} {A:Option Addr} {ts:List Tr} (h:iG lo w A n c ts) (hb:Below w.heap.size w w'):iG lo w' A n c ts:=
 World.ownsRow.kept (row:=none) h ⟨hb.os,hb.tape,hb.output,hb.size,fun k hk _=>hb.block k hk⟩ (by cases (Value.slice A n c).ownBlock<;>simp)
structure YS (w:World) (cs:Array Value) (W:World) (A:Option Addr) (n c:Nat) (ts:List Tr):Prop where
 row:Row W w.heap.size cs
 own:iG (w.heap.size+1) W A n c ts
 up:Below w.heap.size w W
 len:ts.length=n
theorem YS.call {w W W':World} {cs:Array Value} {A:Option Addr} {n c:Nat} {ts:List Tr} (h:YS w cs W A n c ts) (hb:Below W.heap.size W W'):YS w cs W' A n c ts:=
 ⟨h.row.keep hb,h.own.below hb,ai h.up hb,h.len⟩
theorem YS.ins {w W W':World} {cs:Array Value} {A A':Option Addr} {n c c':Nat} {ts ts':List Tr} (h:YS w cs W A n c ts) (hb:Below (w.heap.size+1) W W') (ho:iG (w.heap.size+1) W' A' (n+1) c' ts') (hl:ts'.length=n+1):YS w cs W' A' (n+1) c' ts':=
 ⟨⟨dW h.row.1 hb.size,fun i=>(hb.cell (p:=⟨w.heap.size,i,none⟩) (Nat.lt_succ_self _)).trans (h.row.2 i)⟩,ho,h.up.trans (hb.mono (Nat.le_succ _)),hl⟩
theorem YS.lo {w W:World} {cs:Array Value} {A:Option Addr} {n c:Nat} {ts:List Tr} (h:YS w cs W A n c ts):w.heap.size+1≤W.heap.size:=h.row.1
structure YC (W:World) (b off:Nat) (r0 r1:Yr):Prop where
 a:W.rangeAt b off r0.cells
 b:W.rangeAt b (off+5) r1.cells
def WB (w:World) (ts:List Tr) (ok:Bool) (e:Ending) (w':World):Prop:=∃A n c,ts.length=n∧e= .returned (.tuple #[.slice A n c, .bool ok])∧iG w.heap.size w' A n c ts∧Below w.heap.size w w'
theorem iG.lower {lo lo' n c:Nat} {w:World} {A:Option Addr} {ts:List Tr} (h:iG lo w A n c ts) (hl:lo'≤lo):iG lo' w A n c ts:=by
 rcases h.2 with h2|⟨g,cap,cur,h1,h2,h3⟩
 ·exact ⟨h.1, .inl h2⟩
 ·exact ⟨h.1, .inr ⟨g,cap,cur,h1,Nat.le_trans hl h2,h3⟩⟩
def GRel (w:World) (cs:Array Value) (A:Option Addr) (n cp:Nat) (ts:List Tr) (size:Int) (i:Value) (wr:World):Prop:=
 ∃k:Nat,k≤n∧i= .int .i64 k∧(∀j,j<k→2160≤kT ts size j)∧YS w cs wr A n cp ts
theorem qQ {lo g n cp:Nat} {W:World} {ts:List Tr} (h:iG lo W (some ⟨g,0,none⟩) n cp ts) (hl:ts.length=n) (k:Nat) (hk:k<n):W.cell? ⟨g,k*2,none⟩=some (I (gG ts k)):=by
 have hx:ts[k]? =some ts[k]:=bZ (by omega);rw [World.ownsRow.cellAt h (k*2) (by omega),show k*2=k*2+0 from rfl,flat_get (s:=2) Tr.cells ts (fun _ _=>rfl) k 0 _ hx (by omega)];unfold gG;rw [hx];rfl
theorem Iq {ts:List Tr} {n:Nat} {size:Int} (hl:ts.length=n) (h:∀j,j<n→2160≤kT ts size j):ed ts size=true:=by
 unfold ed;rw [List.all_eq_true];intro j hj;exact decide_eq_true (h j (by rw [←hl];exact List.mem_range.1 hj))
theorem NK {ts:List Tr} {n k:Nat} {size:Int} (hl:ts.length=n) (hk:k<n) (h:kT ts size k<2160):ed ts size=false:=by
 unfold ed;rw [List.all_eq_false];exact ⟨k,List.mem_range.2 (by omega),by simp;omega⟩
theorem Eb {ts:List Tr} {k:Nat} {size:Int} (h:∀j,j<k→2160≤kT ts size j) (h1:2160≤kT ts size k):∀j,j<k+1→2160≤kT ts size j:=by
 intro j hj;rcases Nat.lt_succ_iff_lt_or_eq.1 hj with h2|rfl
 ·exact h j h2
 ·exact h1
def jE (ts:List Tr) (i:Nat):Int:=(ts[i]?.map (·.off)).getD 0
def qo (ts:List Tr) (size t:Int):Int:=if gG ts 0<t then (t - gG ts 0).tdiv size else 0
def eU (ts:List Tr) (size t:Int):Tr×Bool:=
 if ts.length=0 then (⟨0,0⟩,false)
 else match (List.range ts.length).find? (fun j=>decide (t≤gG ts j+qo ts size t*size)) with
  |some j=>(⟨gG ts j+qo ts size t*size,jE ts j⟩,true)
  |none=>(⟨gG ts 0+(qo ts size t+1)*size,jE ts 0⟩,true)
theorem xy {ts:List Tr} {size t q:Int} {n k:Nat} (hq:qo ts size t=q) (hl:ts.length=n) (hk:k<n) (h:∀j,j<k→gG ts j+q*size<t) (h1:t≤gG ts k+q*size):eU ts size t=(⟨gG ts k+q*size,jE ts k⟩,true):=by
 have hf:(List.range ts.length).find? (fun j=>decide (t≤gG ts j+q*size))=some k:=by
  rw [List.find?_range_eq_some];exact ⟨decide_eq_true h1,List.mem_range.2 (by omega),fun j hj=>by have:=h j hj;simp;omega⟩
 unfold eU;rw [if_neg (by omega),hq,hf]
theorem Ac {ts:List Tr} {size t q:Int} {n:Nat} (hq:qo ts size t=q) (hl:ts.length=n) (hk:0<n) (h:∀j,j<n→gG ts j+q*size<t):eU ts size t=(⟨gG ts 0+(q+1)*size,jE ts 0⟩,true):=by
 have hf:(List.range ts.length).find? (fun j=>decide (t≤gG ts j+q*size))=none:=by
  rw [List.find?_range_eq_none];intro j hj;have:=h j (by omega);simp;omega
 unfold eU;rw [if_neg (by omega),hq,hf]
theorem uo {lo g n cp:Nat} {W:World} {ts:List Tr} (h:iG lo W (some ⟨g,0,none⟩) n cp ts) (hl:ts.length=n) (k:Nat) (hk:k<n):W.cell? ⟨g,k*2+1,none⟩=some (I (jE ts k)):=by
 have hx:ts[k]? =some ts[k]:=bZ (by omega);rw [World.ownsRow.cellAt h (k*2+1) (by omega),flat_get (s:=2) Tr.cells ts (fun _ _=>rfl) k 1 _ hx (by omega)];unfold jE;rw [hx];rfl
theorem MN (n l:Int) (w:World) (hl:0≤l) (hl2:l≤4000000000000000):Calls Tryz.prog 63 #[I n,I l] w fun e w'=>e= .returned (.bool (decide (-l≤n)&&decide (n≤l)))∧w'=w:=by
 by_cases h: -l≤n
 ·have HH:=ae h;go_enter Tryz.func63,Tryz.ntmps63;go_wp2_with fail;go_ret;exact ⟨by simp [HH.out],rfl⟩
 ·have HH:=ae h;go_enter Tryz.func63,Tryz.ntmps63;go_wp2_with fail;go_ret;exact ⟨by rw [decide_eq_false (show¬ -l≤n by have:=HH.out;omega)];rfl,rfl⟩
structure Gz (z:Zn):Prop where
 cal:ED z.cal
 start: -1080≤z.start∧z.start≤1080
 hor:0≤z.hor∧z.hor≤1000000
 Oq:z.trans.length≤3
 tr:∀x∈z.trans,(-1080≤x.off∧x.off≤1080)∧0≤x.at_∧x.at_<z.hor
 gap:∀i,i+1<z.trans.length→gG z.trans i+2160≤gG z.trans (i+1)
 yr:z.ax= []∨∃r0 r1,z.ax= [r0,r1]∧YrS r0∧YrS r1
theorem wR {w W:World} {C:Option Addr} {ts:List Tr} (h:az w w.heap.size C (ts.flatMap Tr.cells)) (hb:Below w.heap.size w W) (h0:0<ts.length):∃b off,C=some ⟨b,off,none⟩∧∀k,k<ts.length→W.cell? ⟨b,off+k*2,none⟩=some (I (gG ts k))∧W.cell? ⟨b,off+k*2+1,none⟩=some (I (jE ts k)):=by
 obtain ⟨b,off,e,hb1,hcl⟩:=h.there (by rw [cu (s:=2) Tr.cells _ fun _ _=>rfl];omega);refine ⟨b,off,e,fun k hk=>?_⟩;have hx:ts[k]? =some ts[k]:=bZ hk;have hr:=aU (az.elem (s:=2) (fun _ _=>rfl) hcl k _ hx) hb hb1;have e1:gG ts k=ts[k].at_:=by unfold gG;rw [hx];rfl
 have e2:jE ts k=ts[k].off:=by unfold jE;rw [hx];rfl
 rw [e1,e2];exact ⟨hr 0 _ rfl,hr 1 _ rfl⟩
theorem Gz.at_bd {z:Zn} (h:Gz z) (k:Nat) (hk:k<z.trans.length):(-1080≤jE z.trans k∧jE z.trans k≤1080)∧0≤gG z.trans k∧gG z.trans k<z.hor:=by
 have hx:z.trans[k]? =some z.trans[k]:=bZ hk;have e1:gG z.trans k=z.trans[k].at_:=by unfold gG;rw [hx];rfl
 have e2:jE z.trans k=z.trans[k].off:=by unfold jE;rw [hx];rfl
 rw [e1,e2];exact h.tr _ (List.getElem_mem hk)
attribute [local go_sem] kL kQ kM kR nZ og kJ kN kK kP
def Ai (c:Cal):List UInt8:=le c.aJ 4++((le c.aj.length 1++fZ c.aj)++(le (c.aY+1) 1++(le c.rules.length 1++c.rules.flatMap jr)))
def znB (z:Zn):List UInt8:=Ai z.cal++(le z.start 2++((le z.trans.length 2++z.trans.flatMap iI)++(le z.hor 8++(le z.ax.length 1++z.ax.flatMap jv))))
def Qo (e:Ze):List UInt8:=(le e.name.size 1++e.name.data.toList)++znB e.z
end Go.Proofs.YtbaehbbonkljpaaGreat
namespace Go.Proofs.YtbaehbbonkljpaaGreat
open Go Go.RowKit
attribute [local go_sem] dI dM dJ dN fJ fK dG dK dH dL jc jd
theorem ED.sm {c:Cal} (h:ED c):∀x∈c.rules,Xv x:=fun x hx=>by
 have:=h.rl x hx;unfold Xv;omega
def TCalG (M:Nat) (w:World) (rb cb co:Nat) (t:TypeId) (cs:Array Value) (c:Cal) (R:List UInt8) (e:Ending) (w':World):Prop:=
 e= .returned (.tuple #[])∧∃A a B b,jH M w' rb R∧bI w rb cb t (iJ cs co [I c.aJ, .slice A c.aj.length a,I c.aY, .slice B c.rules.length b]) w'∧
  w'.ownsRow w.heap.size 3 1 (.slice A c.aj.length a) c.aj.length (c.aj.map I)∧w'.ownsRow w.heap.size 131 3 (.slice B c.rules.length b) c.rules.length (c.rules.flatMap Lr.cells)
end Go.Proofs.YtbaehbbonkljpaaGreat
namespace Go.Proofs.YtbaehbbonkljpaaGreat
open Go Go.RowKit
attribute [local go_sem] dI dM dJ dN fJ fK dG dK dH dL jc jd
theorem Jj (M:Nat) (w:World) (rb cb co:Nat) (t:TypeId) (cs:Array Value) (B0:List UInt8) (hr:jH M w rb B0) (hp:w.heap[cb]? =some (.cells cs t (0,0))) (h0:co<cs.size) (h1:cs[co+1]? =some (.slice none 0 0)) (h2:cs[co+2]? =some (I 0)) (h3:cs[co+3]? =some (.slice none 0 0))
  (hM:M≤cb) (hne:cb≠rb):
  Calls Tryz.prog 68 #[.iface 121 (pt rb), .pointer (some ⟨cb,co,none⟩)] w (df (LJ B0) (dD w rb cb t cs) fun c R=>TCalG M w rb cb co t cs c R):=by
 have hcl:cb<w.heap.size:=(bK.1 hp).1;have hlo:=hr.lo;have hrw:=hr.lt;have e1:co+1<cs.size:=(bK.1 h1).1;have e2:co+2<cs.size:=(bK.1 h2).1;have e3:co+3<cs.size:=(bK.1 h3).1;have mZ:=ae (fD M w.drew rb cb co 4 t cs B0 hr.drew (by omega) hp h0 hM hne);have HX:Hid (cs[co+1]? =some (.slice none 0 0)∧cs[co+2]? =some (I 0)∧cs[co+3]? =some (.slice none 0 0)):=ae ⟨h1,h2,h3⟩;clear hr hp h1 h2 h3;go_enter Tryz.func68,Tryz.ntmps68;go_wp2_with fail;go_still_tail 7,(by kernel_rfl);go_wp2_with fail;refine mZ.out.mono ?_;intro e w1 h;rcases h.get with ⟨hq,hd⟩|⟨ep,B1,hq,rfl,hr1,hp1⟩
 ·obtain ⟨rfl,hd2⟩:=hd;exact ⟨rfl,df.no (by simp only [LJ,hq,Option.bind_none]) (dD.bQ ⟨rfl,hd2⟩)⟩
 have iM:=ae hq;have nS:=ae hp1.bQ;have HL:=ae (MK M w1 rb cb (co+1) t (cs.setIfInBounds co (I ep)) B1 hr1 hp1.tgt (by rw [Array.getElem?_setIfInBounds_ne (by omega)];exact HX.out.1) hM hne);clear hr1 hp1 mZ h hq;go_wp2_with fail;refine HL.out.mono ?_;intro e w2 h;rcases h.get with ⟨hq,hd⟩|⟨ms,B2,hq,rfl,A,a,hr2,hp2,ho2,_⟩
 ·obtain ⟨rfl,hd2⟩:=hd;exact ⟨rfl,df.no (by simp only [LJ,iM.out,hq,Option.bind_some,Option.bind_none]) (dD.after ⟨rfl,hd2⟩ nS.out ((dP.refl cs).set rfl))⟩
 have iH:=ae hq;obtain ⟨n,hn⟩:∃n,ms.length=n:=⟨_,rfl⟩;have HN:=ae hn;rw [hn] at hp2 ho2;obtain ⟨C2,hC2⟩:∃C,(cs.setIfInBounds co (I ep)).setIfInBounds (co+1) (.slice A n a)=C:=⟨_,rfl⟩;rw [hC2] at hp2;have HCZ:Hid (dP cs C2):=ae (by rw [←hC2];exact ((dP.refl cs).set rfl).set rfl);have g2:C2[co+2]? =some (I 0):=by rw [←hC2,Array.getElem?_setIfInBounds_ne (by omega),Array.getElem?_setIfInBounds_ne (by omega)];exact HX.out.2.1
 have g3:C2[co+3]? =some (.slice none 0 0):=by rw [←hC2,Array.getElem?_setIfInBounds_ne (by omega),Array.getElem?_setIfInBounds_ne (by omega)];exact HX.out.2.2
 have HP2:=ae (nS.out.trans hp2);have rF:=ae (aK ho2 nS.out.size);have HE2:=ae hC2;have d2:w2.cell? ⟨cb,co+2,none⟩=some (I 0):=(hp2.cell (co+2)).trans g2;have hs2:=hp2.size;have hs1:=nS.out.size;have hb2:=ag w2 (.cells #[I 1] 3);have HB2:=ae hb2;have hrl:=hr2.lt;have HC2:=ae (fD M (w2.alloc (.cells #[I 1] 3)) rb w2.heap.size 0 1 3 #[I 1] B2 (hr2.below hb2 hrl) (by omega) (heap_alloc_last w2 _) (by decide) (by omega) (by omega));clear hr2 hp2 ho2 hC2 HL hb2 h hq hn;go_wp2_with fail;refine HC2.out.mono ?_;intro e w3 h;rcases h.get with ⟨hq,hd⟩|⟨lv,B3,hq,rfl,hr3,hp3⟩
 ·obtain ⟨rfl,D,hD,hT⟩:=hd;have hs3:=hT.size;rw [World.size_alloc] at hs3;have hk3:dA rb w2 w3:=⟨hT.os,hT.tape,hT.output,by omega,fun b hb hbr=>(hT.block b (by simp;omega) (by omega) hbr).trans (HB2.out.block b hb)⟩;exact ⟨rfl,df.no (by simp only [LJ,iM.out,iH.out,hq,Option.bind_some,Option.bind_none]) ⟨rfl,C2,HCZ.out,HP2.out.qg hk3 (by omega) hne⟩⟩
 have vT:=ae hq;obtain ⟨m0,hm0,hm1⟩:=qL hq;obtain ⟨lp,rfl⟩:∃lp,lv=lp+1:=⟨lv - 1,by omega⟩;have hlp0: -1≤lp:=by omega
 have hlp1:lp≤255:=by omega
 have hlpv:IntKind.i64.wrap (lp+1 - 1)=lp:=by rw [IntKind.wrap_i64];omega
 have d3:w3.cell? ⟨w2.heap.size,0,none⟩=some (I (lp+1)):=hp3.cell 0;have hs3:=hp3.size;rw [World.size_alloc] at hs3;have hk3:dA rb w2 w3:=⟨hp3.os,hp3.tape,hp3.output,by omega,fun b hb hbr=>(hp3.block b (by simp;omega) (by omega) hbr).trans (HB2.out.block b hb)⟩;have Fp:bI w rb cb t C2 w3:=HP2.out.qg hk3 (by omega) hne;have e3':w3.cell? ⟨cb,co+2,none⟩=some (I 0):=(Fp.cell (co+2)).trans g2;have f3:=Fp.eY (co+2);have rX:=ae (Fp.put (co+2) (I lp));have HR4:=ae (hr3.put (o:=co+2) hM hne (I lp));have ho3:w3.ownsRow w.heap.size 3 1 (.slice A n a) n (ms.map I):=bJ rF.out hk3 hrw;have zS:=ae (bY (u:=I lp) (p:=⟨cb,co+2,none⟩) ho3 (dZ ho3 cb hcl));clear hr3 hp3 hk3 Fp HC2 ho3 d2 h hq hm0 hm1;go_wp2_with fail;obtain ⟨w4,hw4⟩:∃W,w3.setCell ⟨cb,co+2,none⟩ (I lp)=W:=⟨_,rfl⟩;rw [hw4] at rX HR4 zS ⊢;refine (Jk M w4 rb cb (co+3) t _ B3 HR4.out rX.out.tgt (by rw [Array.getElem?_setIfInBounds_ne (by omega)];exact g3) hM hne).mono ?_;intro e w5 h;rcases h.get with ⟨hq,hd⟩|⟨rs,B4,hq,rfl,B,b,yV,QG,ho5,_⟩
 ·obtain ⟨rfl,hd2⟩:=hd;exact ⟨rfl,df.no (by simp only [LJ,iM.out,iH.out,vT.out,hq,Option.bind_some,Option.map_none]) (dD.after ⟨rfl,hd2⟩ rX.out (HCZ.out.set rfl))⟩
 have DK:=ae hq;have rG:=ae yV;have pU:=ae (aN zS.out (fun b h1 h2=>QG.block b h2 (by omega) (by omega)));have rV:=ae (aK ho5 rX.out.size);have Vq:=ae (rX.out.trans QG);clear yV QG ho5 hw4 d3 e3' f3 g2 g3 h hq;go_wp2_with fail
 go_end0
 refine df.yes (a:=⟨ep,ms,lp,rs⟩) (R:=B4) (by simp only [LJ,iM.out,iH.out,vT.out,DK.out,Option.bind_some,Option.map_some,Int.add_sub_cancel]) ?_;refine ⟨rfl,A,a,B,b,rG.out,?_,?_,rV.out⟩
 ·have h:=Vq.out;rw [←HE2.out] at h;simp only [HN.out];exact h
 ·simp only [HN.out];exact pU.out
end Go.Proofs.YtbaehbbonkljpaaGreat
namespace Go.Proofs.YtbaehbbonkljpaaGreat
open Go Go.RowKit
attribute [local go_sem] dI dM dJ dN fJ fK dG dK dH dL jc jd
structure CY (lo:Nat) (w:World) (s:Zs) (z:Zn):Prop where
 aj:w.ownsRow lo 3 1 (.slice s.A z.cal.aj.length s.a) z.cal.aj.length (z.cal.aj.map I)
 rules:w.ownsRow lo 131 3 (.slice s.B z.cal.rules.length s.b) z.cal.rules.length (z.cal.rules.flatMap Lr.cells)
 trans:w.ownsRow lo 105 2 (.slice s.C z.trans.length s.c) z.trans.length (z.trans.flatMap Tr.cells)
 ax:w.ownsRow lo 107 5 (.slice s.D z.ax.length s.d) z.ax.length (z.ax.flatMap Yr.cells)
theorem CY.blocks {lo:Nat} {w w':World} {s:Zs} {z:Zn} (h:CY lo w s z) (hb:∀k,lo≤k→k<w.heap.size→w'.heap[k]? =w.heap[k]?):CY lo w' s z:=
 ⟨aN h.aj hb,aN h.rules hb,aN h.trans hb,aN h.ax hb⟩
theorem CY.base {lo lo':Nat} {w:World} {s:Zs} {z:Zn} (h:CY lo w s z) (hl:lo'≤lo):CY lo' w s z:=
 ⟨aK h.aj hl,aK h.rules hl,aK h.trans hl,aK h.ax hl⟩
theorem CY.at {lo:Nat} {w:World} {s:Zs} {z:Zn} (h:CY lo w s z):jy w w.heap.size s z:=
 ⟨az.dO h.aj,az.dO h.rules,az.dO h.trans,az.dO h.ax⟩
theorem Gz.sm {z:Zn} (h:Gz z):(∀x∈z.trans,trSm x)∧∀x∈z.ax,UY x:=by
 refine ⟨fun x hx=>?_,fun x hx=>?_⟩
 ·have h1:=h.tr x hx;have h2:=h.hor;unfold trSm;omega
 ·have key:∀r,YrS r→UY r:=fun r hr=>by
   have h1:=hr.mo;have h2:=hr.wk;have h3:=hr.wd;have h4:=hr.mi;have h5:=hr.of;unfold UY;omega
  rcases h.yr with e|⟨r0,r1,e,h0,h1⟩
  ·rw [e] at hx;cases hx
  ·rw [e] at hx;rcases List.mem_cons.1 hx with rfl|hx
   ·exact key _ h0
   ·rw [List.mem_singleton.1 hx];exact key _ h1
theorem Gz.yl {z:Zn} (h:Gz z):z.ax.length≤2:=by
 rcases h.yr with e|⟨r0,r1,e,_,_⟩<;>simp [e]
def TEntG (M:Nat) (w:World) (rb eb eo:Nat) (t:TypeId) (cs:Array Value) (x:Ze) (R:List UInt8) (e:Ending) (w':World):Prop:=
 e= .returned (.tuple #[])∧∃s:Zs,jH M w' rb R∧bI w rb eb t (iJ cs eo (⟨x,s⟩:dB).cells.toList) w'∧CY w.heap.size w' s x.z
end Go.Proofs.YtbaehbbonkljpaaGreat
namespace Go.Proofs.YtbaehbbonkljpaaGreat
open Go Go.RowKit
attribute [local go_sem] dI dM dJ dN fJ fK dG dK dH dL jc jd
theorem UB (M:Nat) (w:World) (rb eb eo:Nat) (t:TypeId) (cs:Array Value) (B0:List UInt8) (hr:jH M w rb B0) (hp:w.heap[eb]? =some (.cells cs t (0,0))) (hz:∀j,j<9→cs[eo+j]? =nM[j]?) (hM:M≤eb) (hne:eb≠rb):
  Calls Tryz.prog 48 #[.iface 121 (pt rb), .pointer (some ⟨eb,eo,none⟩)] w (df (NV B0) (dD w rb eb t cs) fun x R=>TEntG M w rb eb eo t cs x R):=by
 have hel:eb<w.heap.size:=(bK.1 hp).1;have hrw:=hr.lt;have hz0:cs[eo]? =some (.string ⟨#[]⟩):=hz 0 (by decide);have hz8:eo+8<cs.size:=(bK.1 ((hz 8 (by decide)).trans (rfl:nM[8]? =some (.slice none 0 0)))).1;have mZ:=ae (ML M w.drew rb eb eo t cs ⟨#[]⟩ B0 hr.drew hp hz0 hM hne);have HZ:Hid (∀j,1≤j→j<9→cs[eo+j]? =nM[j]?):=ae fun j _ hj=>hz j hj;clear hr hp hz hz0;go_enter Tryz.func48,Tryz.ntmps48;go_wp2_with fail;go_still_tail 7,(by kernel_rfl);go_wp2_with fail;refine mZ.out.mono ?_;intro e w1 h;rcases h.get with ⟨hq,hd⟩|⟨nm,B1,hq,rfl,hr1,hp1⟩
 ·obtain ⟨rfl,hd2⟩:=hd;exact ⟨rfl,df.no (by simp only [NV,hq,Option.bind_none]) (dD.bQ ⟨rfl,hd2⟩)⟩
 have Gw:=ae hq;obtain ⟨C1,hC1⟩:∃C,cs.setIfInBounds eo (.string nm)=C:=⟨_,rfl⟩;rw [hC1] at hp1;have k1:∀j,1≤j→j<9→C1[eo+j]? =nM[j]? :=fun j h1 h2=>by rw [←hC1,Array.getElem?_setIfInBounds_ne (by omega)];exact HZ.out j h1 h2
 have l1:C1.size=cs.size:=by rw [←hC1,Array.size_setIfInBounds]
 have m1:dP cs C1:=by rw [←hC1];exact (dP.refl cs).set rfl
 have nS:=ae hp1.bQ;have iM:=ae hC1;have HC2:=ae (Jj M w1 rb eb (eo+1) t C1 B1 hr1 hp1.tgt (by omega) (k1 2 (by decide) (by decide)) (k1 3 (by decide) (by decide)) (k1 4 (by decide) (by decide)) hM hne);have jX:=ae k1;clear hr1 hp1 mZ hC1 k1 h hq;go_wp2_with fail;refine HC2.out.mono ?_;intro e w2 h;rcases h.get with ⟨hq,hd⟩|⟨cal,B2,hq,rfl,A,a,B,b,hr2,hp2,ho2,hq2⟩
 ·obtain ⟨rfl,hd2⟩:=hd;exact ⟨rfl,df.no (by simp only [NV,Gw.out,hq,Option.bind_some,Option.bind_none]) (dD.after ⟨rfl,hd2⟩ nS.out m1)⟩
 have OV:=ae hq;obtain ⟨C2,hC2⟩:∃C,iJ C1 (eo+1) [I cal.aJ, .slice A cal.aj.length a,I cal.aY, .slice B cal.rules.length b]=C:=⟨_,rfl⟩;rw [hC2] at hp2;have k2:∀j,5≤j→j<9→C2[eo+j]? =nM[j]? :=fun j h1 h2=>by
  rw [←hC2];unfold iJ iJ iJ iJ iJ;rw [Array.getElem?_setIfInBounds_ne (by omega),Array.getElem?_setIfInBounds_ne (by omega),Array.getElem?_setIfInBounds_ne (by omega),Array.getElem?_setIfInBounds_ne (by omega)];exact jX.out j (by omega) h2
 have l2:C2.size=cs.size:=by rw [←hC2,sW];exact l1
 have m2:dP cs C2:=by rw [←hC2];unfold iJ iJ iJ iJ iJ;exact (((m1.set rfl).set rfl).set rfl).set rfl
 have HP2:=ae (nS.out.trans hp2);have rF:=ae (aK ho2 nS.out.size);have HR2:=ae (aK hq2 nS.out.size);have iH:=ae hC2;have yO:=ae (xO M w2.drew rb eb (eo+1+4) t C2 B2 hr2.drew hp2.tgt (by omega) hM hne);have jI:=ae k2;clear hr2 hp2 ho2 hq2 HC2 hC2 k2 h hq;go_wp2_with fail;go_still_tail 7,(by kernel_rfl);go_wp2_with fail;refine yO.out.mono ?_;intro e w3 h;rcases h.get with ⟨hq,hd⟩|⟨st,B3,hq,rfl,hr3,hp3⟩
 ·obtain ⟨rfl,hd2⟩:=hd;exact ⟨rfl,df.no (by simp only [NV,Gw.out,OV.out,hq,Option.bind_some,Option.bind_none]) (dD.after (dD.bQ ⟨rfl,hd2⟩) HP2.out m2)⟩
 have Y4:=ae hq;obtain ⟨C3,hC3⟩:∃C,C2.setIfInBounds (eo+1+4) (I st)=C:=⟨_,rfl⟩;rw [hC3] at hp3;have k3:∀j,6≤j→j<9→C3[eo+j]? =nM[j]? :=fun j h1 h2=>by rw [←hC3,Array.getElem?_setIfInBounds_ne (by omega)];exact jI.out j (by omega) h2
 have l3:C3.size=cs.size:=by rw [←hC3,Array.size_setIfInBounds];exact l2
 have m3:dP cs C3:=by rw [←hC3];exact m2.set rfl
 have hk3:∀b,w.heap.size≤b→b<w2.heap.size→w3.heap[b]? =w2.heap[b]? :=fun b h1 h2=>hp3.block b h2 (by omega) (by omega);have qC:=ae (aN rF.out hk3);have HR3:=ae (aN HR2.out hk3);have gu:=ae (HP2.out.trans hp3.bQ);have vT:=ae hC3;have zl:=ae (FZ M w3 rb eb (eo+1+5) t C3 B3 hr3 hp3.tgt (k3 6 (by decide) (by decide)) hM hne);have nG:=ae k3;clear hr3 hp3 yO hC3 k3 hk3 h hq;go_wp2_with fail;refine zl.out.mono ?_;intro e w4 h;rcases h.get with ⟨hq,hd⟩|⟨ts,B4,hq,rfl,C,c,hr4,lH,SS,_⟩
 ·obtain ⟨rfl,hd2⟩:=hd;exact ⟨rfl,df.no (by simp only [NV,Gw.out,OV.out,Y4.out,hq,Option.bind_some,Option.bind_none]) (dD.after ⟨rfl,hd2⟩ gu.out m3)⟩
 have HY4:=ae hq;obtain ⟨C4,hC4⟩:∃D,C3.setIfInBounds (eo+1+5) (.slice C ts.length c)=D:=⟨_,rfl⟩;rw [hC4] at lH;have k4:∀j,7≤j→j<9→C4[eo+j]? =nM[j]? :=fun j h1 h2=>by rw [←hC4,Array.getElem?_setIfInBounds_ne (by omega)];exact nG.out j (by omega) h2
 have l4:C4.size=cs.size:=by rw [←hC4,Array.size_setIfInBounds];exact l3
 have m4:dP cs C4:=by rw [←hC4];exact m3.set rfl
 have hk4:∀b,w.heap.size≤b→b<w3.heap.size→w4.heap[b]? =w3.heap[b]? :=fun b h1 h2=>lH.block b h2 (by omega) (by omega);have zS:=ae (aN qC.out hk4);have HR4:=ae (aN HR3.out hk4);have HT4:=ae (aK SS gu.out.size);have rX:=ae (gu.out.trans lH);have DK:=ae hC4;have QN:=ae (fD M w4.drew rb eb (eo+1+6) 8 t C4 B4 hr4.drew (by omega) lH.tgt (by omega) hM hne);have Vl:=ae k4;clear hr4 lH SS zl hC4 k4 hk4 h hq;go_wp2_with fail;go_still_tail 7,(by kernel_rfl);go_wp2_with fail;refine QN.out.mono ?_;intro e w5 h;rcases h.get with ⟨hq,hd⟩|⟨hv,B5,hq,rfl,yV,QG⟩
 ·obtain ⟨rfl,hd2⟩:=hd;exact ⟨rfl,df.no (by simp only [NV,Gw.out,OV.out,Y4.out,HY4.out,hq,Option.bind_some,Option.bind_none]) (dD.after (dD.bQ ⟨rfl,hd2⟩) rX.out m4)⟩
 have HY5:=ae hq;have hk5:∀b,w.heap.size≤b→b<w4.heap.size→w5.heap[b]? =w4.heap[b]? :=fun b h1 h2=>QG.block b h2 (by omega) (by omega);have pU:=ae (aN zS.out hk5);have rG:=ae (aN HR4.out hk5);have Vt:=ae (aN HT4.out hk5);have Vq:=ae (rX.out.trans QG.bQ);have vS:=ae (Jl M w5 rb eb (eo+1+7) t _ B5 yV QG.tgt (by rw [Array.getElem?_setIfInBounds_ne (by omega)];exact Vl.out 8 (by decide) (by decide)) hM hne);clear yV QG QN hk5 h hq;go_wp2_with fail;refine vS.out.mono ?_;intro e w6 h;rcases h.get with ⟨hq,hd⟩|⟨ys,B6,hq,rfl,D,d,yX,hp6,ho6,_⟩
 ·obtain ⟨rfl,hd2⟩:=hd;exact ⟨rfl,df.no (by simp only [NV,Gw.out,OV.out,Y4.out,HY4.out,HY5.out,hq,Option.bind_some,Option.map_none]) (dD.after ⟨rfl,hd2⟩ Vq.out (m4.set rfl))⟩
 have HY6:=ae hq;have hk6:∀b,w.heap.size≤b→b<w5.heap.size→w6.heap[b]? =w5.heap[b]? :=fun b h1 h2=>hp6.block b h2 (by omega) (by omega);have yQ:=ae yX;have qZ:=ae (show CY w.heap.size w6 ⟨A,a,B,b,C,c,D,d⟩ ⟨cal,st,ts,hv,ys⟩ from ⟨aN pU.out hk6,aN rG.out hk6,aN Vt.out hk6,aK ho6 Vq.out.size⟩);have V4:=ae (Vq.out.trans hp6);clear yX hp6 ho6 hk6 vS h hq;go_wp2_with fail
 go_end0
 refine df.yes (a:=⟨nm,⟨cal,st,ts,hv,ys⟩⟩) (R:=B6) (by simp only [NV,Gw.out,OV.out,Y4.out,HY4.out,HY5.out,HY6.out,Option.bind_some,Option.map_some]) ?_;refine ⟨rfl,⟨A,a,B,b,C,c,D,d⟩,yQ.out,?_,qZ.out⟩;have h:=V4.out;rw [←DK.out,←vT.out,←iH.out,←iM.out] at h;exact h
end Go.Proofs.YtbaehbbonkljpaaGreat
namespace Go.Proofs.YtbaehbbonkljpaaGreat
open Go Go.RowKit
def mY (lo:Nat) (w:World) (A:Option Addr) (n c:Nat) (bs:List UInt8):Prop:=w.ownsRow lo 5 1 (.slice A n c) n (bs.map Extern.Stop.cell)
structure uh (v:Value) (w:World) (v':Value) (w':World):Prop where
 os:w'.os=w.os
 tape:w'.tape=w.tape
 output:w'.output=w.output
 size:w.heap.size≤w'.heap.size
 block:∀k,k<w.heap.size→some k≠v.ownBlock→w'.heap[k]? =w.heap[k]?
 own:v'.ownBlock=v.ownBlock∨∃b,v'.ownBlock=some b∧w.heap.size≤b
theorem uh.refl (v:Value) (w:World):uh v w v w:=⟨rfl,rfl,rfl,Nat.le_refl _,fun _ _ _=>rfl, .inl rfl⟩
theorem uh.trans {v v1 v2:Value} {w w1 w2:World} (h:uh v w v1 w1) (k:uh v1 w1 v2 w2):uh v w v2 w2:=by
 refine ⟨k.os.trans h.os,k.tape.trans h.tape,k.output.trans h.output,Nat.le_trans h.size k.size,fun b hb hv=>?_,?_⟩
 ·refine (k.block b (dW hb h.size) ?_).trans (h.block b hb hv);rcases h.own with e|⟨b1,e,hb1⟩
  ·rw [e];exact hv
  ·rw [e];intro h';injection h' with h';omega
 ·rcases k.own with e|⟨b,e,hb⟩
  ·rcases h.own with e1|⟨b1,e1,hb1⟩
   ·exact .inl (e.trans e1)
   ·exact .inr ⟨b1,e.trans e1,hb1⟩
  ·exact .inr ⟨b,e,Nat.le_trans h.size hb⟩
theorem uh.below {v v':Value} {w w' w2:World} (h:uh v w v' w') (hb:Below w'.heap.size w' w2):uh v w v' w2:=
 ⟨hb.os.trans h.os,hb.tape.trans h.tape,hb.output.trans h.output,Nat.le_trans h.size hb.size,fun k hk hv=>(hb.block k (dW hk h.size)).trans (h.block k hk hv),h.own⟩
theorem uh.app {w w3:World} {v v':Value} {o:Obj} (hg:(w.alloc o).grownBy w3 v.ownBlock) (hat:v'.ownBlock=v.ownBlock∨v'.ownBlock=some (w.alloc o).heap.size):uh v w v' w3:=
 ⟨hg.os,hg.tape,hg.output,Nat.le_trans (by simp) hg.size,fun k hk hv=>(hg.block k (by simp;omega) hv).trans (Below.heap_alloc w o k hk),hat.elim .inl fun e=> .inr ⟨_,e,by simp⟩⟩
theorem uh.wG {lo:Nat} {v v':Value} {w w':World} (h:uh v w v' w') (hv:∀g,v.ownBlock=some g→lo≤g) (hlo:lo≤w.heap.size):Below lo w w':=
 ⟨h.os,h.tape,h.output,h.size,fun k hk=>h.block k (by omega) (fun e=>by have:=hv k e.symm;omega)⟩
def ZH (lo:Nat) (v:Value) (w:World) (bs:List UInt8) (e:Ending) (w':World):Prop:=∃A n c,bs.length=n∧e= .returned (.slice A n c)∧mY lo w' A n c bs∧uh v w (.slice A n c) w'
theorem mY.base {lo n c:Nat} {w:World} {A:Option Addr} {bs:List UInt8} (h:mY lo w A n c bs):∀g,(Value.slice A n c).ownBlock=some g→lo≤g:=fun g hg=>(World.ownsRow.lt h g hg).1
theorem mY.below {lo n c:Nat} {w w':World} {A:Option Addr} {bs:List UInt8} (h:mY lo w A n c bs) (hb:Below w.heap.size w w'):mY lo w' A n c bs:=
 World.ownsRow.kept (row:=none) h ⟨hb.os,hb.tape,hb.output,hb.size,fun k hk _=>hb.block k hk⟩ (by cases (Value.slice A n c).ownBlock<;>simp)
theorem mY.lower {lo lo' n c:Nat} {w:World} {A:Option Addr} {bs:List UInt8} (h:mY lo w A n c bs) (hl:lo'≤lo):mY lo' w A n c bs:=by
 rcases h.2 with h2|⟨g,cap,cur,h1,h2,h3⟩
 ·exact ⟨h.1, .inl h2⟩
 ·exact ⟨h.1, .inr ⟨g,cap,cur,h1,Nat.le_trans hl h2,h3⟩⟩
theorem O5 (z:Int) (j:Nat) (hj:j<8):Value.int .u8 (IntKind.u64.wrap z / 2 ^ (8*j)%256)=Extern.Stop.cell (byteOf (jQ z j)):=by
 rw [fQ];have h:j=0∨j=1∨j=2∨j=3∨j=4∨j=5∨j=6∨j=7:=by omega
 congr 1;rw [show IntKind.u64.wrap z=z%18446744073709551616 by simp [IntKind.wrap,IntKind.bits,IntKind.signed]];rcases h with rfl|rfl|rfl|rfl|rfl|rfl|rfl|rfl<;>simp only [jQ]
 ·show z%18446744073709551616 / 1%256=_;omega
 ·show z%18446744073709551616 / 256%256=_;omega
 ·show z%18446744073709551616 / 65536%256=_;omega
 ·show z%18446744073709551616 / 16777216%256=_;omega
 ·show z%18446744073709551616 / 4294967296%256=_;omega
 ·show z%18446744073709551616 / 1099511627776%256=_;omega
 ·show z%18446744073709551616 / 281474976710656%256=_;omega
 ·show z%18446744073709551616 / 72057594037927936%256=_;omega
theorem vJ (x:Int):∀u∈ [Value.int .u8 x],u.oneCell'=true:=fun u hu=>by rw [List.mem_singleton.1 hu];rfl
def NH (b:Bool):Int:=if b=true then 1 else 0
def NRel (lo:Nat) (v:Value) (w:World) (bs:List UInt8) (z:Int) (s:Nat) (b i:Value) (wr:World):Prop:=
 ∃(k n c:Nat) (A:Option Addr),k≤s∧b= .slice A n c∧i= .int .i64 k∧(bs++le z k).length=n∧mY lo wr A n c (bs++le z k)∧uh v w (.slice A n c) wr
theorem dX (lo n c s:Nat) (A:Option Addr) (bs:List UInt8) (z:Int) (w:World) (hl:bs.length=n) (hn:n≤1000000) (hs:s≤8) (hz:fits z) (hlo:lo≤w.heap.size) (hO:mY lo w A n c bs):
  Calls Tryz.prog 23 #[.slice A n c,I z,I s] w (ZH lo (.slice A n c) w (bs++le z s)):=by
 obtain ⟨i0,hi,hz0,hz1,hz2⟩:=info_parts lh;have HI:=ae hi;have HZ0:=ae hz0;have HZ1:=ae hz1;have HZ2:=ae hz2;have HO:=ae hO;have HL:=ae hl;have HFZ:=ae hz;clear hi hz0 hz1 hz2 hO hl hz;go_enter Tryz.func23,Tryz.ntmps23;go_wp2_with fail
 go_loopw [0,8] (fun b i wr=>NRel lo (.slice A n c) w bs z s b i wr) (fun _ i _=>s - (intOf i).toNat)
 case atStart=>exact ⟨0,n,c,A,Nat.zero_le _,rfl,by go_num,by simpa [le] using HL.out,by simpa [le] using HO.out,uh.refl _ _⟩
 case round=>
  obtain ⟨k,n2,c2,A2,hk,rfl,rfl,hl2,ho2,hb2⟩:=hrel;have HB2:=ae hb2;have hsz:lo≤wr.heap.size:=Nat.le_trans hlo hb2.size;have hn2:n2≤1000008:=by rw [←hl2,bH,aC,HL.out];omega
  by_cases hlt:(k:Int)<(s:Int)
  ·have DF:=ae (O5 z k (by omega));have JI:=ae (World.ownsRow.alloc ho2 (.cells #[Value.int .u8 (IntKind.u64.wrap z / 2 ^ (8*k)%256)] 5));have HL2:=ae hl2;obtain ⟨b2,hbb2⟩:∃b,bs++le z k=b:=⟨_,rfl⟩;rw [hbb2] at JI HL2;have HBE:=ae hbb2;clear hb2 ho2 hl2 hbb2;go_wp2_with (at_builtin;go_must (refine wpList_append_own_at _ rfl _ _ 22 rfl lo 5 i0 (.int .u8 0) 1 1 Tryz.underlying22 HI.out HZ0.out HZ1.out HZ2.out rfl (by decide) _ n2 (b2.map Extern.Stop.cell) rfl JI.out _ 1 1 [Value.int .u8 (IntKind.u64.wrap z / 2 ^ (8*k)%256)] rfl rfl (cell_one_new _ _ _) (vJ _) (by unfold maxLen;omega) (by omega) (by simp;omega) ?_));intro v' w3 hown hg _ hat;have HW3:=ae (HB2.out.trans (uh.app hg (hat.imp id fun e=>e.trans (by simp))));obtain ⟨A',c',rfl⟩:=fC hown;have HOW:Hid (mY lo w3 A' (n2+1) c' (bs++le z (k+1))):=ae (by
    unfold mY;rw [FB,←List.append_assoc,HBE.out,List.map_append];show World.ownsRow _ _ _ _ _ _ (_++ [Extern.Stop.cell _]);rw [←DF.out];exact hown)
   clear hown hg hat;go_wp2_with fail;go_roundw
   case rel=>exact ⟨k+1,n2+1,c',A',by omega,rfl,by go_num,by have:=HL2.out;rw [←HBE.out] at this;rw [FB,←List.append_assoc,bH,this];rfl,HOW.out,HW3.out⟩
   case measure=>simp [intOf];omega
  ·have HKS:Hid (k=s):=ae (by omega);have rF:=ae ho2;have HL2:=ae hl2;clear ho2 hl2 hb2;go_wp2_with fail;go_ret;exact ⟨_,n2,_,by rw [←HKS.out];exact HL2.out,rfl,by rw [←HKS.out];exact rF.out,HB2.out⟩
theorem flag_r (b:Bool) (w:World):Calls Tryz.prog 67 #[.bool b] w fun e w'=>e= .returned (I (NH b))∧w'=w:=by
 cases b
 all_goals
  go_enter Tryz.func67,Tryz.ntmps67;go_wp2_with fail;go_ret;exact ⟨rfl,rfl⟩
end Go.Proofs.YtbaehbbonkljpaaGreat
