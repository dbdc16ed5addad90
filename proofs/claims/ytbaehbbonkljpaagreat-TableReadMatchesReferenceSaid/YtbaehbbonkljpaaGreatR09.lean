/- The texts Qd, Pk, Ka, Pe, Pf, in this order. -/
import Derived.Test.YtbaehbbonkljpaaGreatR00
import Derived.Test.YtbaehbbonkljpaaGreatR01
import Derived.Test.YtbaehbbonkljpaaGreatR04
set_option maxRecDepth 10000
set_option maxHeartbeats 8000000
namespace Go.Proofs.YtbaehbbonkljpaaGreat
open Go Go.RowKit
section
variable {P:Program} {ops:Array Oper} {rest:List Oper} {o:Oper} {a:Act} {w:World} {Q:Exit→Act→World→Prop}
theorem fP {ob:Obj} (hgd:o.guard=none) (ty:TypeId) (x y:Operand) (ho:o.op= .store ty x y) (cells:Array Value) (hx:a.eval x= .pointer (some ⟨w.heap.size,0,none⟩)) (hy:a.eval y= .agg cells) (t:TypeId) (old:Array Value) (hob:ob= .cells old t (0,0)) (hi:(P.info? ty).map (·.size)=some cells.size) (hold:old.size=cells.size) (h1:cells.all (·.oneCell')=true)
  (h:∀W,Below w.heap.size w W→w.heap.size<W.heap.size→Row W w.heap.size cells→wpList P ops Q rest (a.put o.dst undef) W):wpList P ops Q (o::rest) a (w.alloc ob):=by
 subst hob;refine wpList_store_row hgd ty x y ho w.heap.size cells hx hy t old (heap_alloc_last w _) hi hold h1 (h _ (below_setRow (ag w _) (Nat.le_refl _) _) (by simp [World.setRow]) (Row.lU (setRow_heap _ _ _ _ _ _ (heap_alloc_last w _))))
end
structure ED (c:Cal):Prop where
 ep:0≤c.aJ∧c.aJ≤100
 mo:c.aj.length=2
 all:∀x∈c.aj,6≤x∧x≤8
 le: -1≤c.aY∧c.aY<2
 ru:c.rules.length≤1
 nl:c.aY= -1→c.rules.length=0
 rl:∀r∈c.rules,r.every=2∧0≤r.rest∧r.rest<2
structure nD (w:World) (B:Nat) (A:Option Addr) (R:Option Addr) (c:Cal):Prop where
 aj:az w B A (c.aj.map I)
 rules:az w B R (c.rules.flatMap Lr.cells)
theorem nD.grow {w w':World} {A R:Option Addr} {c:Cal} (h:nD w w.heap.size A R c) (hb:Below w.heap.size w w'):nD w' w'.heap.size A R c:=⟨h.aj.grow hb,h.rules.grow hb⟩
theorem nD.month {w W:World} {A R:Option Addr} {c:Cal} (h:nD w w.heap.size A R c) (hc:ED c) (hb:Below w.heap.size w W) (k:Nat) (hk:k<2):∃x b off,c.aj[k]? =some x∧A=some ⟨b,off,none⟩∧W.cell? ⟨b,off+k,none⟩=some (I x)∧6≤x∧x≤8:=by
 have hl:k<c.aj.length:=by rw [hc.mo];exact hk
 obtain ⟨b,off,e,hb1,hcl⟩:=h.aj.there (by rw [List.length_map,hc.mo];omega);have hx:=bZ hl;refine ⟨_,b,off,hx,e,?_,hc.all _ (List.getElem_mem hl)⟩;rw [hb.cell (p:=⟨b,off+k,none⟩) hb1];exact hcl k _ (by rw [List.getElem?_map,hx];rfl)
structure jw (w:World) (cs:Array Value) (W:World):Prop where
 row:Row W w.heap.size cs
 up:Below w.heap.size w W
theorem jw.grow {w W W':World} {cs:Array Value} (h:jw w cs W) (hb:Below W.heap.size W W'):jw w cs W':=⟨h.row.keep hb,ai h.up hb⟩
theorem jw.start (w:World) (cs:Array Value) (t:TypeId):jw w cs (w.alloc (.cells cs t)):=⟨Row.new w cs t,ag w _⟩
theorem ED.form {c:Cal} (hc:ED c):∃ep m0 m1 lp rs,c=⟨ep,[m0,m1],lp,rs⟩∧(0≤ep∧ep≤100)∧(6≤m0∧m0≤8)∧(6≤m1∧m1≤8)∧(-1≤lp∧lp<2)∧(rs= []∨∃q y,rs= [⟨2,q,y⟩]∧0≤q∧q<2∧lp≠ -1):=by
 obtain ⟨ep,mo,lp,rs⟩:=c;obtain ⟨h1,h2,h3,h4,h5,h6,h7⟩:=hc;simp only at h1 h2 h3 h4 h5 h6 h7
 match mo,h2 with
 | [m0,m1],_=>
  refine ⟨ep,m0,m1,lp,rs,rfl,h1,h3 m0 (by simp),h3 m1 (by simp),h4,?_⟩
  match rs,h5 with
  | [],_=>exact .inl rfl
  | [⟨e,q,y⟩],_=>
   obtain ⟨z1,z2,z3⟩:=h7 ⟨e,q,y⟩ (by simp);simp only at z1 z2 z3;subst z1;exact .inr ⟨q,y,rfl,z2,z3,fun e=>by have:=h6 e;simp at this⟩
theorem nD.one {w W:World} {A R:Option Addr} {ep m0 m1 lp q:Int} {y:Bool} (h:nD w w.heap.size A R ⟨ep,[m0,m1],lp,[⟨2,q,y⟩]⟩) (hb:Below w.heap.size w W):∃b off,R=some ⟨b,off,none⟩∧W.cell? ⟨b,off,none⟩=some (I 2)∧W.cell? ⟨b,off+1,none⟩=some (I q)∧W.cell? ⟨b,off+2,none⟩=some (.bool y):=by
 obtain ⟨b,off,e,hb1,hcl⟩:=h.rules.there (by simp [Lr.cells]);exact ⟨b,off,e,(hb.cell (p:=⟨b,off,none⟩) hb1).trans (hcl 0 _ rfl),(hb.cell (p:=⟨b,off+1,none⟩) hb1).trans (hcl 1 _ rfl),(hb.cell (p:=⟨b,off+2,none⟩) hb1).trans (hcl 2 _ rfl)⟩
theorem RX (a b:Int) (h:0≤a):a.tmod b=a%b:=Int.tmod_eq_emod_of_nonneg h
theorem TF (a b:Int) (w:World) (hb:0<b) (hb2:b≤1000000000) (ha:0≤a):
  Calls Tryz.prog 114 #[I a,I b] w fun e w'=>e= .returned (I (a%b))∧w'=w:=by
 have he:=RX a b ha;have h0:=Int.emod_nonneg a (show b≠0 by omega);have h1:=Int.emod_lt_of_pos a hb;obtain ⟨q,hq⟩:∃q,a%b=q:=⟨_,rfl⟩;rw [hq] at he h0 h1 ⊢;have hb0:b≠0:=by omega
 have hb1:b≠ -1:=by omega
 have h2:¬q<0:=by omega
 clear hq;go_enter Tryz.func114,Tryz.ntmps114
 go_wp2
 go_ret;exact ⟨rfl,rfl⟩
def Zv (c:Cal) (y:Int):Bool:=match c.rules with| []=>false|r::_=>(y%2==r.rest)&&r.yes
def WW (c:Cal):Int:=(c.aj[0]?.getD 0)+(c.aj[1]?.getD 0)
def TI (c:Cal) (y m:Int):Int:=(c.aj[(m - 1).toNat]?.getD 0)+(if m - 1=c.aY∧Zv c y=true then 1 else 0)
def Ot (c:Cal) (y:Int):Int:=WW c+(if Zv c y=true then 1 else 0)
def cycD (c:Cal):Int:=match c.rules with| []=>Ot c 1|_::_=>Ot c 1+Ot c 2
end Go.Proofs.YtbaehbbonkljpaaGreat
namespace Go.Proofs.YtbaehbbonkljpaaGreat
open Go Go.RowKit Go.Shelf
attribute [local go_sem] Oper.semAt_some
section
variable {F:Fence} {n:Nat} {P:Program} {ops:Array Oper} {Q:Exit→Act→World→Prop} {a:Act} {w:World} {rest:List Oper} {o:Oper}
theorem mX (hg:o.guard=none) (ty:TypeId) (x:Operand) (ho:o.op= .load ty x) (b off:Nat) (hx:a.eval x= .pointer (some ⟨b,off,none⟩)) (cs:List Value) (d:TypeDesc) (hc:w.rangeAt b off cs)
  (hu:P.underlying ty=some d) (hd:d.isRow=true) (hi:(P.info? ty).map (·.size)=some cs.length)
  (h:wpListIn F n P ops Q rest (a.put o.dst (.agg cs.toArray)) w):wpListIn F n P ops Q (o::rest) a w:=by
 refine wpListIn_plain hg fun K hK=>?_;unfold Oper.wpIn;refine ⟨?_,?_⟩
 ·intro f hf;simp [Oper.about,ho] at hf
 ·rw [Oper.semAt_plain F _ _ (by rw [ho];intro c hc';cases hc')];unfold execOp;simp only [ho,hx,Instr.loadAt,Instr.sureAddr,Sem.run_bind,Sem.run_pure,Result.andThen_ok,run_loadVar_mid w b off ty cs d hc hu hd hi];exact hK _ _ h
theorem ry (hg:o.guard=none) (t:TypeId) (ho:o.op= .alloc t) (cells:Array Value) (hz:(P.info? t).map (fun i=>(i.zero,i.size))=some (some (.agg cells),cells.size))
  (h:wpListIn F n P ops Q rest (a.put o.dst (.pointer (some ⟨w.heap.size,0,none⟩))) (w.alloc (.cells cells t))):wpListIn F n P ops Q (o::rest) a w:=by
 refine wpListIn_plain hg fun K hK=>?_;unfold Oper.wpIn;refine ⟨?_,?_⟩
 ·intro f hf;simp [Oper.about,ho] at hf
 ·rw [Oper.semAt_plain F _ _ (by rw [ho];intro c hc';cases hc')];unfold execOp;simp only [ho,Sem.run_bind,kC w t (.agg cells) _ hz,Result.andThen_ok];exact hK _ _ h
theorem xG (hg:o.guard=none) (ty:TypeId) (x y:Operand) (ho:o.op= .store ty x y) (g:Nat) (cells:Array Value) (hx:a.eval x= .pointer (some ⟨g,0,none⟩)) (hy:a.eval y= .agg cells)
  (t:TypeId) (old:Array Value) (hb:w.heap[g]? =some (.cells old t (0,0))) (hi:(P.info? ty).map (·.size)=some cells.size) (hold:old.size=cells.size) (h1:cells.all (·.oneCell')=true)
  (h:wpListIn F n P ops Q rest (a.put o.dst undef) (w.setRow g cells)):wpListIn F n P ops Q (o::rest) a w:=by
 refine wpListIn_plain hg fun K hK=>?_;unfold Oper.wpIn;refine ⟨?_,?_⟩
 ·intro f hf;simp [Oper.about,ho] at hf
 ·rw [Oper.semAt_plain F _ _ (by rw [ho];intro c hc';cases hc')];unfold execOp;simp only [ho,hx,hy,Instr.storeAt,Instr.sureAddr,Sem.run_bind,Sem.run_pure,Result.andThen_ok,run_storeVar_row w g t ty old cells hb hi hold h1];exact hK _ _ h
variable {d:Option Tmp} {t:TypeId} {pos:String} {af:Array Edge} {g:Option (Nat×Bool)}
theorem E8 (ty:TypeId) {x:Operand} (h:wpListIn F n P ops Q (⟨d, .load ty x,t,pos,af,g⟩::rest) a w):wpListIn F n P ops Q (⟨d, .load ty x,t,pos,af,g⟩::rest) a w:=h
theorem wB (ty:TypeId) {x y:Operand} (h:wpListIn F n P ops Q (⟨d, .store ty x y,t,pos,af,g⟩::rest) a w):wpListIn F n P ops Q (⟨d, .store ty x y,t,pos,af,g⟩::rest) a w:=h
theorem Ir (ty:TypeId) (h:wpListIn F n P ops Q (⟨d, .alloc ty,t,pos,af,g⟩::rest) a w):wpListIn F n P ops Q (⟨d, .alloc ty,t,pos,af,g⟩::rest) a w:=h
end
def El (ts:List fH):Type:= {x:Nat×fH // ts[x.1]? =some x.2}
def elt (ts:List fH) (m:Nat):List (El ts):=if h:m<ts.length then [⟨(m,ts[m]),bZ h⟩] else []
def Ky (ts:List fH):Nat→List (El ts)
 |0=> []
 |k+1=>Ky ts k++elt ts (ts.length - 1 - k)
theorem RG (ts:List fH) (k m:Nat) (x:fH) (hx:ts[m]? =some x) (hm:m=ts.length - 1 - k):Ky ts (k+1)=Ky ts k++ [⟨(m,x),hx⟩]:=by
 subst hm;obtain ⟨h1,h2⟩:=iT.1 hx;subst h2;show Ky ts k++elt ts (ts.length - 1 - k)=_;unfold elt;rw [dif_pos h1]
theorem Kz (ts:List fH) (k:Nat) (hk:k≤ts.length):(Ky ts k).length=k:=by
 induction k with
 |zero=>rfl
 |succ k ih=>
  show (Ky ts k++elt ts (ts.length - 1 - k)).length=k+1;unfold elt;rw [bH,ih (by omega),dif_pos (by omega)];rfl
def sF (w:World) (b off:Nat) (ts:List fH):Prop:=∀j x,ts[j]? =some x→w.rangeAt b (off+j*68) x.cells∧x.cells.length=68
theorem O3 (F:Fence) (n:Nat) (h7:F.fn 73) (hro:F.round=none) (hn:1≤n) (l Bs n₀ b off cap:Nat) (bs:List fH) (hreach:bs.length≤100000) (hb:b<n₀) (J Jx:List (El bs)→World→Prop)
  (hY:∀pre x W,J pre W→pre.length<bs.length→YieldAt F (n - 1) Tryz.prog l #[.int .i64 (x.1.1:Int), .agg x.1.2.cells.toArray] W fun e W'=>
   (e= .returned (.bool true)∧J (pre++ [x]) W'∧BK n₀ Bs W W')∨(e= .returned (.bool false)∧Jx (pre++ [x]) W'))
  (W:World) (hBs:W.cell? ⟨Bs,0,none⟩=some (.slice (some ⟨b,off,none⟩) bs.length cap)) (hc:sF W b off bs) (h0:J [] W):
  CallsIn F n Tryz.prog 73 #[.func (.yield l) #[] #[], .pointer (some ⟨Bs,0,none⟩)] W fun e W'=>(∃v,e= .returned v)∧
   ((∃ys,ys=Ky bs bs.length∧J ys W')∨(∃pre,(∃k,k≤bs.length∧pre=Ky bs k)∧Jx pre W')):=by
 refine callsIn_of_wp Tryz.func73 rfl h7 ?_ hro;simp only [Tryz.ntmps73,List.size_toArray,List.length_cons,List.length_nil,Nat.reduceAdd,Nat.reduceSub,Array.replicate_succ,Array.replicate_zero,List.push_toArray,List.append_toArray,List.nil_append,List.cons_append]
 gi_wp2
 gi_loopw [3] (fun i wr=>∃k:Nat,k≤bs.length∧i= .int .i64 ((bs.length:Int) - 1 - k)∧J (Ky bs k) wr∧BK n₀ Bs W wr)
  (fun i _=>((intOf i)+1).toNat)
 case atStart=>exact ⟨0,Nat.zero_le _,by go_num,h0,BK.refl _ _ _⟩
 case round=>
  obtain ⟨k,hk,rfl,hJs,hnx⟩:=hrel;by_cases hlt:k<bs.length
  ·obtain ⟨m,hm⟩:∃m:Nat,m=bs.length - 1 - k:=⟨_,rfl⟩;have SQ:(bs.length:Int) - 1 - k=(m:Int):=by omega
   have hml:m<bs.length:=by omega
   obtain ⟨x,hxx⟩:∃x,bs[m]? =some x:=⟨_,bZ hml⟩;have hcx:wr.rangeAt b (off+m*68) x.cells∧x.cells.length=68:=⟨aU (hc m x hxx).1 hnx.lo hb,(hc m x hxx).2⟩;obtain ⟨hcx,hc68⟩:=hcx;have Nh:=ae hcx;have H68:Hid ((Tryz.prog.info? 39).map (·.size)=some x.cells.length):=ae (by rw [hc68];kernel_rfl);have hbx:wr.cell? ⟨Bs,0,none⟩=some (.slice (some ⟨b,off,none⟩) bs.length cap):=hnx.box.trans hBs;obtain ⟨fn,tmps,assign,body,hy,hR⟩:=hY _ ⟨(m,x),hxx⟩ wr hJs (by rw [Kz _ _ hk];exact hlt);dsimp only at hy;rw [SQ];have HM:=ae hm;have VY:=ae SQ;have HX:Hid (Ky bs (k+1)=Ky bs k++ [⟨(m,x),hxx⟩]):=ae (RG bs k m x hxx hm);clear hm SQ hcx hc68
   gi_wp2_with (with_reducible refine E8 39 ?_;refine mX rfl _ _ rfl b (off+m*68) rfl x.cells _ Nh.out Tryz.underlying39 rfl H68.out ?_)
   refine hR.mono ?_;rintro e W3 (⟨rfl,hJ3,hk3⟩|⟨rfl,hJx3⟩)
   ·gi_wp2
    go_roundw
    case rel=>exact ⟨k+1,by omega,by have:=VY.out;congr 1;omega,by rw [HX.out];exact hJ3,hnx.trans hk3⟩
    case measure=>simp [intOf]
   ·gi_wp2
    refine bodyPost_ret (results_none rfl _ _ _) rfl ?_;exact ⟨⟨_,rfl⟩, .inr ⟨_,⟨k+1,by omega,by rw [HX.out]⟩,hJx3⟩⟩
  ·have hke:k=bs.length:=by omega
   have VX:=ae hke;clear hke
   gi_wp2
   go_end0
   exact ⟨⟨_,rfl⟩, .inl ⟨_,by rw [VX.out],hJs⟩⟩
theorem C9 (F:Fence) (n:Nat) (h7:F.fn 73) (hro:F.round=none) (l Bs:Nat) (A:Option Addr) (c:Nat) {α:Type} (J:List α→World→Prop) (W:World) (hBs:W.cell? ⟨Bs,0,none⟩=some (.slice A 0 c)) (h0:J [] W):
  CallsIn F n Tryz.prog 73 #[.func (.yield l) #[] #[], .pointer (some ⟨Bs,0,none⟩)] W fun e W'=>(∃v,e= .returned v)∧J [] W':=by
 refine callsIn_of_wp Tryz.func73 rfl h7 ?_ hro;simp only [Tryz.ntmps73,List.size_toArray,List.length_cons,List.length_nil,Nat.reduceAdd,Nat.reduceSub,Array.replicate_succ,Array.replicate_zero,List.push_toArray,List.append_toArray,List.nil_append,List.cons_append]
 gi_wp2
 gi_loopw [3] (fun i wr=>i= .int .i64 (-1)∧J [] wr) (fun _ _=>0)
 case atStart=>exact ⟨rfl,h0⟩
 case round=>
  obtain ⟨rfl,hJs⟩:=hrel
  gi_wp2
  go_end0
  exact ⟨⟨_,rfl⟩,hJs⟩
theorem Rz (F:Fence) (n:Nat) (h5:F.fn 51) (hro:F.round=none) (a:Option Addr) (len cap:Nat) (w:World):
  CallsIn F n Tryz.prog 51 #[.slice a len cap] w fun e w'=>e= .returned (.func (.func 73) #[] #[.pointer (some ⟨w.heap.size,0,none⟩)])∧w'=w.alloc (.cells #[.slice a len cap] 32):=by
 refine callsIn_of_wp Tryz.func51 rfl h5 ?_ hro;simp only [Tryz.ntmps51,List.size_toArray,List.length_cons,List.length_nil,Nat.reduceAdd,Nat.reduceSub,Array.replicate_succ,Array.replicate_zero,List.push_toArray,List.append_toArray,List.nil_append,List.cons_append]
 gi_wp2
 go_ret;exact ⟨rfl,rfl⟩
theorem Ia (F:Fence) (n:Nat) (h7:F.fn 73) (hro:F.round=none) (hn:1≤n) (Bs n₀:Nat) (A:Option Addr) (cap:Nat) (bs:List fH) (hreach:bs.length≤100000) (w:World) (hBs:Bs<w.heap.size) (hn₀:n₀≤w.heap.size)
  (hc:w.cell? ⟨Bs,0,none⟩=some (.slice A bs.length cap)) (hI:bs.length=0∨∃b off,A=some ⟨b,off,none⟩∧b<n₀∧sF w b off bs):
  SeqStopsK F n Tryz.prog 73 #[.pointer (some ⟨Bs,0,none⟩)] (fun x:El bs=> #[Value.int .i64 (x.1.1:Int), .agg x.1.2.cells.toArray]) (BK n₀ Bs) (fun ys=>ys=Ky bs bs.length)
   (fun pre=>∃k,k≤bs.length∧pre=Ky bs k) bs.length w:=fun l J Jx W hW _ _ hY h0=>by
 have hc':=(hW.cell (p:=⟨Bs,0,none⟩) hBs).trans hc;rcases hI with h|⟨b,off,rfl,hb,hcs0⟩
 ·rw [h] at hc';exact (C9 F n h7 hro l Bs A cap J W hc' h0).mono fun e W' ⟨he,hj⟩=>⟨he, .inl ⟨_,by rw [h];rfl,hj⟩⟩
 ·exact O3 F n h7 hro hn l Bs n₀ b off cap bs hreach hb J Jx hY W hc' (fun j x hx=>⟨aU (hcs0 j x hx).1 (hW.mono hn₀) hb,(hcs0 j x hx).2⟩) h0
end Go.Proofs.YtbaehbbonkljpaaGreat
namespace Go.Proofs.YtbaehbbonkljpaaGreat
open Go Go.RowKit Go.Shelf
attribute [local go_sem] Oper.semAt_some
section
variable {F : Fence} {n : Nat} {P : Program} {ops : Array Oper} {Q : Exit → Act → World → Prop} {a : Act} {w : World} {rest : List Oper} {o : Oper}
theorem jL {ob : Obj} (hg : o.guard = none) (ty : TypeId) (x y : Operand) (ho : o.op = .store ty x y) (cells : Array Value) (hx : a.eval x = .pointer (some ⟨w.heap.size, 0, none⟩)) (hy : a.eval y = .agg cells)
    (t : TypeId) (old : Array Value) (hob : ob = .cells old t (0, 0)) (hi : (P.info? ty).map (·.size) = some cells.size) (hold : old.size = cells.size) (h1 : cells.all (·.oneCell') = true)
    (h : ∀ W, Below w.heap.size w W → W.heap.size = w.heap.size + 1 → W.heap[w.heap.size]? = some (.cells cells t (0, 0)) → Row W w.heap.size cells → KeepsOthers w W → wpListIn F n P ops Q rest (a.put o.dst undef) W) : wpListIn F n P ops Q (o :: rest) a (w.alloc ob) := by
  subst hob
  have hh : ((w.alloc (.cells old t)).setRow w.heap.size cells).heap[w.heap.size]? = some (.cells cells t (0, 0)) := setRow_heap _ _ _ _ _ _ (heap_alloc_last w _)
  refine xG hg ty x y ho w.heap.size cells hx hy t old (heap_alloc_last w _) hi hold h1 (h _ (below_setRow (ag w _) (Nat.le_refl _) _) (by simp [World.setRow]) hh (Row.lU hh) ⟨by simp [World.setRow], fun k ob hk hc => ?_⟩)
  have hkl := (bK.1 hk).1
  rw [setRow_other _ _ k _ (by omega), Below.heap_alloc _ _ _ hkl]
  exact hk
end
def Dp (x : Tb) (i : Nat) : Bool := decide (x.version = (i : Int) + 1) && (decide (0 ≤ x.aO) && decide (x.aO ≤ (i : Int)))
def Ig (ts : List fH) : Bool := (List.range ts.length).all fun i => match ts[i]? with | some x => Dp x.t i | none => true
def gW (st : Int × List Bool) (x : Nat × fH) : Int × List Bool :=
  if st.2[x.1 + 1]?.getD false = true then st
  else (if st.1 < 0 ∧ (x.2.t.aO = 0 ∨ 0 < x.2.zs.length) then (x.1 : Int) else st.1, if 0 < x.2.t.aO then st.2.set x.2.t.aO.toNat true else st.2)
def dV (ts : List fH) (pre : List (El ts)) : Int × List Bool := pre.foldl (fun st x => gW st x.1) (-1, List.replicate (ts.length + 1) false)
def uY (ts : List fH) : Int × Bool := if Ig ts = true then ((dV ts (Ky ts ts.length)).1, true) else (0, false)
theorem EU (ts : List fH) (pre : List (El ts)) (x : El ts) : dV ts (pre ++ [x]) = gW (dV ts pre) x.1 := by simp [dV]
theorem Ik (ts : List fH) (pre : List (El ts)) : (dV ts pre).2.length = ts.length + 1 := by
  unfold dV
  have : ∀ (l : List (El ts)) (st : Int × List Bool), (l.foldl (fun st x => gW st x.1) st).2.length = st.2.length := by
    intro l
    induction l with
    | nil => intro st; rfl
    | cons x l ih =>
      intro st
      rw [List.foldl_cons, ih]
      unfold gW
      split
      · rfl
      · dsimp only
        split
        · simp
        · rfl
  rw [this]
  simp
theorem EW (p : Int) (gl : List Bool) (x : Nat × fH) (r : Nat) (hr : x.1 + 1 = r) (hb : gl[r]? = some true) : gW (p, gl) x = (p, gl) := by
  unfold gW
  dsimp only
  rw [hr, hb]
  rfl
theorem KJ (p : Int) (gl : List Bool) (x : Nat × fH) (r m z : Nat) (hr : x.1 + 1 = r) (hb : gl[r]? = some false) (hm : x.2.t.aO = (m : Int)) (hz : x.2.zs.length = z) :
    gW (p, gl) x = (if p < 0 ∧ (m = 0 ∨ 0 < z) then (x.1 : Int) else p, if 0 < m then gl.set m true else gl) := by
  unfold gW
  dsimp only
  rw [hr, hb, hm, hz, Int.toNat_natCast]
  simp only [Option.getD_some, Int.natCast_eq_zero, Int.natCast_pos]
  rfl
theorem Nz {ts : List fH} (h : Ig ts = true) (i : Nat) (x : fH) (hx : ts[i]? = some x) : Dp x.t i = true := by
  unfold Ig at h
  rw [List.all_eq_true] at h
  have h1 := h i (List.mem_range.2 (iT.1 hx).1)
  rwa [hx] at h1
theorem WE {ts : List fH} (i : Nat) (x : fH) (hx : ts[i]? = some x) (h : Dp x.t i = false) : Ig ts = false := by
  cases hc : Ig ts with
  | false => rfl
  | true => rw [Nz hc i x hx] at h; cases h
theorem RP {ts : List fH} (h : ∀ j x, ts[j]? = some x → Dp x.t j = true) : Ig ts = true := by
  unfold Ig
  rw [List.all_eq_true]
  intro i hi
  have hl := List.mem_range.1 hi
  rw [bZ hl]
  exact h i _ (bZ hl)
theorem Ll (n : Nat) (hn : n ≤ 100000) (W : World) : (Instr.makeSlice 124 (.int .i64 (n : Int)) (.int .i64 (n : Int))).run Tryz.prog W = .ok (.slice (some ⟨W.heap.size, 0, none⟩) n n) (W.alloc (.cells (Array.replicate n (.bool false)) 4)) := by
  have hib : (Tryz.prog.info? 4).map (fun i => (i.zero, i.size, i.bytes)) = some (some (.bool false), 1, 1) := by kernel_rfl
  obtain ⟨i0, hi, hz0, hz1, hz2⟩ := info_parts hib
  rw [run_makeSlice (P := Tryz.prog) (w := W) 124 4 i0 (.bool false) Tryz.underlying124 hi hz0 .i64 .i64 n n (by omega) (by omega) (by rw [hz1]; omega) (by rw [hz2]; omega) (by omega), hz1]
  have e : madeCells (Value.bool false).cells (((n : Int).toNat) * 1) = Array.replicate n (.bool false) := by
    apply Array.ext'
    simp [madeCells, Value.cells, Nat.mod_one]
    apply List.ext_getElem
    · simp
    · intro j h1 h2; simp
  rw [e]
  simp
structure CI (w : World) (N n : Nat) (p : Int) (gl : List Bool) (W : World) : Prop where
  best : Boxed W N 3 (I p)
  gone : Boxed W (N + 2) 124 (.slice (some ⟨N + 1, 0, none⟩) (n + 1) (n + 1))
  row : W.heap[N + 1]? = some (.cells (gl.map Value.bool).toArray 4 (0, 0))
  up : Below w.heap.size w W
  sz : N + 3 < W.heap.size
section
variable {w W W' : World} {N n : Nat} {p : Int} {gl : List Bool}
theorem CI.grow (h : CI w N n p gl W) (hb : Below W.heap.size W W') : CI w N n p gl W' := by
  have hs := h.sz
  exact ⟨(hb.block _ (by omega)).trans h.best, (hb.block _ (by omega)).trans h.gone, (hb.block _ (by omega)).trans h.row, ai h.up hb, dW h.sz hb.size⟩
theorem CI.Oj (h : CI w N n p gl W) (hN : w.heap.size ≤ N) (v : Int) : CI w N n v gl (W.setCell ⟨N, 0, none⟩ (I v)) :=
  ⟨h.best.set _, h.gone.other (by omega) _, (heap_setCell_other W _ _ _ (by show N + 1 ≠ N; omega)).trans h.row, h.up.setCell (p := ⟨N, 0, none⟩) hN _, by simpa [World.setCell] using h.sz⟩
theorem CI.XV (h : CI w N n p gl W) (hN : w.heap.size ≤ N) (m : Nat) : CI w N n p (gl.set m true) (W.setCell ⟨N + 1, m, none⟩ (.bool true)) := by
  refine ⟨(heap_setCell_other W _ _ _ (by show N ≠ N + 1; omega)).trans h.best, (heap_setCell_other W _ _ _ (by show N + 2 ≠ N + 1; omega)).trans h.gone, ?_, h.up.setCell (p := ⟨N + 1, m, none⟩) (by show w.heap.size ≤ N + 1; omega) _, by simpa [World.setCell] using h.sz⟩
  rw [heap_setCell_same W _ m _ _ _ h.row]
  simp [List.map_set]
theorem Ih (hN : w.heap.size ≤ N) {o j : Nat} (hj : j ≤ 2) (v : Value) : BK w.heap.size (N + 3) W (W.setCell ⟨N + j, o, none⟩ v) :=
  ⟨(Below.refl _ W).setCell (p := ⟨N + j, o, none⟩) (by show w.heap.size ≤ N + j; omega) _, World.cell?_setCell_other _ _ _ _ (by intro e; have := congrArg Addr.block e; simp only at this; omega)⟩
end
theorem ci_own {β : Type} {w : World} {N n B : Nat} (hB : w.heap.size ≤ B) (f : β → Int × List Bool) : OwnFrom B (fun s W => CI w N n (f s).1 (f s).2 W) := fun s X Y row hs hg hr => by
  have key : ∀ k cs t, X.heap[k]? = some (Obj.cells cs t (0, 0)) → Y.heap[k]? = X.heap[k]? := fun k cs t hk =>
    hg.block k (bK.1 hk).1 fun e => by
      obtain ⟨_, o, ho, hc⟩ := hr k e.symm
      rw [hk] at ho; cases ho; cases hc
  exact ⟨(key _ _ _ hs.best).trans hs.best, (key _ _ _ hs.gone).trans hs.gone, (key _ _ _ hs.row).trans hs.row, hs.up.grown hg hs.up.size (fun k e => Nat.le_trans hB (hr k e).1), dW hs.sz hg.size⟩
theorem ES {β : Type} {B : Nat} (b : Nat) (t : TypeId) (cs : Array Value) : OwnFrom B (fun (_ : β) W => W.heap[b]? = some (.cells cs t (0, 0))) := fun s X Y row hs hg hr => by
  refine (hg.block b (bK.1 hs).1 fun e => ?_).trans hs
  obtain ⟨_, o, ho, hc⟩ := hr b e.symm
  rw [hs] at ho; cases ho; cases hc
def VJ (w : World) (ts : List fH) (e : Ending) (w' : World) : Prop := ∃ p b, e = .returned (.tuple #[I p, .bool b]) ∧ uY ts = (p, b) ∧ Below w.heap.size w w'
theorem zG {w : World} {B : Nat} {A : Option Addr} {ts : List fH} (h : jT w B A ts) : ts.length = 0 ∨ ∃ b off, A = some ⟨b, off, none⟩ ∧ b < B ∧ sF w b off ts := by
  have hl := cu (s := 68) fH.cells ts fun x hx => (h.each x hx).size
  rcases h.row with h0 | ⟨b, off, h1, h2, h3⟩
  · exact .inl (by omega)
  · exact .inr ⟨b, off, h1, h2, fun j x hx => ⟨az.elem (fun x hx => (h.each x hx).size) h3 j x hx, (h.each x (gU hx)).size⟩⟩
def Cur1 (w : World) (ts : List fH) (n : Nat) (i : Value) (wr : World) : Prop := ∃ k : Nat, k ≤ n ∧ i = .int .i64 k ∧ (∀ j x, j < k → ts[j]? = some x → Dp x.t j = true) ∧ Below w.heap.size w wr
theorem yc (A : Option Addr) (c n : Nat) (ts : List fH) (w : World) (hn : ts.length = n) (hn1 : n ≤ 1000) (h : jT w w.heap.size A ts) :
    Calls Tryz.prog 32 #[.slice A n c] w (VJ w ts) := by
  refine (callsIn_wide (n := 3)).1 ?_
  have hro : Fence.wide.round = none := rfl
  have h1 : 1 ≤ 3 := by omega
  have HN := ae hn
  have HT := ae (zG h)
  have H1 : Hid (∀ x ∈ ts, x.cells.length = 68) := ae fun x hx => (h.each x hx).size
  clear h hn
  refine callsIn_of_wp_marks Tryz.func32 rfl trivial ?_ hro
  simp only [Tryz.ntmps32, List.size_toArray, List.length_cons, List.length_nil, Nat.reduceAdd, Nat.reduceSub, Array.replicate_succ, Array.replicate_zero, List.push_toArray, List.append_toArray, List.nil_append, List.cons_append]
  gi_wp2
  gi_loopw [12] (fun i wr => Cur1 w ts n i wr) (fun i _ => n - (intOf i).toNat)
  case atStart => exact ⟨0, Nat.zero_le _, rfl, fun j x hj => absurd hj (Nat.not_lt_zero _), Below.refl _ _⟩
  case round =>
    obtain ⟨k, hk, rfl, hall, hb⟩ := hrel
    have jo := ae hall
    have HB := ae hb
    clear hall hb
    by_cases hlt : k < n
    · have hkl : k < ts.length := by rw [HN.out]; exact hlt
      obtain ⟨x, hx⟩ : ∃ x, ts[k]? = some x := ⟨_, bZ hkl⟩
      have h68 := H1.out x (gU hx)
      obtain ⟨b, off, rfl, hbw, htab⟩ : ∃ b off, A = some ⟨b, off, none⟩ ∧ b < w.heap.size ∧ sF w b off ts := by
        rcases HT.out with h0 | h0
        · omega
        · exact h0
      have HX := ae hx
      have Nh : Hid (wr.rangeAt b (off + k * 68) x.cells) := ae (aU (htab k x hx).1 HB.out hbw)
      have fG : Hid ((Tryz.prog.info? 39).map (·.size) = some x.cells.length) := ae (by rw [h68]; kernel_rfl)
      have pg : Hid ((Tryz.prog.info? 39).map (·.size) = some x.cells.toArray.size) := ae (by rw [List.size_toArray, h68]; kernel_rfl)
      have HZS : Hid (Tryz.zeroCells39.size = x.cells.toArray.size) := ae ((show Tryz.zeroCells39.size = 68 by kernel_rfl).trans (by rw [List.size_toArray, h68]))
      have i0 : (0 : Int) ≤ (k : Int) := by omega
      have i1 : (k : Int) < (n : Int) := by omega
      have hw : IntKind.i64.wrap ((k : Int) + 1) = (k : Int) + 1 := by rw [IntKind.wrap_i64]; omega
      clear hkl hx h68 htab
      gi_wp2_with (first
        | ((with_reducible refine E8 39 ?_); refine mX rfl _ _ rfl b (off + k * 68) rfl x.cells _ Nh.out Tryz.underlying39 rfl fG.out ?_)
        | ((with_reducible refine wB 39 ?_); refine jL rfl _ _ _ rfl x.cells.toArray rfl rfl 39 Tryz.zeroCells39 rfl pg.out HZS.out (aW _ _ _ _) ?_; intro W5 hb5 hs5 hf5 yV hk5; have c1 : W5.cell? ⟨wr.heap.size, 1, none⟩ = some (I x.t.version) := yV.2 1; have c2 : W5.cell? ⟨wr.heap.size, 2, none⟩ = some (I x.t.aO) := yV.2 2; have rV := ae (ai HB.out hb5); clear hb5 hs5 hf5 yV hk5))
      all_goals first
        | (refine ⟨⟨k + 1, by omega, by go_num, fun j y hj hy => ?_, rV.out⟩, by simp [intOf]; omega⟩
           by_cases hjk : j < k
           · exact jo.out j y hjk hy
           · have e : j = k := by omega
             subst e
             have e2 : x = y := by have h1 := HX.out; rw [hy] at h1; injection h1 with h1; exact h1.symm
             subst e2
             unfold Dp
             rw [decide_eq_true (by omega), decide_eq_true (by omega), decide_eq_true (by omega)]
             rfl)
        | (have hno : Dp x.t k = false := by
             cases hq : Dp x.t k with
             | false => rfl
             | true => exfalso; unfold Dp at hq; simp only [Bool.and_eq_true, decide_eq_true_eq] at hq; omega
           have G8 := ae hno
           clear hno
           refine ⟨_, results_tmp2 rfl _ _ _, ?_⟩
           exact ⟨0, false, rfl, by unfold uY; rw [WE k x HX.out G8.out]; rfl, rV.out⟩)
    · have hke : k = n := by omega
      have QP : Hid (Ig ts = true) := ae (RP fun j x hx => jo.out j x (by have h1 := (iT.1 hx).1; have := HN.out; omega) hx)
      have OD : Hid (Below w.heap.size w wr) := HB
      have hmk : ∀ W, (Instr.makeSlice 124 (.int .i64 ((n : Int) + 1)) (.int .i64 ((n : Int) + 1))).run Tryz.prog W = .ok (.slice (some ⟨W.heap.size, 0, none⟩) (n + 1) (n + 1)) (W.alloc (.cells (Array.replicate (n + 1) (.bool false)) 4)) := fun W => Ll (n + 1) (by omega) W
      have hnl : ¬ (k : Int) < (n : Int) := by omega
      clear hke
      gi_wp2_with (refine ⟨trivial, ?_⟩; gi_at_call 51; refine (Rz Fence.wide 2 trivial hro _ _ _ _).mono ?_; rintro e w' ⟨rfl, rfl⟩)
      have hsz0 : (((wr.alloc (.cells #[I (-1)] 3)).alloc (.cells (Array.replicate (n + 1) (.bool false)) 4)).alloc (.cells #[.slice (some ⟨wr.heap.size + 1, 0, none⟩) (n + 1) (n + 1)] 124)).heap.size = wr.heap.size + 3 := by simp
      obtain ⟨Wx, SG⟩ : ∃ Wx, ((wr.alloc (.cells #[I (-1)] 3)).alloc (.cells (Array.replicate (n + 1) (.bool false)) 4)).alloc (.cells #[.slice (some ⟨wr.heap.size + 1, 0, none⟩) (n + 1) (n + 1)] 124) = Wx := ⟨_, rfl⟩
      have hbx : Below wr.heap.size wr Wx := by rw [← SG]; exact (((Below.refl _ wr).alloc (Nat.le_refl _) _).alloc (by simp) _).alloc (by simp; omega) _
      have hB0 : Wx.heap[wr.heap.size]? = some (.cells #[I (-1)] 3 (0, 0)) := by rw [← SG]; exact (Below.heap_alloc _ _ _ (by simp; omega)).trans ((Below.heap_alloc _ _ _ (by simp)).trans (heap_alloc_last wr _))
      have hB1 : Wx.heap[wr.heap.size + 1]? = some (.cells (Array.replicate (n + 1) (.bool false)) 4 (0, 0)) := by rw [← SG]; have h2 := heap_alloc_last (wr.alloc (.cells #[I (-1)] 3)) (.cells (Array.replicate (n + 1) (.bool false)) 4); rw [World.size_alloc] at h2; exact (Below.heap_alloc _ _ _ (by simp)).trans h2
      have hB2 : Wx.heap[wr.heap.size + 2]? = some (.cells #[.slice (some ⟨wr.heap.size + 1, 0, none⟩) (n + 1) (n + 1)] 124 (0, 0)) := by rw [← SG]; have h2 := heap_alloc_last ((wr.alloc (.cells #[I (-1)] 3)).alloc (.cells (Array.replicate (n + 1) (.bool false)) 4)) (.cells #[.slice (some ⟨wr.heap.size + 1, 0, none⟩) (n + 1) (n + 1)] 124); rw [World.size_alloc, World.size_alloc] at h2; exact h2
      rw [SG] at hsz0 ⊢
      have bS := Boxed.new Wx 32 (.slice A n c)
      have hb4 := ag Wx (.cells #[.slice A n c] 32)
      obtain ⟨W0, hW0⟩ : ∃ W0, Wx.alloc (.cells #[.slice A n c] 32) = W0 := ⟨_, rfl⟩
      have hsz4 : W0.heap.size = wr.heap.size + 4 := by rw [← hW0, World.size_alloc, hsz0]
      rw [hW0] at bS hb4 ⊢
      rw [hsz0] at bS hb4
      have Xc : w.heap.size ≤ wr.heap.size := HB.out.size
      have hCI : CI w wr.heap.size n (-1) (List.replicate (n + 1) false) W0 := ⟨(hb4.block _ (by omega)).trans hB0, (hb4.block _ (by omega)).trans hB2, by rw [hb4.block _ (by omega), hB1]; simp, (HB.out.trans (hbx.mono Xc)).trans (hb4.mono (by omega)), by omega⟩
      have Zo : ts.length = 0 ∨ ∃ b off, A = some ⟨b, off, none⟩ ∧ b < w.heap.size ∧ sF W0 b off ts := HT.out.imp id fun ⟨b, off, h1, h2, h3⟩ => ⟨b, off, h1, h2, fun j x hx => ⟨aU (h3 j x hx).1 hCI.up h2, (h3 j x hx).2⟩⟩
      have hst := Ia Fence.wide (3 - 1) trivial hro (by omega) (wr.heap.size + 3) w.heap.size A c ts (by have := HN.out; omega) W0 (by omega) (by omega) (by rw [HN.out]; exact bS.cell) Zo
      rw [HN.out] at hst
      clear SG hbx hB0 hB1 hB2 bS hb4 hW0 hsz0 Zo hmk
      refine wpIn_rangeFunc_ownH hro h1 (gf := 73) (lb := #[.pointer (some ⟨wr.heap.size + 3, 0, none⟩)]) rfl trivial (enters_of Tryz.func73 (by kernel_rfl) rfl)
        hst (fun h k => h.trans k) (bk_b (by omega) (by omega)) (Below.refl _ _) (fun _ => rfl)
        (fun pre W => CI w wr.heap.size n (dV ts pre).1 (dV ts pre).2 W)
        (fun _ _ _ => False)
        (ci_own (by omega) _)
        (fun _ _ _ _ _ hs _ _ => hs)
        (by unfold dV; rw [HN.out]; exact hCI)
        (fun x a' W => ∃ B, wr.heap.size + 3 < B ∧ W.heap[B]? = some (.cells x.1.2.cells.toArray 39 (0, 0)) ∧ a' = ({ tmps := #[.slice A n c, undef, u2, u3, u4, u5, .pointer (some ⟨wr.heap.size, 0, none⟩), .pointer (some ⟨wr.heap.size + 1 + 1, 0, none⟩), I x.1.1, .pointer (some ⟨B, 0, none⟩), .slice A n c, I n, I k, .bool false, u14, u15, u16, u17, u18, u19, u20, u21, u22, u23, u24, u25, u26, u27, u28, u29, u30, u31, u32, u33, .slice A n c, I n, I (n + 1), .slice (some ⟨wr.heap.size + 1, 0, none⟩) (n + 1) (n + 1), .slice A n c, .func (.func 73) #[] #[.pointer (some ⟨wr.heap.size + 1 + 1 + 1, 0, none⟩)], I x.1.1, .agg x.1.2.cells.toArray, undef, undef, undef, undef, undef, undef, undef, undef, undef, undef, undef, undef, undef, undef, undef, undef, undef, undef, undef, undef, undef, undef, undef, undef, undef, undef, undef], defers := [] } : Act))
        (fun x a' _ X Y row hs hg hr => by obtain ⟨B, h1, h2, h3⟩ := hs; exact ⟨B, h1, ES B _ _ () X Y row h2 hg hr, h3⟩)
        ?assign ?body ?done ?stop
      case assign =>
        rintro l pre x W K hci hK
        have h68 := H1.out x.1.2 (gU x.2)
        have pg : Hid ((Tryz.prog.info? 39).map (·.size) = some x.1.2.cells.toArray.size) := ae (by rw [List.size_toArray, h68]; kernel_rfl)
        have HZS : Hid (Tryz.zeroCells39.size = x.1.2.cells.toArray.size) := ae ((show Tryz.zeroCells39.size = 68 by kernel_rfl).trans (by rw [List.size_toArray, h68]))
        have G5 := ae hci
        have hsz := hci.sz
        have hup := hci.up.size
        clear hci h68
        gi_wp2_with ((with_reducible refine wB 39 ?_); refine jL rfl _ _ _ rfl x.1.2.cells.toArray rfl rfl 39 Tryz.zeroCells39 rfl pg.out HZS.out (aW _ _ _ _) ?_; intro W5 hb5 hs5 hh5 yV hk5; have rV := ae hb5; have HH5 := ae hh5; have Ce := ae hk5; clear hb5 hs5 hh5 yV hk5)
        exact hK _ _ (Ce.out.from _) ⟨rV.out.mono hup, rV.out.cell (p := ⟨wr.heap.size + 3, 0, none⟩) hsz⟩ (G5.out.grow rV.out) ⟨W.heap.size, hsz, HH5.out, rfl⟩
      case body =>
        rintro l pre x a' W hl _ hci ⟨B, hB, hblk, rfl⟩ hlt2
        have htb := Nz QP.out x.1.1 x.1.2 x.2
        have hxl : x.1.1 < n := by have h1 := (iT.1 x.2).1; have := HN.out; omega
        unfold Dp at htb
        simp only [Bool.and_eq_true, decide_eq_true_eq] at htb
        obtain ⟨hv, hw0, hw1⟩ := htb
        obtain ⟨⟨p, gl⟩, hst⟩ : ∃ st, dV ts pre = st := ⟨_, rfl⟩
        have hgl : gl.length = n + 1 := by have h := Ik ts pre; rw [hst, HN.out] at h; exact h
        rw [hst] at hci
        have HSN : Hid (dV ts (pre ++ [x]) = gW (p, gl) x.1) := ae (by rw [EU, hst])
        clear hst
        have hc1 : W.cell? ⟨B, 1, none⟩ = some (I x.1.2.t.version) := cell_of_row W B 1 _ _ _ hblk
        have hc2 : W.cell? ⟨B, 2, none⟩ = some (I x.1.2.t.aO) := cell_of_row W B 2 _ _ _ hblk
        have hc3 : W.cell? ⟨B, 3, none⟩ = some (.slice x.1.2.A x.1.2.zs.length x.1.2.c) := cell_of_row W B 3 _ _ _ hblk
        obtain ⟨m, hm⟩ : ∃ m : Nat, x.1.2.t.aO = (m : Int) := ⟨_, (Int.toNat_of_nonneg hw0).symm⟩
        obtain ⟨r, hr⟩ : ∃ r : Nat, x.1.1 + 1 = r := ⟨_, rfl⟩
        have hvr : x.1.2.t.version = (r : Int) := by omega
        obtain ⟨z, hz⟩ : ∃ z, x.1.2.zs.length = z := ⟨_, rfl⟩
        obtain ⟨b, hb⟩ : ∃ b, gl[r]? = some b := ⟨_, bZ (by omega)⟩
        obtain ⟨b2, hb2⟩ : ∃ b, gl[m]? = some b := ⟨_, bZ (by omega)⟩
        rw [hvr] at hc1
        rw [hm] at hc2
        rw [hz] at hc3
        have cB := hci.best.cell
        have cG := hci.gone.cell
        have fB := hci.best.frozen
        have hfz : ∀ i, W.frozen? ⟨wr.heap.size + 1, i, none⟩ = false := fun i => frozen_of_row _ _ i _ _ hci.row
        have hgc : ∀ j b, gl[j]? = some b → W.cell? ⟨wr.heap.size + 1, j, none⟩ = some (.bool b) := fun j b hj => by rw [cell_of_row W _ j _ _ _ hci.row]; simp [hj]
        have g1 := hgc _ _ hb
        have g2 := hgc _ _ hb2
        have G5 := ae hci
        have r0 : (0 : Int) ≤ (r : Int) := by omega
        have r1 : (r : Int) < (n : Int) + 1 := by omega
        have m0 : (0 : Int) ≤ (m : Int) := by omega
        have m1 : (m : Int) < (n : Int) + 1 := by omega
        have n1 : ¬ B = wr.heap.size + 1 := by omega
        have n2 : ¬ B = wr.heap.size := by omega
        clear hci hgc hv hw0 hw1 hvr hb2 hgl hblk
        cases b with
        | true =>
          have HS := ae (EW p gl x.1 r hr hb)
          clear hm hz hr hb
          gi_wp2
          exact ⟨KeepsFrom.refl _ _, BK.refl _ _ _, by show CI w wr.heap.size n (dV ts (pre ++ [x])).1 (dV ts (pre ++ [x])).2 _; rw [HSN.out, HS.out]; exact G5.out⟩
        | false =>
          have HG := ae (KJ p gl x.1 r m z hr hb hm hz)
          clear hm hz hr hb
          by_cases hm0 : 0 < m
          · have mZ := ae (G5.out.XV Xc m)
            by_cases hp : p < 0
            · by_cases hz0 : 0 < z
              · have HS : Hid (gW (p, gl) x.1 = ((x.1.1 : Int), gl.set m true)) := ae (by rw [HG.out, if_pos ⟨hp, .inr hz0⟩, if_pos hm0])
                gi_wp2
                exact ⟨((KeepsOthers.setCell _ _ _).trans (KeepsOthers.setCell _ _ _)).from _, (Ih (N := wr.heap.size) (o := m) (j := 1) Xc (by omega) _).trans (Ih (N := wr.heap.size) (o := 0) (j := 0) Xc (by omega) _), by show CI w wr.heap.size n (dV ts (pre ++ [x])).1 (dV ts (pre ++ [x])).2 _; rw [HSN.out, HS.out]; exact mZ.out.Oj Xc _⟩
              · have hzz : z = 0 := by omega
                have HS : Hid (gW (p, gl) x.1 = (p, gl.set m true)) := ae (by rw [HG.out, if_neg (by omega), if_pos hm0])
                gi_wp2
                exact ⟨(KeepsOthers.setCell _ _ _).from _, Ih (N := wr.heap.size) (o := m) (j := 1) Xc (by omega) _, by show CI w wr.heap.size n (dV ts (pre ++ [x])).1 (dV ts (pre ++ [x])).2 _; rw [HSN.out, HS.out]; exact mZ.out⟩
            · have HS : Hid (gW (p, gl) x.1 = (p, gl.set m true)) := ae (by rw [HG.out, if_neg (by omega), if_pos hm0])
              gi_wp2
              all_goals first
                | (exact ⟨(KeepsOthers.setCell _ _ _).from _, Ih (N := wr.heap.size) (o := m) (j := 1) Xc (by omega) _, by show CI w wr.heap.size n (dV ts (pre ++ [x])).1 (dV ts (pre ++ [x])).2 _; rw [HSN.out, HS.out]; exact mZ.out⟩)
                | (rename_i _ _ h _; exact absurd h (by simp [undef]))
          · have hmz : m = 0 := by omega
            by_cases hp : p < 0
            · have HS : Hid (gW (p, gl) x.1 = ((x.1.1 : Int), gl)) := ae (by rw [HG.out, if_pos ⟨hp, .inl hmz⟩, if_neg hm0])
              gi_wp2
              exact ⟨(KeepsOthers.setCell _ _ _).from _, Ih (N := wr.heap.size) (o := 0) (j := 0) Xc (by omega) _, by show CI w wr.heap.size n (dV ts (pre ++ [x])).1 (dV ts (pre ++ [x])).2 _; rw [HSN.out, HS.out]; exact G5.out.Oj Xc _⟩
            · have HS : Hid (gW (p, gl) x.1 = (p, gl)) := ae (by rw [HG.out, if_neg (by omega), if_neg hm0])
              gi_wp2
              all_goals first
                | (exact ⟨KeepsFrom.refl _ _, BK.refl _ _ _, by show CI w wr.heap.size n (dV ts (pre ++ [x])).1 (dV ts (pre ++ [x])).2 _; rw [HSN.out, HS.out]; exact G5.out⟩)
                | (rename_i _ _ h _; exact absurd h (by simp [undef]))
      case done =>
        rintro D ys W hD rfl hci hK
        have cB := hci.best.cell
        have G5 := ae hci
        clear hci
        gi_wp2
        refine ⟨by simp, .inl ⟨_, _, rfl, run_takeDeferred hK, ?_⟩⟩
        refine ⟨_, results_tmp2 rfl _ _ _, ?_⟩
        exact ⟨_, true, rfl, by unfold uY; rw [QP.out, HN.out]; rfl, G5.out.up.trans (belowK_b (w := W0) (n₀ := w.heap.size) (by omega) W D _ (.deferred none) hD hK rfl rfl)⟩
      case stop =>
        rintro D c pre W _ _ h _
        exact h.elim
end Go.Proofs.YtbaehbbonkljpaaGreat
