/- The texts Pb, Ob, Sa, TbV, TbP, TrW, TbB, in this order. -/
import Derived.Test.YtbaehbbonkljpaaGreatR00
import Derived.Test.YtbaehbbonkljpaaGreatR02
import Derived.Test.YtbaehbbonkljpaaGreatR03
set_option maxRecDepth 10000
set_option maxHeartbeats 8000000
namespace Go.Proofs.YtbaehbbonkljpaaGreat
open Go Go.RowKit
def Tr.cells (t:Tr):List Value:= [I t.at_,I t.off]
def Yr.cells (y:Yr):List Value:= [I y.month,I y.cZ,I y.dh,I y.minute,I y.off]
structure jy (w:World) (B:Nat) (s:Zs) (z:Zn):Prop where
 aj:az w B s.A (z.cal.aj.map I)
 rules:az w B s.B (z.cal.rules.flatMap Lr.cells)
 trans:az w B s.C (z.trans.flatMap Tr.cells)
 ax:az w B s.D (z.ax.flatMap Yr.cells)
structure kH (w:World) (B:Nat) (A:Option Addr) (zs:List dB):Prop where
 row:az w B A (aV zs)
 each:∀x∈zs,jy w B x.s x.e.z
structure fH where
 t:Tb
 A:Option Addr
 c:Nat
 zs:List dB
def fH.cells (x:fH):List Value:=iW x.t (.slice x.A x.zs.length x.c)
structure jB (w:World) (B:Nat) (x:fH):Prop where
 names:x.t.aG=x.zs.map (·.e)
 prev:x.t.prev.length=32
 dQ:x.t.dQ.length=32
 aG:kH w B x.A x.zs
structure jT (w:World) (B:Nat) (A:Option Addr) (ts:List fH):Prop where
 row:az w B A (ts.flatMap fH.cells)
 each:∀x∈ts,jB w B x
section
variable {w w':World} {B B':Nat} {A:Option Addr} {s:Zs} {z:Zn} {zs:List dB} {x:fH} {ts:List fH}
theorem jy.keep (h:jy w B s z) (hb:Below B w w'):jy w' B s z:=⟨h.aj.keep hb,h.rules.keep hb,h.trans.keep hb,h.ax.keep hb⟩
theorem jy.more (h:jy w B s z) (hB:B≤B'):jy w B' s z:=⟨h.aj.more hB,h.rules.more hB,h.trans.more hB,h.ax.more hB⟩
theorem jy.grow (h:jy w w.heap.size s z) (hb:Below w.heap.size w w'):jy w' w'.heap.size s z:=(h.keep hb).more hb.size
theorem kH.keep (h:kH w B A zs) (hb:Below B w w'):kH w' B A zs:=⟨h.row.keep hb,fun x hx=>(h.each x hx).keep hb⟩
theorem kH.more (h:kH w B A zs) (hB:B≤B'):kH w B' A zs:=⟨h.row.more hB,fun x hx=>(h.each x hx).more hB⟩
theorem kH.grow (h:kH w w.heap.size A zs) (hb:Below w.heap.size w w'):kH w' w'.heap.size A zs:=(h.keep hb).more hb.size
theorem kH.nil:kH w B A []:=⟨.nil,fun _ hx=>nomatch hx⟩
theorem jB.keep (h:jB w B x) (hb:Below B w w'):jB w' B x:=⟨h.names,h.prev,h.dQ,h.aG.keep hb⟩
theorem jB.more (h:jB w B x) (hB:B≤B'):jB w B' x:=⟨h.names,h.prev,h.dQ,h.aG.more hB⟩
theorem jB.grow (h:jB w w.heap.size x) (hb:Below w.heap.size w w'):jB w' w'.heap.size x:=(h.keep hb).more hb.size
theorem jB.size (h:jB w B x):x.cells.length=68:=by
 have:=bF x.t (.slice x.A x.zs.length x.c) h.prev h.dQ;simpa [ah,fH.cells] using this
theorem jT.keep (h:jT w B A ts) (hb:Below B w w'):jT w' B A ts:=⟨h.row.keep hb,fun x hx=>(h.each x hx).keep hb⟩
theorem jT.more (h:jT w B A ts) (hB:B≤B'):jT w B' A ts:=⟨h.row.more hB,fun x hx=>(h.each x hx).more hB⟩
theorem jT.grow (h:jT w w.heap.size A ts) (hb:Below w.heap.size w w'):jT w' w'.heap.size A ts:=(h.keep hb).more hb.size
theorem jT.nil:jT w B A []:=⟨.nil,fun _ hx=>nomatch hx⟩
end
theorem vH (t:Tr):∀u∈t.cells,u.oneCell'=true:=by
 intro u hu;simp [Tr.cells] at hu;rcases hu with rfl|rfl<;>rfl
theorem vO (y:Yr):∀u∈y.cells,u.oneCell'=true:=by
 intro u hu;simp [Yr.cells] at hu;rcases hu with rfl|rfl|rfl|rfl|rfl<;>rfl
theorem Xw (r:Lr):∀u∈r.cells,u.oneCell'=true:=by
 intro u hu;simp [Lr.cells] at hu;rcases hu with rfl|rfl|rfl<;>rfl
def ClA (w:World) (e size n:Nat) (cs:List Value) (en:Ending) (w':World):Prop:=
 ∃A c,en= .returned (.slice A n c)∧w'.ownsRow w.heap.size e size (.slice A n c) n cs∧Below w.heap.size w w'
theorem fC {w:World} {base e size n:Nat} {v:Value} {xs:List Value} (h:w.ownsRow base e size v n xs):∃A c,v= .slice A n c:=by
 rcases h.2 with ⟨rfl,rfl⟩|⟨g,cap,cur,rfl,_⟩
 ·exact ⟨_,_,rfl⟩
 ·exact ⟨_,_,rfl⟩
theorem lS {w:World} {a:Addr} {cs:List Value} {o:Obj} (h:az w w.heap.size (some a) cs):∀j u,cs[j]? =some u→(w.alloc o).cell? (a.add j)=some u:=by
 intro j u hu;rcases h with h|⟨b,off,h1,h2,h3⟩
 ·rw [List.eq_nil_of_length_eq_zero h] at hu;cases hu
 ·injection h1 with h1;subst h1;rw [Addr.add_mid,World.cell?_of_block (Below.heap_alloc w _ b h2)];exact h3 j u hu
theorem AO:(Tryz.prog.info? 131).map (fun i=>(i.zero,i.size,i.bytes))=some (some (.agg #[I 0,I 0, .bool false]),3,24):=by kernel_rfl
theorem uk:(Tryz.prog.info? 105).map (fun i=>(i.zero,i.size,i.bytes))=some (some (.agg #[I 0,I 0]),2,16):=by kernel_rfl
theorem zB:(Tryz.prog.info? 107).map (fun i=>(i.zero,i.size,i.bytes))=some (some (.agg #[I 0,I 0,I 0,I 0,I 0]),5,40):=by kernel_rfl
theorem WH (c:Nat) (w:World):Calls Tryz.prog 52 #[.slice none 0 c] w fun e w'=>e= .returned (.slice none 0 0)∧w'=w:=by
 have heq:∀W,(binOp .eql 47 (.slice none 0 c) (.slice none 0 0)).run Tryz.prog W= .ok (.bool true) W:=fun W=>by simp [binOp,run_equal_slice_nil W 47 3 none 0 c Tryz.underlying47]
 go_enter Tryz.func52,Tryz.ntmps52
 go_wp2
 go_ret;exact ⟨rfl,rfl⟩
theorem WG (A:Option Addr) (c n:Nat) (cs:List Value) (w:World) (hA:az w w.heap.size A cs) (hl:cs.length=n*1) (h1:∀u∈cs,u.oneCell'=true) (hn:n≤10000):
  Calls Tryz.prog 52 #[.slice A n c] w (ClA w 3 1 n cs):=by
 cases A with
 |none=>
  have hc:cs= []:=by
   rcases hA with h|⟨b,off,h,_⟩
   ·exact List.eq_nil_of_length_eq_zero h
   ·cases h
  subst hc;have hn0:n=0:=by simp at hl;omega
  subst hn0;exact (WH c w).mono fun e w' ⟨he,hw⟩=>⟨none,0,he,World.ownsRow_nil _ _ _ _,by rw [hw];exact Below.refl _ _⟩
 |some a=>
  have QR:=ae (lS (o:= .cells #[] 3) hA);have HO:=ae (iU w 3 1);have HL:=ae hl;have H1:=ae h1;have HB:=ae (ag w (.cells #[] 3));obtain ⟨i0,hi,hz0,hz1,hz2⟩:=info_parts sN;have HI:=ae hi;have HZ0:=ae hz0;have HZ1:=ae hz1;have HZ2:=ae hz2;have heq:∀W,(binOp .eql 47 (.slice (some a) n c) (.slice none 0 0)).run Tryz.prog W= .ok (.bool false) W:=fun W=>by simp [binOp,run_equal_slice_nil W 47 3 (some a) n c Tryz.underlying47]
  clear hA hl h1 hi hz0 hz1 hz2;go_enter Tryz.func52,Tryz.ntmps52;go_wp2_with (at_builtin;refine wpList_append_own_at _ rfl _ _ 47 rfl w.heap.size 3 i0 (.int .i64 0) 1 8 Tryz.underlying47 HI.out HZ0.out HZ1.out HZ2.out rfl (by decide) _ 0 [] rfl HO.out a n c cs rfl HL.out QR.out H1.out (by unfold maxLen;omega) (by omega) (by simp) ?_);intro v' w' hown hg _ _;have HB2:=ae (dm HB.out HO.out (by simp) hg);obtain ⟨A',c',rfl⟩:=fC hown;have HOW:=ae hown;clear hown hg;go_wp2_with fail;go_ret;exact ⟨A',c',by first|rfl|(rw [Nat.zero_add]),by have h:=HOW.out;simpa using h,HB2.out⟩
theorem WJ (c:Nat) (w:World):Calls Tryz.prog 53 #[.slice none 0 c] w fun e w'=>e= .returned (.slice none 0 0)∧w'=w:=by
 have heq:∀W,(binOp .eql 48 (.slice none 0 c) (.slice none 0 0)).run Tryz.prog W= .ok (.bool true) W:=fun W=>by simp [binOp,run_equal_slice_nil W 48 131 none 0 c Tryz.underlying48]
 go_enter Tryz.func53,Tryz.ntmps53
 go_wp2
 go_ret;exact ⟨rfl,rfl⟩
theorem WI (A:Option Addr) (c n:Nat) (cs:List Value) (w:World) (hA:az w w.heap.size A cs) (hl:cs.length=n*3) (h1:∀u∈cs,u.oneCell'=true) (hn:n≤10000):
  Calls Tryz.prog 53 #[.slice A n c] w (ClA w 131 3 n cs):=by
 cases A with
 |none=>
  have hc:cs= []:=by
   rcases hA with h|⟨b,off,h,_⟩
   ·exact List.eq_nil_of_length_eq_zero h
   ·cases h
  subst hc;have hn0:n=0:=by simp at hl;omega
  subst hn0;exact (WJ c w).mono fun e w' ⟨he,hw⟩=>⟨none,0,he,World.ownsRow_nil _ _ _ _,by rw [hw];exact Below.refl _ _⟩
 |some a=>
  have QR:=ae (lS (o:= .cells #[] 131) hA);have HO:=ae (iU w 131 3);have HL:=ae hl;have H1:=ae h1;have HB:=ae (ag w (.cells #[] 131));obtain ⟨i0,hi,hz0,hz1,hz2⟩:=info_parts AO;have HI:=ae hi;have HZ0:=ae hz0;have HZ1:=ae hz1;have HZ2:=ae hz2;have heq:∀W,(binOp .eql 48 (.slice (some a) n c) (.slice none 0 0)).run Tryz.prog W= .ok (.bool false) W:=fun W=>by simp [binOp,run_equal_slice_nil W 48 131 (some a) n c Tryz.underlying48]
  clear hA hl h1 hi hz0 hz1 hz2;go_enter Tryz.func53,Tryz.ntmps53;go_wp2_with (at_builtin;refine wpList_append_own_at _ rfl _ _ 48 rfl w.heap.size 131 i0 (.agg #[I 0,I 0, .bool false]) 3 24 Tryz.underlying48 HI.out HZ0.out HZ1.out HZ2.out rfl (by decide) _ 0 [] rfl HO.out a n c cs rfl HL.out QR.out H1.out (by unfold maxLen;omega) (by omega) (by simp) ?_);intro v' w' hown hg _ _;have HB2:=ae (dm HB.out HO.out (by simp) hg);obtain ⟨A',c',rfl⟩:=fC hown;have HOW:=ae hown;clear hown hg;go_wp2_with fail;go_ret;exact ⟨A',c',by first|rfl|(rw [Nat.zero_add]),by have h:=HOW.out;simpa using h,HB2.out⟩
theorem WR (c:Nat) (w:World):Calls Tryz.prog 54 #[.slice none 0 c] w fun e w'=>e= .returned (.slice none 0 0)∧w'=w:=by
 have heq:∀W,(binOp .eql 51 (.slice none 0 c) (.slice none 0 0)).run Tryz.prog W= .ok (.bool true) W:=fun W=>by simp [binOp,run_equal_slice_nil W 51 105 none 0 c Tryz.underlying51]
 go_enter Tryz.func54,Tryz.ntmps54
 go_wp2
 go_ret;exact ⟨rfl,rfl⟩
theorem WO (A:Option Addr) (c n:Nat) (cs:List Value) (w:World) (hA:az w w.heap.size A cs) (hl:cs.length=n*2) (h1:∀u∈cs,u.oneCell'=true) (hn:n≤10000):
  Calls Tryz.prog 54 #[.slice A n c] w (ClA w 105 2 n cs):=by
 cases A with
 |none=>
  have hc:cs= []:=by
   rcases hA with h|⟨b,off,h,_⟩
   ·exact List.eq_nil_of_length_eq_zero h
   ·cases h
  subst hc;have hn0:n=0:=by simp at hl;omega
  subst hn0;exact (WR c w).mono fun e w' ⟨he,hw⟩=>⟨none,0,he,World.ownsRow_nil _ _ _ _,by rw [hw];exact Below.refl _ _⟩
 |some a=>
  have QR:=ae (lS (o:= .cells #[] 105) hA);have HO:=ae (iU w 105 2);have HL:=ae hl;have H1:=ae h1;have HB:=ae (ag w (.cells #[] 105));obtain ⟨i0,hi,hz0,hz1,hz2⟩:=info_parts uk;have HI:=ae hi;have HZ0:=ae hz0;have HZ1:=ae hz1;have HZ2:=ae hz2;have heq:∀W,(binOp .eql 51 (.slice (some a) n c) (.slice none 0 0)).run Tryz.prog W= .ok (.bool false) W:=fun W=>by simp [binOp,run_equal_slice_nil W 51 105 (some a) n c Tryz.underlying51]
  clear hA hl h1 hi hz0 hz1 hz2;go_enter Tryz.func54,Tryz.ntmps54;go_wp2_with (at_builtin;refine wpList_append_own_at _ rfl _ _ 51 rfl w.heap.size 105 i0 (.agg #[I 0,I 0]) 2 16 Tryz.underlying51 HI.out HZ0.out HZ1.out HZ2.out rfl (by decide) _ 0 [] rfl HO.out a n c cs rfl HL.out QR.out H1.out (by unfold maxLen;omega) (by omega) (by simp) ?_);intro v' w' hown hg _ _;have HB2:=ae (dm HB.out HO.out (by simp) hg);obtain ⟨A',c',rfl⟩:=fC hown;have HOW:=ae hown;clear hown hg;go_wp2_with fail;go_ret;exact ⟨A',c',by first|rfl|(rw [Nat.zero_add]),by have h:=HOW.out;simpa using h,HB2.out⟩
theorem WU (c:Nat) (w:World):Calls Tryz.prog 55 #[.slice none 0 c] w fun e w'=>e= .returned (.slice none 0 0)∧w'=w:=by
 have heq:∀W,(binOp .eql 52 (.slice none 0 c) (.slice none 0 0)).run Tryz.prog W= .ok (.bool true) W:=fun W=>by simp [binOp,run_equal_slice_nil W 52 107 none 0 c Tryz.underlying52]
 go_enter Tryz.func55,Tryz.ntmps55
 go_wp2
 go_ret;exact ⟨rfl,rfl⟩
theorem WT (A:Option Addr) (c n:Nat) (cs:List Value) (w:World) (hA:az w w.heap.size A cs) (hl:cs.length=n*5) (h1:∀u∈cs,u.oneCell'=true) (hn:n≤10000):
  Calls Tryz.prog 55 #[.slice A n c] w (ClA w 107 5 n cs):=by
 cases A with
 |none=>
  have hc:cs= []:=by
   rcases hA with h|⟨b,off,h,_⟩
   ·exact List.eq_nil_of_length_eq_zero h
   ·cases h
  subst hc;have hn0:n=0:=by simp at hl;omega
  subst hn0;exact (WU c w).mono fun e w' ⟨he,hw⟩=>⟨none,0,he,World.ownsRow_nil _ _ _ _,by rw [hw];exact Below.refl _ _⟩
 |some a=>
  have QR:=ae (lS (o:= .cells #[] 107) hA);have HO:=ae (iU w 107 5);have HL:=ae hl;have H1:=ae h1;have HB:=ae (ag w (.cells #[] 107));obtain ⟨i0,hi,hz0,hz1,hz2⟩:=info_parts zB;have HI:=ae hi;have HZ0:=ae hz0;have HZ1:=ae hz1;have HZ2:=ae hz2;have heq:∀W,(binOp .eql 52 (.slice (some a) n c) (.slice none 0 0)).run Tryz.prog W= .ok (.bool false) W:=fun W=>by simp [binOp,run_equal_slice_nil W 52 107 (some a) n c Tryz.underlying52]
  clear hA hl h1 hi hz0 hz1 hz2;go_enter Tryz.func55,Tryz.ntmps55;go_wp2_with (at_builtin;refine wpList_append_own_at _ rfl _ _ 52 rfl w.heap.size 107 i0 (.agg #[I 0,I 0,I 0,I 0,I 0]) 5 40 Tryz.underlying52 HI.out HZ0.out HZ1.out HZ2.out rfl (by decide) _ 0 [] rfl HO.out a n c cs rfl HL.out QR.out H1.out (by unfold maxLen;omega) (by omega) (by simp) ?_);intro v' w' hown hg _ _;have HB2:=ae (dm HB.out HO.out (by simp) hg);obtain ⟨A',c',rfl⟩:=fC hown;have HOW:=ae hown;clear hown hg;go_wp2_with fail;go_ret;exact ⟨A',c',by first|rfl|(rw [Nat.zero_add]),by have h:=HOW.out;simpa using h,HB2.out⟩
theorem WV (c:Nat) (w:World):Calls Tryz.prog 46 #[.slice none 0 c] w fun e w'=>e= .returned (.slice none 0 0)∧w'=w:=by
 have heq:∀W,(binOp .eql 37 (.slice none 0 c) (.slice none 0 0)).run Tryz.prog W= .ok (.bool true) W:=fun W=>by simp [binOp,run_equal_slice_nil W 37 70 none 0 c Tryz.underlying37]
 go_enter Tryz.func46,Tryz.ntmps46
 go_wp2
 go_ret;exact ⟨rfl,rfl⟩
theorem NC (A:Option Addr) (c n:Nat) (cs:List Value) (w:World) (hA:az w w.heap.size A cs) (hl:cs.length=n*9) (h1:∀u∈cs,u.oneCell'=true) (hn:n≤10000):
  Calls Tryz.prog 46 #[.slice A n c] w (ClA w 70 9 n cs):=by
 cases A with
 |none=>
  have hc:cs= []:=by
   rcases hA with h|⟨b,off,h,_⟩
   ·exact List.eq_nil_of_length_eq_zero h
   ·cases h
  subst hc;have hn0:n=0:=by simp at hl;omega
  subst hn0;exact (WV c w).mono fun e w' ⟨he,hw⟩=>⟨none,0,he,World.ownsRow_nil _ _ _ _,by rw [hw];exact Below.refl _ _⟩
 |some a=>
  have QR:=ae (lS (o:= .cells #[] 70) hA);have HO:=ae (iU w 70 9);have HL:=ae hl;have H1:=ae h1;have HB:=ae (ag w (.cells #[] 70));obtain ⟨i0,hi,hz0,hz1,hz2⟩:=info_parts zC;have HI:=ae hi;have HZ0:=ae hz0;have HZ1:=ae hz1;have HZ2:=ae hz2;have heq:∀W,(binOp .eql 37 (.slice (some a) n c) (.slice none 0 0)).run Tryz.prog W= .ok (.bool false) W:=fun W=>by simp [binOp,run_equal_slice_nil W 37 70 (some a) n c Tryz.underlying37]
  clear hA hl h1 hi hz0 hz1 hz2;go_enter Tryz.func46,Tryz.ntmps46;go_wp2_with (at_builtin;refine wpList_append_own_at _ rfl _ _ 37 rfl w.heap.size 70 i0 (.agg nM) 9 144 Tryz.underlying37 HI.out HZ0.out HZ1.out HZ2.out rfl (by decide) _ 0 [] rfl HO.out a n c cs rfl HL.out QR.out H1.out (by unfold maxLen;omega) (by omega) (by simp) ?_);intro v' w' hown hg _ _;have HB2:=ae (dm HB.out HO.out (by simp) hg);obtain ⟨A',c',rfl⟩:=fC hown;have HOW:=ae hown;clear hown hg;go_wp2_with fail;go_ret;exact ⟨A',c',by first|rfl|(rw [Nat.zero_add]),by have h:=HOW.out;simpa using h,HB2.out⟩
attribute [local go_sem] kL kQ kM kR nZ og kJ kN kK kP TB TK
def sK (b:Bool):Int:=if b=true then 1 else 0
def jr (x:Lr):List UInt8:=le x.every 2++(le x.rest 2++le (sK x.yes) 1)
def iI (x:Tr):List UInt8:=le x.at_ 8++le x.off 2
def jv (x:Yr):List UInt8:=le x.month 1++(le x.cZ 1++(le x.dh 1++(le x.minute 2++le x.off 2)))
def kX (z:Int):Prop:= -9223372036854775808≤z∧z≤9223372036854775807
def yh (x:Lr):Prop:=kX x.every∧kX x.rest
def yB (x:Tr):Prop:=kX x.at_∧kX x.off
def oW (x:Yr):Prop:=kX x.month∧kX x.cZ∧kX x.dh∧kX x.minute∧kX x.off
theorem yg (x:Lr):(jr x).length=5:=by simp [jr,aC]
theorem tH (x:Tr):(iI x).length=10:=by simp [iI,aC]
theorem yK (x:Yr):(jv x).length=7:=by simp [jv,aC]
theorem uZ {α:Type} (f:α→List UInt8) (L:Nat) (h:∀x,(f x).length=L) (xs:List α):(xs.flatMap f).length=xs.length*L:=by
 induction xs with
 |nil=>simp
 |cons x xs ih=>rw [List.flatMap_cons,bH,ih,h,List.length_cons,Nat.succ_mul,Nat.add_comm]
theorem P7 (w:World) (g:Nat) (p:Addr) (v:Value) (bs:List UInt8) (b:Bool) (hl:bs.length≤1000000000) (hst:gQ w g v bs) (hp:w.cell? p=some (.bool b)):
  Calls Tryz.prog 157 #[pt g, .pointer (some p)] w (iQ w g v (bs++le (sK b) 1)):=by
 obtain ⟨h1,h2⟩:=hst.grow (ag w (.cells #[I (sK b)] 3));have HG2:=ae h2;have hp1:(w.alloc (.cells #[I 0] 3)).cell? p=some (.bool b):=(World.cell?_alloc_some w p _ (by rw [hp];rfl)).trans hp;have HC:=ae (dC (w.alloc (.cells #[I (sK b)] 3)) g ⟨w.heap.size,0,none⟩ v bs (sK b) 1 (by unfold sK;split<;>omega) (by unfold sK;split<;>omega) (by omega) (by omega) h1.lt h1 ((Row.new w #[I (sK b)] 3).2 0));clear hst h1 h2;cases b with
 |false=>
  rw [show sK false=0 from rfl] at HC HG2 ⊢;go_enter Tryz.func157,Tryz.ntmps157;go_wp2_with fail;refine HC.out.mono ?_;rintro e w1 ⟨rfl,v1,hs1,hk1⟩;have mr:=ae hs1;have jX:=ae (HG2.out.trans hk1);clear hs1 hk1 HC HG2;go_wp2_with fail
  go_end0
  exact ⟨rfl,v1,mr.out,jX.out⟩
 |true=>
  rw [show sK true=1 from rfl] at HC HG2 ⊢;go_enter Tryz.func157,Tryz.ntmps157;go_wp2_with fail;refine HC.out.mono ?_;rintro e w1 ⟨rfl,v1,hs1,hk1⟩;have mr:=ae hs1;have jX:=ae (HG2.out.trans hk1);clear hs1 hk1 HC HG2;go_wp2_with fail
  go_end0
  exact ⟨rfl,v1,mr.out,jX.out⟩
theorem Qk (w:World) (g xb xo:Nat) (v:Value) (bs:List UInt8) (x:Lr) (hr:w.rangeAt xb xo x.cells) (hxg:xb<g) (hf:yh x) (hl:bs.length≤900000000) (hst:gQ w g v bs):
  Calls Tryz.prog 88 #[.iface 73 (pt g), .pointer (some ⟨xb,xo,none⟩)] w (iQ w g v (bs++jr x)):=by
 have hgl:=hst.lt;have HST:=ae hst;have HF:=ae hf;have c0:w.cell? ⟨xb,xo,none⟩=some (I x.every):=hr 0 _ rfl;have c1:w.cell? ⟨xb,xo+1,none⟩=some (I x.rest):=hr 1 _ rfl;have c2:w.cell? ⟨xb,xo+2,none⟩=some (.bool x.yes):=hr 2 _ rfl;have HB0:Hid (Below g w w):=ae (Below.refl _ _);have xk:=ae hst;have xh:Hid (iE g v w v w):=ae (iE.refl _ _ _);clear hr hf hst;have hc0:w.drew.cell? ⟨xb,xo,none⟩=some (I x.every):=(HB0.out.cell (p:=⟨xb,xo,none⟩) hxg).trans c0;have hlen0:(bs).length≤900000100:=by
  try simp only [bH,aC]
  omega
 have GZ:=ae (dC w.drew g ⟨xb,xo,none⟩ v (bs) x.every 2 (by have:=HF.out;unfold yh kX at this;omega) (by have:=HF.out;unfold yh kX at this;omega) (by omega) (by omega) xk.out.drew.lt xk.out.drew hc0);clear hc0;go_enter Tryz.func88,Tryz.ntmps88;go_wp2_with fail;go_still_tail 7,(by kernel_rfl);go_wp2_with fail;refine GZ.out.mono ?_;rintro e w1 ⟨rfl,v1,hs1,hk1⟩;have HB1:=ae (HB0.out.trans (di xk.out (aT hk1)));have mr:=ae hs1;have jX:=ae (xh.out.trans (aT hk1));clear hs1 hk1 GZ HB0 xk xh hlen0;have hc1:w1.drew.cell? ⟨xb,xo+1,none⟩=some (I x.rest):=(HB1.out.cell (p:=⟨xb,xo+1,none⟩) hxg).trans c1;have hlen1:(bs++le (x.every) 2).length≤900000100:=by
  try simp only [bH,aC]
  omega
 have mZ:=ae (dC w1.drew g ⟨xb,xo+1,none⟩ v1 (bs++le (x.every) 2) x.rest 2 (by have:=HF.out;unfold yh kX at this;omega) (by have:=HF.out;unfold yh kX at this;omega) (by omega) (by omega) mr.out.drew.lt mr.out.drew hc1);clear hc1;go_wp2_with fail;go_still_tail 7,(by kernel_rfl);go_wp2_with fail;refine mZ.out.mono ?_;rintro e w2 ⟨rfl,v2,hs2,hk2⟩;have HB2:=ae (HB1.out.trans (di mr.out (aT hk2)));have HS2:=ae hs2;have jI:=ae (jX.out.trans (aT hk2));clear hs2 hk2 mZ HB1 mr jX hlen1;have hc2:w2.drew.cell? ⟨xb,xo+2,none⟩=some (.bool x.yes):=(HB2.out.cell (p:=⟨xb,xo+2,none⟩) hxg).trans c2;have hlen2:(bs++le (x.every) 2++le (x.rest) 2).length≤900000100:=by
  try simp only [bH,aC]
  omega
 have HC2:=ae (P7 w2.drew g ⟨xb,xo+2,none⟩ v2 (bs++le (x.every) 2++le (x.rest) 2) x.yes (by omega) HS2.out.drew hc2);clear hc2;go_wp2_with fail;go_still_tail 7,(by kernel_rfl);go_wp2_with fail;refine HC2.out.mono ?_;rintro e w3 ⟨rfl,v3,hs3,hk3⟩;have HB3:=ae (HB2.out.trans (di HS2.out (aT hk3)));have qx:=ae hs3;have nG:=ae (jI.out.trans (aT hk3));clear hs3 hk3 HC2 HB2 HS2 jI hlen2;go_wp2_with fail
 go_end0
 exact ⟨rfl,v3,by unfold jr;have h:=qx.out;simpa [List.append_assoc] using h,nG.out⟩
theorem MQ (w:World) (g xb xo:Nat) (v:Value) (bs:List UInt8) (x:Tr) (hr:w.rangeAt xb xo x.cells) (hxg:xb<g) (hf:yB x) (hl:bs.length≤900000000) (hst:gQ w g v bs):
  Calls Tryz.prog 70 #[.iface 73 (pt g), .pointer (some ⟨xb,xo,none⟩)] w (iQ w g v (bs++iI x)):=by
 have hgl:=hst.lt;have HST:=ae hst;have HF:=ae hf;have c0:w.cell? ⟨xb,xo,none⟩=some (I x.at_):=hr 0 _ rfl;have c1:w.cell? ⟨xb,xo+1,none⟩=some (I x.off):=hr 1 _ rfl;have HB0:Hid (Below g w w):=ae (Below.refl _ _);have xk:=ae hst;have xh:Hid (iE g v w v w):=ae (iE.refl _ _ _);clear hr hf hst;have hc0:w.drew.cell? ⟨xb,xo,none⟩=some (I x.at_):=(HB0.out.cell (p:=⟨xb,xo,none⟩) hxg).trans c0;have hlen0:(bs).length≤900000100:=by
  try simp only [bH,aC]
  omega
 have GZ:=ae (dC w.drew g ⟨xb,xo,none⟩ v (bs) x.at_ 8 (by have:=HF.out;unfold yB kX at this;omega) (by have:=HF.out;unfold yB kX at this;omega) (by omega) (by omega) xk.out.drew.lt xk.out.drew hc0);clear hc0;go_enter Tryz.func70,Tryz.ntmps70;go_wp2_with fail;go_still_tail 7,(by kernel_rfl);go_wp2_with fail;refine GZ.out.mono ?_;rintro e w1 ⟨rfl,v1,hs1,hk1⟩;have HB1:=ae (HB0.out.trans (di xk.out (aT hk1)));have mr:=ae hs1;have jX:=ae (xh.out.trans (aT hk1));clear hs1 hk1 GZ HB0 xk xh hlen0;have hc1:w1.drew.cell? ⟨xb,xo+1,none⟩=some (I x.off):=(HB1.out.cell (p:=⟨xb,xo+1,none⟩) hxg).trans c1;have hlen1:(bs++le (x.at_) 8).length≤900000100:=by
  try simp only [bH,aC]
  omega
 have mZ:=ae (tC w1.drew g ⟨xb,xo+1,none⟩ v1 (bs++le (x.at_) 8) x.off (by have:=HF.out;unfold yB kX at this;omega) (by have:=HF.out;unfold yB kX at this;omega) (by omega) mr.out.drew hc1);clear hc1;go_wp2_with fail;go_still_tail 7,(by kernel_rfl);go_wp2_with fail;refine mZ.out.mono ?_;rintro e w2 ⟨rfl,v2,hs2,hk2⟩;have HB2:=ae (HB1.out.trans (di mr.out (aT hk2)));have HS2:=ae hs2;have jI:=ae (jX.out.trans (aT hk2));clear hs2 hk2 mZ HB1 mr jX hlen1;go_wp2_with fail
 go_end0
 exact ⟨rfl,v2,by unfold iI;have h:=HS2.out;simpa [List.append_assoc] using h,jI.out⟩
theorem Ql (w:World) (g xb xo:Nat) (v:Value) (bs:List UInt8) (x:Yr) (hr:w.rangeAt xb xo x.cells) (hxg:xb<g) (hf:oW x) (hl:bs.length≤900000000) (hst:gQ w g v bs):
  Calls Tryz.prog 72 #[.iface 73 (pt g), .pointer (some ⟨xb,xo,none⟩)] w (iQ w g v (bs++jv x)):=by
 have hgl:=hst.lt;have HST:=ae hst;have HF:=ae hf;have c0:w.cell? ⟨xb,xo,none⟩=some (I x.month):=hr 0 _ rfl;have c1:w.cell? ⟨xb,xo+1,none⟩=some (I x.cZ):=hr 1 _ rfl;have c2:w.cell? ⟨xb,xo+2,none⟩=some (I x.dh):=hr 2 _ rfl;have c3:w.cell? ⟨xb,xo+3,none⟩=some (I x.minute):=hr 3 _ rfl;have c4:w.cell? ⟨xb,xo+4,none⟩=some (I x.off):=hr 4 _ rfl;have HB0:Hid (Below g w w):=ae (Below.refl _ _);have xk:=ae hst;have xh:Hid (iE g v w v w):=ae (iE.refl _ _ _);clear hr hf hst;have hc0:w.drew.cell? ⟨xb,xo,none⟩=some (I x.month):=(HB0.out.cell (p:=⟨xb,xo,none⟩) hxg).trans c0;have hlen0:(bs).length≤900000100:=by
  try simp only [bH,aC]
  omega
 have GZ:=ae (dC w.drew g ⟨xb,xo,none⟩ v (bs) x.month 1 (by have:=HF.out;unfold oW kX at this;omega) (by have:=HF.out;unfold oW kX at this;omega) (by omega) (by omega) xk.out.drew.lt xk.out.drew hc0);clear hc0;go_enter Tryz.func72,Tryz.ntmps72;go_wp2_with fail;go_still_tail 7,(by kernel_rfl);go_wp2_with fail;refine GZ.out.mono ?_;rintro e w1 ⟨rfl,v1,hs1,hk1⟩;have HB1:=ae (HB0.out.trans (di xk.out (aT hk1)));have mr:=ae hs1;have jX:=ae (xh.out.trans (aT hk1));clear hs1 hk1 GZ HB0 xk xh hlen0;have hc1:w1.drew.cell? ⟨xb,xo+1,none⟩=some (I x.cZ):=(HB1.out.cell (p:=⟨xb,xo+1,none⟩) hxg).trans c1;have hlen1:(bs++le (x.month) 1).length≤900000100:=by
  try simp only [bH,aC]
  omega
 have mZ:=ae (dC w1.drew g ⟨xb,xo+1,none⟩ v1 (bs++le (x.month) 1) x.cZ 1 (by have:=HF.out;unfold oW kX at this;omega) (by have:=HF.out;unfold oW kX at this;omega) (by omega) (by omega) mr.out.drew.lt mr.out.drew hc1);clear hc1;go_wp2_with fail;go_still_tail 7,(by kernel_rfl);go_wp2_with fail;refine mZ.out.mono ?_;rintro e w2 ⟨rfl,v2,hs2,hk2⟩;have HB2:=ae (HB1.out.trans (di mr.out (aT hk2)));have HS2:=ae hs2;have jI:=ae (jX.out.trans (aT hk2));clear hs2 hk2 mZ HB1 mr jX hlen1;have hc2:w2.drew.cell? ⟨xb,xo+2,none⟩=some (I x.dh):=(HB2.out.cell (p:=⟨xb,xo+2,none⟩) hxg).trans c2;have hlen2:(bs++le (x.month) 1++le (x.cZ) 1).length≤900000100:=by
  try simp only [bH,aC]
  omega
 have HC2:=ae (dC w2.drew g ⟨xb,xo+2,none⟩ v2 (bs++le (x.month) 1++le (x.cZ) 1) x.dh 1 (by have:=HF.out;unfold oW kX at this;omega) (by have:=HF.out;unfold oW kX at this;omega) (by omega) (by omega) HS2.out.drew.lt HS2.out.drew hc2);clear hc2;go_wp2_with fail;go_still_tail 7,(by kernel_rfl);go_wp2_with fail;refine HC2.out.mono ?_;rintro e w3 ⟨rfl,v3,hs3,hk3⟩;have HB3:=ae (HB2.out.trans (di HS2.out (aT hk3)));have qx:=ae hs3;have nG:=ae (jI.out.trans (aT hk3));clear hs3 hk3 HC2 HB2 HS2 jI hlen2;have hc3:w3.drew.cell? ⟨xb,xo+3,none⟩=some (I x.minute):=(HB3.out.cell (p:=⟨xb,xo+3,none⟩) hxg).trans c3;have hlen3:(bs++le (x.month) 1++le (x.cZ) 1++le (x.dh) 1).length≤900000100:=by
  try simp only [bH,aC]
  omega
 have yO:=ae (dC w3.drew g ⟨xb,xo+3,none⟩ v3 (bs++le (x.month) 1++le (x.cZ) 1++le (x.dh) 1) x.minute 2 (by have:=HF.out;unfold oW kX at this;omega) (by have:=HF.out;unfold oW kX at this;omega) (by omega) (by omega) qx.out.drew.lt qx.out.drew hc3);clear hc3;go_wp2_with fail;go_still_tail 7,(by kernel_rfl);go_wp2_with fail;refine yO.out.mono ?_;rintro e w4 ⟨rfl,v4,hs4,hk4⟩;have HB4:=ae (HB3.out.trans (di qx.out (aT hk4)));have CP:=ae hs4;have Vl:=ae (nG.out.trans (aT hk4));clear hs4 hk4 yO HB3 qx nG hlen3;have hc4:w4.drew.cell? ⟨xb,xo+4,none⟩=some (I x.off):=(HB4.out.cell (p:=⟨xb,xo+4,none⟩) hxg).trans c4;have hlen4:(bs++le (x.month) 1++le (x.cZ) 1++le (x.dh) 1++le (x.minute) 2).length≤900000100:=by
  try simp only [bH,aC]
  omega
 have zl:=ae (tC w4.drew g ⟨xb,xo+4,none⟩ v4 (bs++le (x.month) 1++le (x.cZ) 1++le (x.dh) 1++le (x.minute) 2) x.off (by have:=HF.out;unfold oW kX at this;omega) (by have:=HF.out;unfold oW kX at this;omega) (by omega) CP.out.drew hc4);clear hc4;go_wp2_with fail;go_still_tail 7,(by kernel_rfl);go_wp2_with fail;refine zl.out.mono ?_;rintro e w5 ⟨rfl,v5,hs5,hk5⟩;have rV:=ae (HB4.out.trans (di CP.out (aT hk5)));have Gv:=ae hs5;have Ce:=ae (Vl.out.trans (aT hk5));clear hs5 hk5 zl HB4 CP Vl hlen4;go_wp2_with fail
 go_end0
 exact ⟨rfl,v5,by unfold jv;have h:=Gv.out;simpa [List.append_assoc] using h,Ce.out⟩
def Gh (w:World) (g:Nat) (v:Value) (bs:List UInt8) (n:Nat) (xs:List Lr) (i:Value) (wr:World):Prop:=
 ∃k:Nat,k≤n∧i= .int .i64 k∧∃v',gQ wr g v' (bs++(le n 1++(xs.take k).flatMap jr))∧iE g v w v' wr
theorem Dx (w:World) (g lb lo:Nat) (A:Option Addr) (n c:Nat) (xs:List Lr) (v:Value) (bs:List UInt8) (hn:xs.length=n) (hn2:n≤100000) (hp:w.cell? ⟨lb,lo,none⟩=some (.slice A n c)) (SL:lb<g) (hA:az w g A (xs.flatMap Lr.cells)) (hfit:∀z∈xs,yh z)
  (hl:bs.length≤100000000) (hst:gQ w g v bs):
  Calls Tryz.prog 87 #[.iface 73 (pt g), .pointer (some ⟨lb,lo,none⟩),I 1, .func (.func 88) #[] #[]] w (iQ w g v (bs++(le n 1++xs.flatMap jr))):=by
 have HC:=ae (jG w.drew g v bs n 1 (by omega) (by omega) (by omega) (by omega) hst.drew);have HST:=ae hst;have HN:=ae hn;have HF:=ae hfit;have HA:=ae hA;have HP:=ae hp;have hgl:=hst.lt;clear hst hn hfit hA;go_enter Tryz.func87,Tryz.ntmps87;go_wp2_with fail;go_still_tail 9,(by kernel_rfl);go_wp2_with fail;refine HC.out.mono ?_;rintro e w1 ⟨rfl,v1,hs1,hk1⟩;have mr:=ae hs1;have jX:=ae (aT hk1);clear hs1 hk1 HC hp;go_wp2_with fail
 go_loopw [22] (fun i wr=>Gh w g v bs n xs i wr) (fun i _=>n - (intOf i).toNat)
 case atStart=>exact ⟨0,Nat.zero_le _,rfl,v1,by simpa using mr.out,jX.out⟩
 case round=>
  obtain ⟨k,hk,rfl,v2,hs2,hk2⟩:=hrel;have hb2:=di HST.out hk2;have HB2:=ae hb2;have HS2:=ae hs2;have jI:=ae hk2;have hp2:wr.cell? ⟨lb,lo,none⟩=some (.slice A n c):=(hb2.cell (p:=⟨lb,lo,none⟩) SL).trans HP.out;clear hs2 hk2 hb2 mr jX;by_cases hlt:k<n
  ·have hkz:k<xs.length:=by rw [HN.out];exact hlt
   obtain ⟨b,off,rfl,hbg,hc0⟩:=HA.out.there (by rw [cu (s:=3) Lr.cells _ fun _ _=>rfl];omega);obtain ⟨x,hx⟩:∃x,xs[k]? =some x:=⟨_,bZ hkz⟩;have hcz:wr.rangeAt b (off+k*3) x.cells:=aU (az.elem (s:=3) (f:=Lr.cells) (fun _ _=>rfl) hc0 k x hx) HB2.out hbg;have hlen:(bs++(le (n:Int) 1++(xs.take k).flatMap jr)).length≤900000000:=by
    rw [bH,bH,aC,uZ jr 5 yg,List.length_take];omega
   have HM:=ae (Qk wr g b (off+k*3) v2 _ x hcz hbg (HF.out x (gU hx)) hlen HS2.out);have HX:=ae hx;have i0:(0:Int)≤(k:Int):=by omega
   have i1:(k:Int)<(n:Int):=by omega
   have i2:((k:Int)==(n:Int))=false:=by simp;omega
   clear hkz hc0 hx hlen hcz;go_wp2_with fail;refine HM.out.mono ?_;rintro e w3 ⟨rfl,v3,hs3,hk3⟩;have qx:=ae hs3;have nG:=ae (jI.out.trans hk3);clear hs3 hk3 hp2;go_wp2_with fail;go_roundw
   case rel=>exact ⟨k+1,by omega,by go_num,v3,by rw [jR xs k x HX.out,List.flatMap_append,List.flatMap_cons,List.flatMap_nil,List.append_nil,←List.append_assoc (le _ _),←List.append_assoc];exact qx.out,nG.out⟩
   case measure=>simp [intOf];omega
  ·have hkn:k=n:=by omega
   have nH:=ae hkn;clear hkn;go_wp2_with fail
   go_end0
   exact ⟨rfl,v2,by have h:=HS2.out;rwa [nH.out,List.take_of_length_le (by rw [HN.out];exact Nat.le_refl _)] at h,jI.out⟩
def Dy (w:World) (g:Nat) (v:Value) (bs:List UInt8) (n:Nat) (xs:List Tr) (i:Value) (wr:World):Prop:=
 ∃k:Nat,k≤n∧i= .int .i64 k∧∃v',gQ wr g v' (bs++(le n 2++(xs.take k).flatMap iI))∧iE g v w v' wr
theorem BO (w:World) (g lb lo:Nat) (A:Option Addr) (n c:Nat) (xs:List Tr) (v:Value) (bs:List UInt8) (hn:xs.length=n) (hn2:n≤100000) (hp:w.cell? ⟨lb,lo,none⟩=some (.slice A n c)) (SL:lb<g) (hA:az w g A (xs.flatMap Tr.cells)) (hfit:∀z∈xs,yB z)
  (hl:bs.length≤100000000) (hst:gQ w g v bs):
  Calls Tryz.prog 69 #[.iface 73 (pt g), .pointer (some ⟨lb,lo,none⟩),I 2, .func (.func 70) #[] #[]] w (iQ w g v (bs++(le n 2++xs.flatMap iI))):=by
 have HC:=ae (jG w.drew g v bs n 2 (by omega) (by omega) (by omega) (by omega) hst.drew);have HST:=ae hst;have HN:=ae hn;have HF:=ae hfit;have HA:=ae hA;have HP:=ae hp;have hgl:=hst.lt;clear hst hn hfit hA;go_enter Tryz.func69,Tryz.ntmps69;go_wp2_with fail;go_still_tail 9,(by kernel_rfl);go_wp2_with fail;refine HC.out.mono ?_;rintro e w1 ⟨rfl,v1,hs1,hk1⟩;have mr:=ae hs1;have jX:=ae (aT hk1);clear hs1 hk1 HC hp;go_wp2_with fail
 go_loopw [22] (fun i wr=>Dy w g v bs n xs i wr) (fun i _=>n - (intOf i).toNat)
 case atStart=>exact ⟨0,Nat.zero_le _,rfl,v1,by simpa using mr.out,jX.out⟩
 case round=>
  obtain ⟨k,hk,rfl,v2,hs2,hk2⟩:=hrel;have hb2:=di HST.out hk2;have HB2:=ae hb2;have HS2:=ae hs2;have jI:=ae hk2;have hp2:wr.cell? ⟨lb,lo,none⟩=some (.slice A n c):=(hb2.cell (p:=⟨lb,lo,none⟩) SL).trans HP.out;clear hs2 hk2 hb2 mr jX;by_cases hlt:k<n
  ·have hkz:k<xs.length:=by rw [HN.out];exact hlt
   obtain ⟨b,off,rfl,hbg,hc0⟩:=HA.out.there (by rw [cu (s:=2) Tr.cells _ fun _ _=>rfl];omega);obtain ⟨x,hx⟩:∃x,xs[k]? =some x:=⟨_,bZ hkz⟩;have hcz:wr.rangeAt b (off+k*2) x.cells:=aU (az.elem (s:=2) (f:=Tr.cells) (fun _ _=>rfl) hc0 k x hx) HB2.out hbg;have hlen:(bs++(le (n:Int) 2++(xs.take k).flatMap iI)).length≤900000000:=by
    rw [bH,bH,aC,uZ iI 10 tH,List.length_take];omega
   have HM:=ae (MQ wr g b (off+k*2) v2 _ x hcz hbg (HF.out x (gU hx)) hlen HS2.out);have HX:=ae hx;have i0:(0:Int)≤(k:Int):=by omega
   have i1:(k:Int)<(n:Int):=by omega
   have i2:((k:Int)==(n:Int))=false:=by simp;omega
   clear hkz hc0 hx hlen hcz;go_wp2_with fail;refine HM.out.mono ?_;rintro e w3 ⟨rfl,v3,hs3,hk3⟩;have qx:=ae hs3;have nG:=ae (jI.out.trans hk3);clear hs3 hk3 hp2;go_wp2_with fail;go_roundw
   case rel=>exact ⟨k+1,by omega,by go_num,v3,by rw [jR xs k x HX.out,List.flatMap_append,List.flatMap_cons,List.flatMap_nil,List.append_nil,←List.append_assoc (le _ _),←List.append_assoc];exact qx.out,nG.out⟩
   case measure=>simp [intOf];omega
  ·have hkn:k=n:=by omega
   have nH:=ae hkn;clear hkn;go_wp2_with fail
   go_end0
   exact ⟨rfl,v2,by have h:=HS2.out;rwa [nH.out,List.take_of_length_le (by rw [HN.out];exact Nat.le_refl _)] at h,jI.out⟩
def Gi (w:World) (g:Nat) (v:Value) (bs:List UInt8) (n:Nat) (xs:List Yr) (i:Value) (wr:World):Prop:=
 ∃k:Nat,k≤n∧i= .int .i64 k∧∃v',gQ wr g v' (bs++(le n 1++(xs.take k).flatMap jv))∧iE g v w v' wr
theorem Dz (w:World) (g lb lo:Nat) (A:Option Addr) (n c:Nat) (xs:List Yr) (v:Value) (bs:List UInt8) (hn:xs.length=n) (hn2:n≤100000) (hp:w.cell? ⟨lb,lo,none⟩=some (.slice A n c)) (SL:lb<g) (hA:az w g A (xs.flatMap Yr.cells)) (hfit:∀z∈xs,oW z)
  (hl:bs.length≤100000000) (hst:gQ w g v bs):
  Calls Tryz.prog 71 #[.iface 73 (pt g), .pointer (some ⟨lb,lo,none⟩),I 1, .func (.func 72) #[] #[]] w (iQ w g v (bs++(le n 1++xs.flatMap jv))):=by
 have HC:=ae (jG w.drew g v bs n 1 (by omega) (by omega) (by omega) (by omega) hst.drew);have HST:=ae hst;have HN:=ae hn;have HF:=ae hfit;have HA:=ae hA;have HP:=ae hp;have hgl:=hst.lt;clear hst hn hfit hA;go_enter Tryz.func71,Tryz.ntmps71;go_wp2_with fail;go_still_tail 9,(by kernel_rfl);go_wp2_with fail;refine HC.out.mono ?_;rintro e w1 ⟨rfl,v1,hs1,hk1⟩;have mr:=ae hs1;have jX:=ae (aT hk1);clear hs1 hk1 HC hp;go_wp2_with fail
 go_loopw [22] (fun i wr=>Gi w g v bs n xs i wr) (fun i _=>n - (intOf i).toNat)
 case atStart=>exact ⟨0,Nat.zero_le _,rfl,v1,by simpa using mr.out,jX.out⟩
 case round=>
  obtain ⟨k,hk,rfl,v2,hs2,hk2⟩:=hrel;have hb2:=di HST.out hk2;have HB2:=ae hb2;have HS2:=ae hs2;have jI:=ae hk2;have hp2:wr.cell? ⟨lb,lo,none⟩=some (.slice A n c):=(hb2.cell (p:=⟨lb,lo,none⟩) SL).trans HP.out;clear hs2 hk2 hb2 mr jX;by_cases hlt:k<n
  ·have hkz:k<xs.length:=by rw [HN.out];exact hlt
   obtain ⟨b,off,rfl,hbg,hc0⟩:=HA.out.there (by rw [cu (s:=5) Yr.cells _ fun _ _=>rfl];omega);obtain ⟨x,hx⟩:∃x,xs[k]? =some x:=⟨_,bZ hkz⟩;have hcz:wr.rangeAt b (off+k*5) x.cells:=aU (az.elem (s:=5) (f:=Yr.cells) (fun _ _=>rfl) hc0 k x hx) HB2.out hbg;have hlen:(bs++(le (n:Int) 1++(xs.take k).flatMap jv)).length≤900000000:=by
    rw [bH,bH,aC,uZ jv 7 yK,List.length_take];omega
   have HM:=ae (Ql wr g b (off+k*5) v2 _ x hcz hbg (HF.out x (gU hx)) hlen HS2.out);have HX:=ae hx;have i0:(0:Int)≤(k:Int):=by omega
   have i1:(k:Int)<(n:Int):=by omega
   have i2:((k:Int)==(n:Int))=false:=by simp;omega
   clear hkz hc0 hx hlen hcz;go_wp2_with fail;refine HM.out.mono ?_;rintro e w3 ⟨rfl,v3,hs3,hk3⟩;have qx:=ae hs3;have nG:=ae (jI.out.trans hk3);clear hs3 hk3 hp2;go_wp2_with fail;go_roundw
   case rel=>exact ⟨k+1,by omega,by go_num,v3,by rw [jR xs k x HX.out,List.flatMap_append,List.flatMap_cons,List.flatMap_nil,List.append_nil,←List.append_assoc (le _ _),←List.append_assoc];exact qx.out,nG.out⟩
   case measure=>simp [intOf];omega
  ·have hkn:k=n:=by omega
   have nH:=ae hkn;clear hkn;go_wp2_with fail
   go_end0
   exact ⟨rfl,v2,by have h:=HS2.out;rwa [nH.out,List.take_of_length_le (by rw [HN.out];exact Nat.le_refl _)] at h,jI.out⟩
end Go.Proofs.YtbaehbbonkljpaaGreat
namespace Go.Proofs.YtbaehbbonkljpaaGreat
open Go Go.RowKit
attribute [local go_sem] dI dM dJ dN fJ fK dG dK dH dL jc jd
def iJ (cs:Array Value) (o:Nat):List Value→Array Value
 | []=>cs
 |v::vs=>iJ (cs.setIfInBounds o v) (o+1) vs
def TItR (M:Nat) (w:World) (rb pb po:Nat) (t:TypeId) (cs:Array Value) (vs:List Value) (R:List UInt8) (e:Ending) (w':World):Prop:=
 e= .returned (.tuple #[])∧jH M w' rb R∧bI w rb pb t (iJ cs po vs) w'
def Xv (x:Lr):Prop:=(0≤x.every∧x.every<65536)∧(0≤x.rest∧x.rest<65536)
def trSm (x:Tr):Prop:=(0≤x.at_∧x.at_<1000000000)∧(-32768≤x.off∧x.off≤32767)
def UY (x:Yr):Prop:=(0≤x.month∧x.month<256)∧(0≤x.cZ∧x.cZ<256)∧(0≤x.dh∧x.dh<256)∧(0≤x.minute∧x.minute<65536)∧(-32768≤x.off∧x.off≤32767)
theorem xI (x:Int) (h0:0≤x) (h1:x<65536) (R:List UInt8):Cj (le x 2++R) false 2=x:=by
 rw [Ue];omega
def TSetR (M:Nat) (w:World) (rb pb po:Nat) (t:TypeId) (cs:Array Value) (v:Value) (R:List UInt8) (e:Ending) (w':World):Prop:=
 e= .returned (.tuple #[])∧jH M w' rb R∧bI w rb pb t (cs.setIfInBounds po v) w'
end Go.Proofs.YtbaehbbonkljpaaGreat
namespace Go.Proofs.YtbaehbbonkljpaaGreat
open Go Go.RowKit
structure TV (w:World) (cs:Array Value) (A:Option Addr) (zs:List dB) (W:World):Prop where
 row:Row W w.heap.size cs
 mem:xW W w.heap.size A zs
 up:Below w.heap.size w W
theorem TV.below {w W W':World} {cs:Array Value} {A:Option Addr} {zs:List dB} (h:TV w cs A zs W) (hb:Below W.heap.size W W'):TV w cs A zs W':=
 ⟨h.row.keep hb,h.mem.keep (hb.mono h.up.size),ai h.up hb⟩
def jD (zs:List dB):Nat→ByteArray
 |0=>⟨#[]⟩
 |k+1=>(zs[k]?.map (·.e.name)).getD ⟨#[]⟩
def Nu (zs:List dB):Prop:=∀k x,zs[k]? =some x→Op.bytesLess x.e.name.toList (jD zs k).toList=false∧(x.e.name.toList==(jD zs k).toList)=false
attribute [local go_sem] iY iZ ja bC
end Go.Proofs.YtbaehbbonkljpaaGreat
namespace Go.Proofs.YtbaehbbonkljpaaGreat
open Go Go.RowKit
attribute [local go_sem] kL kQ kM kR nZ og kJ kN kK kP
theorem Gj (w:World) (g lb lo:Nat) (A:Option Addr) (c:Nat) (v:Value) (bs:List UInt8) (hp:w.cell? ⟨lb,lo,none⟩=some (.slice A 0 c)) (hl:bs.length≤100000000) (hst:gQ w g v bs):
  Calls Tryz.prog 47 #[.iface 73 (pt g), .pointer (some ⟨lb,lo,none⟩),I 1, .func (.func 48) #[] #[]] w (iQ w g v (bs++le 0 1)):=by
 have HC:=ae (jG w.drew g v bs 0 1 (by omega) (by omega) (by omega) (by omega) hst.drew);clear hst;go_enter Tryz.func47,Tryz.ntmps47;go_wp2_with fail;go_still_tail 9,(by kernel_rfl);go_wp2_with fail;refine HC.out.mono ?_;rintro e w1 ⟨rfl,v1,hs1,hk1⟩;have mr:=ae hs1;have jX:=ae (aT hk1);clear hs1 hk1 HC hp;go_wp2_with fail
 go_loop [22] (fun i=>i= .int .i64 0) (fun _=>0)
 case atStart=>rfl
 case round=>
  subst hrel;go_wp2_with fail
  go_end0
  exact ⟨rfl,v1,mr.out,jX.out⟩
structure zZ (g:Nat) (w:World) (A:Option Addr) (zs:List dB):Prop where
 row:zs.length=0∨∃zg,A=some ⟨zg,0,none⟩∧zg<g∧(∀j u,(aV zs)[j]? =some u→w.cell? ⟨zg,j,none⟩=some u)∧∀j,w.frozen? ⟨zg,j,none⟩=false
 aj:∀x∈zs,jU w g x.s.A x.e.z.cal.aj
theorem zZ.keep {g:Nat} {w w':World} {A:Option Addr} {zs:List dB} (h:zZ g w A zs) (hb:Below g w w'):zZ g w' A zs:=
 ⟨h.row.elim .inl fun ⟨zg,h1,h2,h3,h4⟩=> .inr ⟨zg,h1,h2,fun j u hu=>(hb.cell (p:=⟨zg,j,none⟩) h2).trans (h3 j u hu),fun j=>(hb.frozen (p:=⟨zg,j,none⟩) h2).trans (h4 j)⟩,fun x hx=>(h.aj x hx).keep hb⟩
theorem zZ.more {g g':Nat} {w:World} {A:Option Addr} {zs:List dB} (h:zZ g w A zs) (hg:g≤g'):zZ g' w A zs:=
 ⟨h.row.elim .inl fun ⟨zg,h1,h2,h3⟩=> .inr ⟨zg,h1,by omega,h3⟩,fun x hx=>(h.aj x hx).more hg⟩
theorem ku.low {lo n c:Nat} {w:World} {A:Option Addr} {zs:List dB} (h:ku lo w (.slice A n c) zs):zZ w.heap.size w A zs:=by
 refine ⟨?_,fun x hx=>(h.aj x hx).ints⟩;rcases h.form with ⟨h1,_⟩|⟨_,g,c',h2,_,h4⟩
 ·exact .inl (by rw [h1];rfl)
 ·injection h2 with e1 e2 e3;subst e1 e2;exact .inr ⟨g,rfl,h4,fun j u hu=>oq h.row j u hu,Bg h.row⟩
attribute [local go_sem] iY iZ ja bC
end Go.Proofs.YtbaehbbonkljpaaGreat
namespace Go.Proofs.YtbaehbbonkljpaaGreat
open Go Go.RowKit
attribute [local go_sem] dI dM dJ dN fJ fK dG dK dH dL
def bz:Tb:=⟨0,0,0,bU,bU,[]⟩
theorem uz:Tryz.zeroCells39=ah bz (.slice none 0 0):=by kernel_rfl
theorem FT (t:Tb) (v:Value) (n:Int):(ah t v).setIfInBounds 0 (I n)=ah {t with bV:=n} v:=by simp [ah,iW]
theorem Dq (t:Tb) (v:Value) (n:Int):(ah t v).setIfInBounds 1 (I n)=ah {t with version:=n} v:=by simp [ah,iW]
theorem y7 (t:Tb) (v:Value) (n:Int):(ah t v).setIfInBounds 2 (I n)=ah {t with aO:=n} v:=by simp [ah,iW]
theorem MG (t:Tb) (v:Value) (xs:List UInt8) (h:t.prev.length=32) (hx:xs.length=32):putRow (ah t v) 4 (ay xs)=ah {t with prev:=xs} v:=by
 unfold putRow splice ah iW;have h1:(ay xs).length=32:=by simp [ay,hx]
 have h2:(ay t.prev).length=32:=by simp [ay,h]
 rw [h1];simp [h2]
end Go.Proofs.YtbaehbbonkljpaaGreat
namespace Go.Proofs.YtbaehbbonkljpaaGreat
open Go Go.RowKit
def Rn (w:World) (bs:List UInt8) (e:Ending) (w':World):Prop:=
 (∃g c,e= .returned (.tuple #[.slice (some ⟨g,0,none⟩) bs.length c,I 0])∧w'.ownsRow w.heap.size 5 1 (.slice (some ⟨g,0,none⟩) bs.length c) bs.length (bs.map Extern.Stop.cell))∧Below w.heap.size w w'
end Go.Proofs.YtbaehbbonkljpaaGreat
