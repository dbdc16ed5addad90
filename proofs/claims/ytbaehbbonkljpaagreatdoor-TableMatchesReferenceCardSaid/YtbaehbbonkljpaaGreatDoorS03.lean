/- The texts Pb, Qd, Pk, Ka, Back, Pe, Qb, in this order. -/
import Derived.Test.YtbaehbbonkljpaaGreatDoorS00
import Derived.Laws.Cover3
import Derived.MapKept
import Derived.Test.YtbaehbbonkljpaaGreatDoorS01
import Derived.Test.YtbaehbbonkljpaaGreatDoorS02
set_option maxRecDepth 10000
set_option maxHeartbeats 8000000
namespace Go.Proofs.YtbaehbbonkljpaaGreatDoor
open Go Go.RowKit
def Tr.cells (t:Tr):List Value:= [I t.at_,I t.off]
def Yr.cells (y:Yr):List Value:= [I y.month,I y.cZ,I y.dh,I y.minute,I y.off]
structure iP (w:World) (B:Nat) (s:Zs) (z:Zn):Prop where
 au:aA w B s.A (z.cal.au.map I)
 rules:aA w B s.B (z.cal.rules.flatMap Lr.cells)
 trans:aA w B s.C (z.trans.flatMap Tr.cells)
 aH:aA w B s.D (z.aH.flatMap Yr.cells)
structure kz (w:World) (B:Nat) (A:Option Addr) (zs:List dw):Prop where
 row:aA w B A (aU zs)
 each:∀x∈zs,iP w B x.s x.e.z
structure dF where
 t:Tb
 A:Option Addr
 c:Nat
 zs:List dw
def dF.cells (x:dF):List Value:=jy x.t (.slice x.A x.zs.length x.c)
structure fV (w:World) (B:Nat) (x:dF):Prop where
 names:x.t.aF=x.zs.map (·.e)
 prev:x.t.prev.length=32
 bP:x.t.bP.length=32
 aF:kz w B x.A x.zs
structure jq (w:World) (B:Nat) (A:Option Addr) (ts:List dF):Prop where
 row:aA w B A (ts.flatMap dF.cells)
 each:∀x∈ts,fV w B x
section
variable {w w':World} {B B':Nat} {A:Option Addr} {s:Zs} {z:Zn} {zs:List dw} {x:dF} {ts:List dF}
theorem iP.keep (h:iP w B s z) (hb:Below B w w'):iP w' B s z:=⟨h.au.keep hb,h.rules.keep hb,h.trans.keep hb,h.aH.keep hb⟩
theorem iP.more (h:iP w B s z) (hB:B<=B'):iP w B' s z:=⟨h.au.more hB,h.rules.more hB,h.trans.more hB,h.aH.more hB⟩
theorem iP.grow (h:iP w w.heap.size s z) (hb:Below w.heap.size w w'):iP w' w'.heap.size s z:=(h.keep hb).more hb.size
theorem kz.keep (h:kz w B A zs) (hb:Below B w w'):kz w' B A zs:=⟨h.row.keep hb,fun x hx=>(h.each x hx).keep hb⟩
theorem kz.more (h:kz w B A zs) (hB:B<=B'):kz w B' A zs:=⟨h.row.more hB,fun x hx=>(h.each x hx).more hB⟩
theorem kz.grow (h:kz w w.heap.size A zs) (hb:Below w.heap.size w w'):kz w' w'.heap.size A zs:=(h.keep hb).more hb.size
theorem kz.nil:kz w B A []:=⟨.nil,fun _ hx=>nomatch hx⟩
theorem fV.keep (h:fV w B x) (hb:Below B w w'):fV w' B x:=⟨h.names,h.prev,h.bP,h.aF.keep hb⟩
theorem fV.more (h:fV w B x) (hB:B<=B'):fV w B' x:=⟨h.names,h.prev,h.bP,h.aF.more hB⟩
theorem fV.grow (h:fV w w.heap.size x) (hb:Below w.heap.size w w'):fV w' w'.heap.size x:=(h.keep hb).more hb.size
theorem fV.size (h:fV w B x):x.cells.length=68:=by
 have:=bf x.t (.slice x.A x.zs.length x.c) h.prev h.bP;simpa [ai,dF.cells] using this
theorem jq.keep (h:jq w B A ts) (hb:Below B w w'):jq w' B A ts:=⟨h.row.keep hb,fun x hx=>(h.each x hx).keep hb⟩
theorem jq.more (h:jq w B A ts) (hB:B<=B'):jq w B' A ts:=⟨h.row.more hB,fun x hx=>(h.each x hx).more hB⟩
theorem jq.grow (h:jq w w.heap.size A ts) (hb:Below w.heap.size w w'):jq w' w'.heap.size A ts:=(h.keep hb).more hb.size
theorem jq.nil:jq w B A []:=⟨.nil,fun _ hx=>nomatch hx⟩
end
theorem wS (t:Tr):∀u∈t.cells,u.oneCell'=true:=by
 intro u hu;simp [Tr.cells] at hu;rcases hu with rfl|rfl<;>rfl
theorem wY (y:Yr):∀u∈y.cells,u.oneCell'=true:=by
 intro u hu;simp [Yr.cells] at hu;rcases hu with rfl|rfl|rfl|rfl|rfl<;>rfl
theorem Yb (r:Lr):∀u∈r.cells,u.oneCell'=true:=by
 intro u hu;simp [Lr.cells] at hu;rcases hu with rfl|rfl|rfl<;>rfl
def ClA (w:World) (e size n:Nat) (cs:List Value) (en:Ending) (w':World):Prop:=
 ∃A c,en= .returned (.slice A n c)/\w'.ownsRow w.heap.size e size (.slice A n c) n cs/\Below w.heap.size w w'
theorem fD {w:World} {base e size n:Nat} {v:Value} {xs:List Value} (h:w.ownsRow base e size v n xs):∃A c,v= .slice A n c:=by
 rcases h.2 with ⟨rfl,rfl⟩|⟨g,cap,cur,rfl,_⟩
 ·exact ⟨_,_,rfl⟩
 ·exact ⟨_,_,rfl⟩
theorem mX {w:World} {a:Addr} {cs:List Value} {o:Obj} (h:aA w w.heap.size (some a) cs):∀j u,cs[j]? =some u->(w.alloc o).cell? (a.add j)=some u:=by
 intro j u hu;rcases h with h|⟨b,off,h1,h2,h3⟩
 ·rw [List.eq_nil_of_length_eq_zero h] at hu;cases hu
 ·injection h1 with h1;subst h1;rw [Addr.add_mid,World.cell?_of_block (Below.heap_alloc w _ b h2)];exact h3 j u hu
theorem Jg:(Tryz.prog.info? 118).map (fun i=>(i.zero,i.size,i.bytes))=some (some (.agg #[I 0,I 0, .bool false]),3,24):=by kernel_rfl
theorem xy:(Tryz.prog.info? 108).map (fun i=>(i.zero,i.size,i.bytes))=some (some (.agg #[I 0,I 0]),2,16):=by kernel_rfl
theorem Gu:(Tryz.prog.info? 110).map (fun i=>(i.zero,i.size,i.bytes))=some (some (.agg #[I 0,I 0,I 0,I 0,I 0]),5,40):=by kernel_rfl
theorem XA (c:Nat) (w:World):Calls Tryz.prog 67 #[.slice none 0 c] w fun e w'=>e= .returned (.slice none 0 0)/\w'=w:=by
 have heq:∀W,(binOp .eql 62 (.slice none 0 c) (.slice none 0 0)).run Tryz.prog W= .ok (.bool true) W:=fun W=>by simp [binOp,run_equal_slice_nil W 62 3 none 0 c Tryz.underlying62]
 go_enter Tryz.func67,Tryz.ntmps67
 go_wp2
 go_ret;exact ⟨rfl,rfl⟩
theorem Xz (A:Option Addr) (c n:Nat) (cs:List Value) (w:World) (hA:aA w w.heap.size A cs) (hl:cs.length=n*1) (h1:∀u∈cs,u.oneCell'=true) (hn:n<=10000):
  Calls Tryz.prog 67 #[.slice A n c] w (ClA w 3 1 n cs):=by
 cases A with
 |none=>
  have hc:cs= []:=by
   rcases hA with h|⟨b,off,h,_⟩
   ·exact List.eq_nil_of_length_eq_zero h
   ·cases h
  subst hc;have hn0:n=0:=by simp at hl;omega
  subst hn0;exact (XA c w).mono fun e w' ⟨he,hw⟩=>⟨none,0,he,World.ownsRow_nil _ _ _ _,by rw [hw];exact Below.refl _ _⟩
 |some a=>
  have Sj:=ae (mX (o:= .cells #[] 3) hA);have HO:=ae (iZ w 3 1);have HL:=ae hl;have H1:=ae h1;have HB:=ae (ag w (.cells #[] 3));obtain ⟨i0,hi,hz0,hz1,hz2⟩:=info_parts xx;have HI:=ae hi;have HZ0:=ae hz0;have HZ1:=ae hz1;have HZ2:=ae hz2;have heq:∀W,(binOp .eql 62 (.slice (some a) n c) (.slice none 0 0)).run Tryz.prog W= .ok (.bool false) W:=fun W=>by simp [binOp,run_equal_slice_nil W 62 3 (some a) n c Tryz.underlying62]
  clear hA hl h1 hi hz0 hz1 hz2;go_enter Tryz.func67,Tryz.ntmps67;go_wp2_with (at_builtin;refine wpList_append_own_at _ rfl _ _ 62 rfl w.heap.size 3 i0 (.int .i64 0) 1 8 Tryz.underlying62 HI.out HZ0.out HZ1.out HZ2.out rfl (by decide) _ 0 [] rfl HO.out a n c cs rfl HL.out Sj.out H1.out (by unfold maxLen;omega) (by omega) (by simp) ?_);intro v' w' hown hg _ _;have HB2:=ae (di HB.out HO.out (by simp) hg);obtain ⟨A',c',rfl⟩:=fD hown;have HOW:=ae hown;clear hown hg;go_wp2_with fail;go_ret;exact ⟨A',c',by first|rfl|(rw [Nat.zero_add]),by have h:=HOW.out;simpa using h,HB2.out⟩
theorem XC (c:Nat) (w:World):Calls Tryz.prog 68 #[.slice none 0 c] w fun e w'=>e= .returned (.slice none 0 0)/\w'=w:=by
 have heq:∀W,(binOp .eql 63 (.slice none 0 c) (.slice none 0 0)).run Tryz.prog W= .ok (.bool true) W:=fun W=>by simp [binOp,run_equal_slice_nil W 63 118 none 0 c Tryz.underlying63]
 go_enter Tryz.func68,Tryz.ntmps68
 go_wp2
 go_ret;exact ⟨rfl,rfl⟩
theorem XB (A:Option Addr) (c n:Nat) (cs:List Value) (w:World) (hA:aA w w.heap.size A cs) (hl:cs.length=n*3) (h1:∀u∈cs,u.oneCell'=true) (hn:n<=10000):
  Calls Tryz.prog 68 #[.slice A n c] w (ClA w 118 3 n cs):=by
 cases A with
 |none=>
  have hc:cs= []:=by
   rcases hA with h|⟨b,off,h,_⟩
   ·exact List.eq_nil_of_length_eq_zero h
   ·cases h
  subst hc;have hn0:n=0:=by simp at hl;omega
  subst hn0;exact (XC c w).mono fun e w' ⟨he,hw⟩=>⟨none,0,he,World.ownsRow_nil _ _ _ _,by rw [hw];exact Below.refl _ _⟩
 |some a=>
  have Sj:=ae (mX (o:= .cells #[] 118) hA);have HO:=ae (iZ w 118 3);have HL:=ae hl;have H1:=ae h1;have HB:=ae (ag w (.cells #[] 118));obtain ⟨i0,hi,hz0,hz1,hz2⟩:=info_parts Jg;have HI:=ae hi;have HZ0:=ae hz0;have HZ1:=ae hz1;have HZ2:=ae hz2;have heq:∀W,(binOp .eql 63 (.slice (some a) n c) (.slice none 0 0)).run Tryz.prog W= .ok (.bool false) W:=fun W=>by simp [binOp,run_equal_slice_nil W 63 118 (some a) n c Tryz.underlying63]
  clear hA hl h1 hi hz0 hz1 hz2;go_enter Tryz.func68,Tryz.ntmps68;go_wp2_with (at_builtin;refine wpList_append_own_at _ rfl _ _ 63 rfl w.heap.size 118 i0 (.agg #[I 0,I 0, .bool false]) 3 24 Tryz.underlying63 HI.out HZ0.out HZ1.out HZ2.out rfl (by decide) _ 0 [] rfl HO.out a n c cs rfl HL.out Sj.out H1.out (by unfold maxLen;omega) (by omega) (by simp) ?_);intro v' w' hown hg _ _;have HB2:=ae (di HB.out HO.out (by simp) hg);obtain ⟨A',c',rfl⟩:=fD hown;have HOW:=ae hown;clear hown hg;go_wp2_with fail;go_ret;exact ⟨A',c',by first|rfl|(rw [Nat.zero_add]),by have h:=HOW.out;simpa using h,HB2.out⟩
theorem XE (c:Nat) (w:World):Calls Tryz.prog 69 #[.slice none 0 c] w fun e w'=>e= .returned (.slice none 0 0)/\w'=w:=by
 have heq:∀W,(binOp .eql 66 (.slice none 0 c) (.slice none 0 0)).run Tryz.prog W= .ok (.bool true) W:=fun W=>by simp [binOp,run_equal_slice_nil W 66 108 none 0 c Tryz.underlying66]
 go_enter Tryz.func69,Tryz.ntmps69
 go_wp2
 go_ret;exact ⟨rfl,rfl⟩
theorem XD (A:Option Addr) (c n:Nat) (cs:List Value) (w:World) (hA:aA w w.heap.size A cs) (hl:cs.length=n*2) (h1:∀u∈cs,u.oneCell'=true) (hn:n<=10000):
  Calls Tryz.prog 69 #[.slice A n c] w (ClA w 108 2 n cs):=by
 cases A with
 |none=>
  have hc:cs= []:=by
   rcases hA with h|⟨b,off,h,_⟩
   ·exact List.eq_nil_of_length_eq_zero h
   ·cases h
  subst hc;have hn0:n=0:=by simp at hl;omega
  subst hn0;exact (XE c w).mono fun e w' ⟨he,hw⟩=>⟨none,0,he,World.ownsRow_nil _ _ _ _,by rw [hw];exact Below.refl _ _⟩
 |some a=>
  have Sj:=ae (mX (o:= .cells #[] 108) hA);have HO:=ae (iZ w 108 2);have HL:=ae hl;have H1:=ae h1;have HB:=ae (ag w (.cells #[] 108));obtain ⟨i0,hi,hz0,hz1,hz2⟩:=info_parts xy;have HI:=ae hi;have HZ0:=ae hz0;have HZ1:=ae hz1;have HZ2:=ae hz2;have heq:∀W,(binOp .eql 66 (.slice (some a) n c) (.slice none 0 0)).run Tryz.prog W= .ok (.bool false) W:=fun W=>by simp [binOp,run_equal_slice_nil W 66 108 (some a) n c Tryz.underlying66]
  clear hA hl h1 hi hz0 hz1 hz2;go_enter Tryz.func69,Tryz.ntmps69;go_wp2_with (at_builtin;refine wpList_append_own_at _ rfl _ _ 66 rfl w.heap.size 108 i0 (.agg #[I 0,I 0]) 2 16 Tryz.underlying66 HI.out HZ0.out HZ1.out HZ2.out rfl (by decide) _ 0 [] rfl HO.out a n c cs rfl HL.out Sj.out H1.out (by unfold maxLen;omega) (by omega) (by simp) ?_);intro v' w' hown hg _ _;have HB2:=ae (di HB.out HO.out (by simp) hg);obtain ⟨A',c',rfl⟩:=fD hown;have HOW:=ae hown;clear hown hg;go_wp2_with fail;go_ret;exact ⟨A',c',by first|rfl|(rw [Nat.zero_add]),by have h:=HOW.out;simpa using h,HB2.out⟩
theorem XG (c:Nat) (w:World):Calls Tryz.prog 70 #[.slice none 0 c] w fun e w'=>e= .returned (.slice none 0 0)/\w'=w:=by
 have heq:∀W,(binOp .eql 67 (.slice none 0 c) (.slice none 0 0)).run Tryz.prog W= .ok (.bool true) W:=fun W=>by simp [binOp,run_equal_slice_nil W 67 110 none 0 c Tryz.underlying67]
 go_enter Tryz.func70,Tryz.ntmps70
 go_wp2
 go_ret;exact ⟨rfl,rfl⟩
theorem XF (A:Option Addr) (c n:Nat) (cs:List Value) (w:World) (hA:aA w w.heap.size A cs) (hl:cs.length=n*5) (h1:∀u∈cs,u.oneCell'=true) (hn:n<=10000):
  Calls Tryz.prog 70 #[.slice A n c] w (ClA w 110 5 n cs):=by
 cases A with
 |none=>
  have hc:cs= []:=by
   rcases hA with h|⟨b,off,h,_⟩
   ·exact List.eq_nil_of_length_eq_zero h
   ·cases h
  subst hc;have hn0:n=0:=by simp at hl;omega
  subst hn0;exact (XG c w).mono fun e w' ⟨he,hw⟩=>⟨none,0,he,World.ownsRow_nil _ _ _ _,by rw [hw];exact Below.refl _ _⟩
 |some a=>
  have Sj:=ae (mX (o:= .cells #[] 110) hA);have HO:=ae (iZ w 110 5);have HL:=ae hl;have H1:=ae h1;have HB:=ae (ag w (.cells #[] 110));obtain ⟨i0,hi,hz0,hz1,hz2⟩:=info_parts Gu;have HI:=ae hi;have HZ0:=ae hz0;have HZ1:=ae hz1;have HZ2:=ae hz2;have heq:∀W,(binOp .eql 67 (.slice (some a) n c) (.slice none 0 0)).run Tryz.prog W= .ok (.bool false) W:=fun W=>by simp [binOp,run_equal_slice_nil W 67 110 (some a) n c Tryz.underlying67]
  clear hA hl h1 hi hz0 hz1 hz2;go_enter Tryz.func70,Tryz.ntmps70;go_wp2_with (at_builtin;refine wpList_append_own_at _ rfl _ _ 67 rfl w.heap.size 110 i0 (.agg #[I 0,I 0,I 0,I 0,I 0]) 5 40 Tryz.underlying67 HI.out HZ0.out HZ1.out HZ2.out rfl (by decide) _ 0 [] rfl HO.out a n c cs rfl HL.out Sj.out H1.out (by unfold maxLen;omega) (by omega) (by simp) ?_);intro v' w' hown hg _ _;have HB2:=ae (di HB.out HO.out (by simp) hg);obtain ⟨A',c',rfl⟩:=fD hown;have HOW:=ae hown;clear hown hg;go_wp2_with fail;go_ret;exact ⟨A',c',by first|rfl|(rw [Nat.zero_add]),by have h:=HOW.out;simpa using h,HB2.out⟩
theorem XH (c:Nat) (w:World):Calls Tryz.prog 59 #[.slice none 0 c] w fun e w'=>e= .returned (.slice none 0 0)/\w'=w:=by
 have heq:∀W,(binOp .eql 22 (.slice none 0 c) (.slice none 0 0)).run Tryz.prog W= .ok (.bool true) W:=fun W=>by simp [binOp,run_equal_slice_nil W 22 76 none 0 c Tryz.underlying22]
 go_enter Tryz.func59,Tryz.ntmps59
 go_wp2
 go_ret;exact ⟨rfl,rfl⟩
theorem Oq (A:Option Addr) (c n:Nat) (cs:List Value) (w:World) (hA:aA w w.heap.size A cs) (hl:cs.length=n*9) (h1:∀u∈cs,u.oneCell'=true) (hn:n<=10000):
  Calls Tryz.prog 59 #[.slice A n c] w (ClA w 76 9 n cs):=by
 cases A with
 |none=>
  have hc:cs= []:=by
   rcases hA with h|⟨b,off,h,_⟩
   ·exact List.eq_nil_of_length_eq_zero h
   ·cases h
  subst hc;have hn0:n=0:=by simp at hl;omega
  subst hn0;exact (XH c w).mono fun e w' ⟨he,hw⟩=>⟨none,0,he,World.ownsRow_nil _ _ _ _,by rw [hw];exact Below.refl _ _⟩
 |some a=>
  have Sj:=ae (mX (o:= .cells #[] 76) hA);have HO:=ae (iZ w 76 9);have HL:=ae hl;have H1:=ae h1;have HB:=ae (ag w (.cells #[] 76));obtain ⟨i0,hi,hz0,hz1,hz2⟩:=info_parts Gv;have HI:=ae hi;have HZ0:=ae hz0;have HZ1:=ae hz1;have HZ2:=ae hz2;have heq:∀W,(binOp .eql 22 (.slice (some a) n c) (.slice none 0 0)).run Tryz.prog W= .ok (.bool false) W:=fun W=>by simp [binOp,run_equal_slice_nil W 22 76 (some a) n c Tryz.underlying22]
  clear hA hl h1 hi hz0 hz1 hz2;go_enter Tryz.func59,Tryz.ntmps59;go_wp2_with (at_builtin;refine wpList_append_own_at _ rfl _ _ 22 rfl w.heap.size 76 i0 (.agg qg) 9 144 Tryz.underlying22 HI.out HZ0.out HZ1.out HZ2.out rfl (by decide) _ 0 [] rfl HO.out a n c cs rfl HL.out Sj.out H1.out (by unfold maxLen;omega) (by omega) (by simp) ?_);intro v' w' hown hg _ _;have HB2:=ae (di HB.out HO.out (by simp) hg);obtain ⟨A',c',rfl⟩:=fD hown;have HOW:=ae hown;clear hown hg;go_wp2_with fail;go_ret;exact ⟨A',c',by first|rfl|(rw [Nat.zero_add]),by have h:=HOW.out;simpa using h,HB2.out⟩
section
variable {P:Program} {ops:Array Oper} {rest:List Oper} {o:Oper} {a:Act} {w:World} {Q:Exit->Act->World->Prop}
theorem fQ {ob:Obj} (hgd:o.guard=none) (ty:TypeId) (x y:Operand) (ho:o.op= .store ty x y) (cells:Array Value) (hx:a.eval x= .pointer (some ⟨w.heap.size,0,none⟩)) (hy:a.eval y= .agg cells) (t:TypeId) (old:Array Value) (hob:ob= .cells old t (0,0)) (hi:(P.info? ty).map (·.size)=some cells.size) (hold:old.size=cells.size) (h1:cells.all (·.oneCell')=true)
  (h:∀W,Below w.heap.size w W->w.heap.size<W.heap.size->Row W w.heap.size cells->wpList P ops Q rest (a.put o.dst undef) W):wpList P ops Q (o::rest) a (w.alloc ob):=by
 subst hob;refine wpList_store_row hgd ty x y ho w.heap.size cells hx hy t old (heap_alloc_last w _) hi hold h1 (h _ (below_setRow (ag w _) (Nat.le_refl _) _) (by simp [World.setRow]) (Row.jH (setRow_heap _ _ _ _ _ _ (heap_alloc_last w _))))
end
structure KN (c:Cal):Prop where
 ep:0<=c.bn/\c.bn<=100
 mo:c.au.length=2
 all:∀x∈c.au,6<=x/\x<=8
 le: -1<=c.dA/\c.dA<2
 ru:c.rules.length<=1
 nl:c.dA= -1->c.rules.length=0
 rl:∀r∈c.rules,r.every=2/\0<=r.rest/\r.rest<2
structure qj (w:World) (B:Nat) (A:Option Addr) (R:Option Addr) (c:Cal):Prop where
 au:aA w B A (c.au.map I)
 rules:aA w B R (c.rules.flatMap Lr.cells)
theorem qj.grow {w w':World} {A R:Option Addr} {c:Cal} (h:qj w w.heap.size A R c) (hb:Below w.heap.size w w'):qj w' w'.heap.size A R c:=⟨h.au.grow hb,h.rules.grow hb⟩
theorem qj.month {w W:World} {A R:Option Addr} {c:Cal} (h:qj w w.heap.size A R c) (hc:KN c) (hb:Below w.heap.size w W) (k:Nat) (hk:k<2):∃x b off,c.au[k]? =some x/\A=some ⟨b,off,none⟩/\W.cell? ⟨b,off+k,none⟩=some (I x)/\6<=x/\x<=8:=by
 have hl:k<c.au.length:=by rw [hc.mo];exact hk
 obtain ⟨b,off,e,hb1,hcl⟩:=h.au.there (by rw [List.length_map,hc.mo];omega);have hx:=bK hl;refine ⟨_,b,off,hx,e,?_,hc.all _ (List.getElem_mem hl)⟩;rw [hb.cell (p:=⟨b,off+k,none⟩) hb1];exact hcl k _ (by rw [List.getElem?_map,hx];rfl)
structure jD (w:World) (cs:Array Value) (W:World):Prop where
 row:Row W w.heap.size cs
 up:Below w.heap.size w W
theorem jD.grow {w W W':World} {cs:Array Value} (h:jD w cs W) (hb:Below W.heap.size W W'):jD w cs W':=⟨h.row.keep hb,ah h.up hb⟩
theorem jD.start (w:World) (cs:Array Value) (t:TypeId):jD w cs (w.alloc (.cells cs t)):=⟨Row.new w cs t,ag w _⟩
theorem KN.form {c:Cal} (hc:KN c):∃ep m0 m1 lp rs,c=⟨ep,[m0,m1],lp,rs⟩/\(0<=ep/\ep<=100)/\(6<=m0/\m0<=8)/\(6<=m1/\m1<=8)/\(-1<=lp/\lp<2)/\(rs= []\/∃q y,rs= [⟨2,q,y⟩]/\0<=q/\q<2/\lp≠ -1):=by
 obtain ⟨ep,mo,lp,rs⟩:=c;obtain ⟨h1,h2,h3,h4,h5,h6,h7⟩:=hc;simp only at h1 h2 h3 h4 h5 h6 h7
 match mo,h2 with
 | [m0,m1],_=>
  refine ⟨ep,m0,m1,lp,rs,rfl,h1,h3 m0 (by simp),h3 m1 (by simp),h4,?_⟩
  match rs,h5 with
  | [],_=>exact .inl rfl
  | [⟨e,q,y⟩],_=>
   obtain ⟨z1,z2,z3⟩:=h7 ⟨e,q,y⟩ (by simp);simp only at z1 z2 z3;subst z1;exact .inr ⟨q,y,rfl,z2,z3,fun e=>by have:=h6 e;simp at this⟩
theorem TA (a b:Int) (h:0<=a):a.tmod b=a%b:=Int.tmod_eq_emod_of_nonneg h
theorem Uw (a b:Int) (w:World) (hb:0<b) (hb2:b<=1000000000) (ha:0<=a):
  Calls Tryz.prog 132 #[I a,I b] w fun e w'=>e= .returned (I (a%b))/\w'=w:=by
 have he:=TA a b ha;have h0:=Int.emod_nonneg a (show b≠0 by omega);have h1:=Int.emod_lt_of_pos a hb;obtain ⟨q,hq⟩:∃q,a%b=q:=⟨_,rfl⟩;rw [hq] at he h0 h1 ⊢;have hb0:b≠0:=by omega
 have hb1:b≠ -1:=by omega
 have h2:¬q<0:=by omega
 clear hq;go_enter Tryz.func132,Tryz.ntmps132
 go_wp2
 go_ret;exact ⟨rfl,rfl⟩
def leapF (c:Cal) (y:Int):Bool:=match c.rules with| []=>false|r::_=>(y%2==r.rest)&&r.yes
def XI (c:Cal):Int:=(c.au[0]?.getD 0)+(c.au[1]?.getD 0)
def Ux (c:Cal) (y m:Int):Int:=(c.au[(m - 1).toNat]?.getD 0)+(if m - 1=c.dA/\leapF c y=true then 1 else 0)
def Ph (c:Cal) (y:Int):Int:=XI c+(if leapF c y=true then 1 else 0)
def cycD (c:Cal):Int:=match c.rules with| []=>Ph c 1|_::_=>Ph c 1+Ph c 2
end Go.Proofs.YtbaehbbonkljpaaGreatDoor
namespace Go.Proofs.YtbaehbbonkljpaaGreatDoor
open Go Go.RowKit Go.Shelf
attribute [local go_sem] Oper.semAt_some
def upto {α:Type} (f:Nat->α) (k:Nat):List α:=(List.range k).map f
theorem upto_succ {α:Type} (f:Nat->α) (k:Nat):upto f (k+1)=upto f k++ [f k]:=by simp [upto,List.range_succ]
theorem upto_length {α:Type} (f:Nat->α) (k:Nat):(upto f k).length=k:=by simp [upto]
def bk (bs:List UInt8) (k:Nat):Nat×UInt8:=(bs.length - 1 - k,bs[bs.length - 1 - k]?.getD 0)
structure BK (n₀ Bs:Nat) (A B:World):Prop where
 lo:Below n₀ A B
 box:B.cell? ⟨Bs,0,none⟩=A.cell? ⟨Bs,0,none⟩
theorem BK.refl (n₀ Bs:Nat) (A:World):BK n₀ Bs A A:=⟨Below.refl _ _,rfl⟩
theorem BK.trans {n₀ Bs:Nat} {A B C:World} (h:BK n₀ Bs A B) (k:BK n₀ Bs B C):BK n₀ Bs A C:=⟨h.lo.trans k.lo,k.box.trans h.box⟩
theorem bk_b {n₀ Bs:Nat} {w:World} (hn:n₀<=w.heap.size) (hB:Bs<w.heap.size) (W:World) (l:Nat) (o o':Obj) (hl:w.heap.size<=l) (h:W.heap[l]? =some o) (hc:o.isCells=false) (hk:o.isWalk=false):BK n₀ Bs W (W.putObj l o'):=
 ⟨belowK_b hn W l o o' hl h hc hk,(belowK_b (n₀:=Bs+1) hB W l o o' hl h hc hk).cell (p:=⟨Bs,0,none⟩) (Nat.lt_succ_self _)⟩
theorem SY (F:Fence) (n:Nat) (h7:F.fn 188) (hro:F.round=none) (hn:1<=n) (l Bs n₀ b off cap:Nat) (bs:List UInt8) (hreach:bs.length<=140737488351232) (hb:b<n₀) (J Jx:List (Nat×UInt8)->World->Prop)
  (hY:∀pre x W,J pre W->pre.length<bs.length->YieldAt F (n - 1) Tryz.prog l #[.int .i64 (x.1:Int),Extern.Stop.cell x.2] W fun e W'=>
   (e= .returned (.bool true)/\J (pre++ [x]) W'/\BK n₀ Bs W W')\/(e= .returned (.bool false)/\Jx (pre++ [x]) W'))
  (W:World) (hBs:W.cell? ⟨Bs,0,none⟩=some (.slice (some ⟨b,off,none⟩) bs.length cap)) (hc:∀j,j<bs.length->W.cell? ⟨b,off+j,none⟩=some (Extern.Stop.cell (bs[j]?.getD 0))) (h0:J [] W):
  CallsIn F n Tryz.prog 188 #[.func (.yield l) #[] #[], .pointer (some ⟨Bs,0,none⟩)] W fun e W'=>(∃v,e= .returned v)/\
   ((∃ys,ys=upto (bk bs) bs.length/\J ys W')\/(∃pre,(∃k,k<=bs.length/\pre=upto (bk bs) k)/\Jx pre W')):=by
 refine callsIn_of_wp Tryz.func188 rfl h7 ?_ hro;simp only [Tryz.ntmps188,List.size_toArray,List.length_cons,List.length_nil,Nat.reduceAdd,Nat.reduceSub,Array.replicate_succ,Array.replicate_zero,List.push_toArray,List.append_toArray,List.nil_append,List.cons_append]
 gi_wp2
 gi_loopw [3] (fun i wr=>∃k:Nat,k<=bs.length/\i= .int .i64 ((bs.length:Int) - 1 - k)/\J (upto (bk bs) k) wr/\BK n₀ Bs W wr)
  (fun i _=>((intOf i)+1).toNat)
 case atStart=>exact ⟨0,Nat.zero_le _,by go_num,h0,BK.refl _ _ _⟩
 case round=>
  obtain ⟨k,hk,rfl,hJs,hnx⟩:=hrel;by_cases hlt:k<bs.length
  ·obtain ⟨m,hm⟩:∃m:Nat,m=bs.length - 1 - k:=⟨_,rfl⟩;have TZ:(bs.length:Int) - 1 - k=(m:Int):=by omega
   have hml:m<bs.length:=by omega
   have hx:bk bs k=(m,bs[m]?.getD 0):=by unfold bk;rw [<-hm]
   obtain ⟨x,hxx⟩:∃x,bs[m]?.getD 0=x:=⟨_,rfl⟩;rw [hxx] at hx;have hcx:wr.cell? ⟨b,off+m,none⟩=some (Extern.Stop.cell x):=by rw [<-hxx];exact (hnx.lo.cell (p:=⟨b,off+m,none⟩) hb).trans (hc m hml)
   have hbx:wr.cell? ⟨Bs,0,none⟩=some (.slice (some ⟨b,off,none⟩) bs.length cap):=hnx.box.trans hBs;obtain ⟨fn,tmps,assign,body,hy,hR⟩:=hY _ (m,x) wr hJs (by rw [upto_length];exact hlt);dsimp only at hy;rw [TZ];have HM:=ae hm;have Si:=ae TZ;have HX:=ae hx;clear hm TZ hx hxx
   gi_wp2
   refine hR.mono ?_;rintro e W3 (⟨rfl,hJ3,hk3⟩|⟨rfl,hJx3⟩)
   ·gi_wp2
    go_roundw
    case rel=>exact ⟨k+1,by omega,by have:=Si.out;congr 1;omega,by rw [upto_succ,HX.out];exact hJ3,hnx.trans hk3⟩
    case measure=>simp [intOf]
   ·gi_wp2
    refine bodyPost_ret (results_none rfl _ _ _) rfl ?_;exact ⟨⟨_,rfl⟩, .inr ⟨_,⟨k+1,by omega,by rw [upto_succ,HX.out]⟩,hJx3⟩⟩
  ·have hke:k=bs.length:=by omega
   have Hw:=ae hke;clear hke
   gi_wp2
   go_end0
   exact ⟨⟨_,rfl⟩, .inl ⟨_,by rw [Hw.out],hJs⟩⟩
theorem F6 (F:Fence) (n:Nat) (h7:F.fn 188) (hro:F.round=none) (l Bs:Nat) (A:Option Addr) (c:Nat) (J:List (Nat×UInt8)->World->Prop) (W:World) (hBs:W.cell? ⟨Bs,0,none⟩=some (.slice A 0 c)) (h0:J [] W):
  CallsIn F n Tryz.prog 188 #[.func (.yield l) #[] #[], .pointer (some ⟨Bs,0,none⟩)] W fun e W'=>(∃v,e= .returned v)/\J [] W':=by
 refine callsIn_of_wp Tryz.func188 rfl h7 ?_ hro;simp only [Tryz.ntmps188,List.size_toArray,List.length_cons,List.length_nil,Nat.reduceAdd,Nat.reduceSub,Array.replicate_succ,Array.replicate_zero,List.push_toArray,List.append_toArray,List.nil_append,List.cons_append]
 gi_wp2
 gi_loopw [3] (fun i wr=>i= .int .i64 (-1)/\J [] wr) (fun _ _=>0)
 case atStart=>exact ⟨rfl,h0⟩
 case round=>
  obtain ⟨rfl,hJs⟩:=hrel
  gi_wp2
  go_end0
  exact ⟨⟨_,rfl⟩,hJs⟩
theorem Xw (F:Fence) (n:Nat) (h5:F.fn 187) (hro:F.round=none) (a:Option Addr) (len cap:Nat) (w:World):
  CallsIn F n Tryz.prog 187 #[.slice a len cap] w fun e w'=>e= .returned (.func (.func 188) #[] #[.pointer (some ⟨w.heap.size,0,none⟩)])/\w'=w.alloc (.cells #[.slice a len cap] 55):=by
 refine callsIn_of_wp Tryz.func187 rfl h5 ?_ hro;simp only [Tryz.ntmps187,List.size_toArray,List.length_cons,List.length_nil,Nat.reduceAdd,Nat.reduceSub,Array.replicate_succ,Array.replicate_zero,List.push_toArray,List.append_toArray,List.nil_append,List.cons_append]
 gi_wp2
 go_ret;exact ⟨rfl,rfl⟩
theorem LH (F:Fence) (n:Nat) (h7:F.fn 188) (hro:F.round=none) (hn:1<=n) (Bs n₀:Nat) (A:Option Addr) (cap:Nat) (bs:List UInt8) (hreach:bs.length<=140737488351232) (w:World) (hBs:Bs<w.heap.size) (hn₀:n₀<=w.heap.size)
  (hc:w.cell? ⟨Bs,0,none⟩=some (.slice A bs.length cap)) (hI:BytesAt w n₀ A bs):
  SeqStopsK F n Tryz.prog 188 #[.pointer (some ⟨Bs,0,none⟩)] (fun x:Nat×UInt8=> #[Value.int .i64 (x.1:Int),Extern.Stop.cell x.2]) (BK n₀ Bs) (fun ys=>ys=upto (bk bs) bs.length)
   (fun pre=>∃k,k<=bs.length/\pre=upto (bk bs) k) bs.length w:=fun l J Jx W hW _ _ hY h0=>by
 have hc':=(hW.cell (p:=⟨Bs,0,none⟩) hBs).trans hc;rcases hI.keep (hW.mono hn₀) with h|⟨b,off,rfl,hb,hcs⟩
 ·rw [h] at hc';exact (F6 F n h7 hro l Bs A cap J W hc' h0).mono fun e W' ⟨he,hj⟩=>⟨he, .inl ⟨_,by rw [h];rfl,hj⟩⟩
 ·exact SY F n h7 hro hn l Bs n₀ b off cap bs hreach hb J Jx hY W hc' hcs h0
end Go.Proofs.YtbaehbbonkljpaaGreatDoor
namespace Go.Proofs.YtbaehbbonkljpaaGreatDoor
open Go Go.RowKit Go.Shelf
attribute [local go_sem] Oper.semAt_some
section
variable {F:Fence} {n:Nat} {P:Program} {ops:Array Oper} {Q:Exit->Act->World->Prop} {a:Act} {w:World} {rest:List Oper} {o:Oper}
theorem og (hg:o.guard=none) (ty:TypeId) (x:Operand) (ho:o.op= .load ty x) (b off:Nat) (hx:a.eval x= .pointer (some ⟨b,off,none⟩)) (cs:List Value) (d:TypeDesc) (hc:w.rangeAt b off cs)
  (hu:P.underlying ty=some d) (hd:d.isRow=true) (hi:(P.info? ty).map (·.size)=some cs.length)
  (h:wpListIn F n P ops Q rest (a.put o.dst (.agg cs.toArray)) w):wpListIn F n P ops Q (o::rest) a w:=by
 refine wpListIn_plain hg fun K hK=>?_;unfold Oper.wpIn;refine ⟨?_,?_⟩
 ·intro f hf;simp [Oper.about,ho] at hf
 ·rw [Oper.semAt_plain F _ _ (by rw [ho];intro c hc';cases hc')];unfold execOp;simp only [ho,hx,Instr.loadAt,Instr.sureAddr,Sem.run_bind,Sem.run_pure,Result.andThen_ok,run_loadVar_mid w b off ty cs d hc hu hd hi];exact hK _ _ h
theorem sJ (hg:o.guard=none) (t:TypeId) (ho:o.op= .alloc t) (cells:Array Value) (hz:(P.info? t).map (fun i=>(i.zero,i.size))=some (some (.agg cells),cells.size))
  (h:wpListIn F n P ops Q rest (a.put o.dst (.pointer (some ⟨w.heap.size,0,none⟩))) (w.alloc (.cells cells t))):wpListIn F n P ops Q (o::rest) a w:=by
 refine wpListIn_plain hg fun K hK=>?_;unfold Oper.wpIn;refine ⟨?_,?_⟩
 ·intro f hf;simp [Oper.about,ho] at hf
 ·rw [Oper.semAt_plain F _ _ (by rw [ho];intro c hc';cases hc')];unfold execOp;simp only [ho,Sem.run_bind,iJ w t (.agg cells) _ hz,Result.andThen_ok];exact hK _ _ h
theorem yH (hg:o.guard=none) (ty:TypeId) (x y:Operand) (ho:o.op= .store ty x y) (g:Nat) (cells:Array Value) (hx:a.eval x= .pointer (some ⟨g,0,none⟩)) (hy:a.eval y= .agg cells)
  (t:TypeId) (old:Array Value) (hb:w.heap[g]? =some (.cells old t (0,0))) (hi:(P.info? ty).map (·.size)=some cells.size) (hold:old.size=cells.size) (h1:cells.all (·.oneCell')=true)
  (h:wpListIn F n P ops Q rest (a.put o.dst undef) (w.setRow g cells)):wpListIn F n P ops Q (o::rest) a w:=by
 refine wpListIn_plain hg fun K hK=>?_;unfold Oper.wpIn;refine ⟨?_,?_⟩
 ·intro f hf;simp [Oper.about,ho] at hf
 ·rw [Oper.semAt_plain F _ _ (by rw [ho];intro c hc';cases hc')];unfold execOp;simp only [ho,hx,hy,Instr.storeAt,Instr.sureAddr,Sem.run_bind,Sem.run_pure,Result.andThen_ok,run_storeVar_row w g t ty old cells hb hi hold h1];exact hK _ _ h
variable {d:Option Tmp} {t:TypeId} {pos:String} {af:Array Edge} {g:Option (Nat×Bool)}
theorem Gm (ty:TypeId) {x:Operand} (h:wpListIn F n P ops Q (⟨d, .load ty x,t,pos,af,g⟩::rest) a w):wpListIn F n P ops Q (⟨d, .load ty x,t,pos,af,g⟩::rest) a w:=h
theorem xq (ty:TypeId) {x y:Operand} (h:wpListIn F n P ops Q (⟨d, .store ty x y,t,pos,af,g⟩::rest) a w):wpListIn F n P ops Q (⟨d, .store ty x y,t,pos,af,g⟩::rest) a w:=h
theorem Jc (ty:TypeId) (h:wpListIn F n P ops Q (⟨d, .alloc ty,t,pos,af,g⟩::rest) a w):wpListIn F n P ops Q (⟨d, .alloc ty,t,pos,af,g⟩::rest) a w:=h
end
def El (ts:List dF):Type:= {x:Nat×dF // ts[x.1]? =some x.2}
def elt (ts:List dF) (m:Nat):List (El ts):=if h:m<ts.length then [⟨(m,ts[m]),bK h⟩] else []
def LJ (ts:List dF):Nat->List (El ts)
 |0=> []
 |k+1=>LJ ts k++elt ts (ts.length - 1 - k)
theorem Ti (ts:List dF) (k m:Nat) (x:dF) (hx:ts[m]? =some x) (hm:m=ts.length - 1 - k):LJ ts (k+1)=LJ ts k++ [⟨(m,x),hx⟩]:=by
 subst hm;obtain ⟨h1,h2⟩:=gQ.1 hx;subst h2;show LJ ts k++elt ts (ts.length - 1 - k)=_;unfold elt;rw [dif_pos h1]
theorem LK (ts:List dF) (k:Nat) (hk:k<=ts.length):(LJ ts k).length=k:=by
 induction k with
 |zero=>rfl
 |succ k ih=>
  show (LJ ts k++elt ts (ts.length - 1 - k)).length=k+1;unfold elt;rw [bF,ih (by omega),dif_pos (by omega)];rfl
def uh (w:World) (b off:Nat) (ts:List dF):Prop:=∀j x,ts[j]? =some x->w.rangeAt b (off+j*68) x.cells/\x.cells.length=68
theorem P8 (F:Fence) (n:Nat) (h7:F.fn 82) (hro:F.round=none) (hn:1<=n) (l Bs n₀ b off cap:Nat) (bs:List dF) (hreach:bs.length<=100000) (hb:b<n₀) (J Jx:List (El bs)->World->Prop)
  (hY:∀pre x W,J pre W->pre.length<bs.length->YieldAt F (n - 1) Tryz.prog l #[.int .i64 (x.1.1:Int), .agg x.1.2.cells.toArray] W fun e W'=>
   (e= .returned (.bool true)/\J (pre++ [x]) W'/\BK n₀ Bs W W')\/(e= .returned (.bool false)/\Jx (pre++ [x]) W'))
  (W:World) (hBs:W.cell? ⟨Bs,0,none⟩=some (.slice (some ⟨b,off,none⟩) bs.length cap)) (hc:uh W b off bs) (h0:J [] W):
  CallsIn F n Tryz.prog 82 #[.func (.yield l) #[] #[], .pointer (some ⟨Bs,0,none⟩)] W fun e W'=>(∃v,e= .returned v)/\
   ((∃ys,ys=LJ bs bs.length/\J ys W')\/(∃pre,(∃k,k<=bs.length/\pre=LJ bs k)/\Jx pre W')):=by
 refine callsIn_of_wp Tryz.func82 rfl h7 ?_ hro;simp only [Tryz.ntmps82,List.size_toArray,List.length_cons,List.length_nil,Nat.reduceAdd,Nat.reduceSub,Array.replicate_succ,Array.replicate_zero,List.push_toArray,List.append_toArray,List.nil_append,List.cons_append]
 gi_wp2
 gi_loopw [3] (fun i wr=>∃k:Nat,k<=bs.length/\i= .int .i64 ((bs.length:Int) - 1 - k)/\J (LJ bs k) wr/\BK n₀ Bs W wr)
  (fun i _=>((intOf i)+1).toNat)
 case atStart=>exact ⟨0,Nat.zero_le _,by go_num,h0,BK.refl _ _ _⟩
 case round=>
  obtain ⟨k,hk,rfl,hJs,hnx⟩:=hrel;by_cases hlt:k<bs.length
  ·obtain ⟨m,hm⟩:∃m:Nat,m=bs.length - 1 - k:=⟨_,rfl⟩;have TZ:(bs.length:Int) - 1 - k=(m:Int):=by omega
   have hml:m<bs.length:=by omega
   obtain ⟨x,hxx⟩:∃x,bs[m]? =some x:=⟨_,bK hml⟩;have hcx:wr.rangeAt b (off+m*68) x.cells/\x.cells.length=68:=⟨aS (hc m x hxx).1 hnx.lo hb,(hc m x hxx).2⟩;obtain ⟨hcx,hc68⟩:=hcx;have yf:=ae hcx;have H68:Hid ((Tryz.prog.info? 26).map (·.size)=some x.cells.length):=ae (by rw [hc68];kernel_rfl);have hbx:wr.cell? ⟨Bs,0,none⟩=some (.slice (some ⟨b,off,none⟩) bs.length cap):=hnx.box.trans hBs;obtain ⟨fn,tmps,assign,body,hy,hR⟩:=hY _ ⟨(m,x),hxx⟩ wr hJs (by rw [LK _ _ hk];exact hlt);dsimp only at hy;rw [TZ];have HM:=ae hm;have Si:=ae TZ;have HX:Hid (LJ bs (k+1)=LJ bs k++ [⟨(m,x),hxx⟩]):=ae (Ti bs k m x hxx hm);clear hm TZ hcx hc68
   gi_wp2_with (with_reducible refine Gm 26 ?_;refine og rfl _ _ rfl b (off+m*68) rfl x.cells _ yf.out Tryz.underlying26 rfl H68.out ?_)
   refine hR.mono ?_;rintro e W3 (⟨rfl,hJ3,hk3⟩|⟨rfl,hJx3⟩)
   ·gi_wp2
    go_roundw
    case rel=>exact ⟨k+1,by omega,by have:=Si.out;congr 1;omega,by rw [HX.out];exact hJ3,hnx.trans hk3⟩
    case measure=>simp [intOf]
   ·gi_wp2
    refine bodyPost_ret (results_none rfl _ _ _) rfl ?_;exact ⟨⟨_,rfl⟩, .inr ⟨_,⟨k+1,by omega,by rw [HX.out]⟩,hJx3⟩⟩
  ·have hke:k=bs.length:=by omega
   have Hw:=ae hke;clear hke
   gi_wp2
   go_end0
   exact ⟨⟨_,rfl⟩, .inl ⟨_,by rw [Hw.out],hJs⟩⟩
theorem D6 (F:Fence) (n:Nat) (h7:F.fn 82) (hro:F.round=none) (l Bs:Nat) (A:Option Addr) (c:Nat) {α:Type} (J:List α->World->Prop) (W:World) (hBs:W.cell? ⟨Bs,0,none⟩=some (.slice A 0 c)) (h0:J [] W):
  CallsIn F n Tryz.prog 82 #[.func (.yield l) #[] #[], .pointer (some ⟨Bs,0,none⟩)] W fun e W'=>(∃v,e= .returned v)/\J [] W':=by
 refine callsIn_of_wp Tryz.func82 rfl h7 ?_ hro;simp only [Tryz.ntmps82,List.size_toArray,List.length_cons,List.length_nil,Nat.reduceAdd,Nat.reduceSub,Array.replicate_succ,Array.replicate_zero,List.push_toArray,List.append_toArray,List.nil_append,List.cons_append]
 gi_wp2
 gi_loopw [3] (fun i wr=>i= .int .i64 (-1)/\J [] wr) (fun _ _=>0)
 case atStart=>exact ⟨rfl,h0⟩
 case round=>
  obtain ⟨rfl,hJs⟩:=hrel
  gi_wp2
  go_end0
  exact ⟨⟨_,rfl⟩,hJs⟩
theorem Tc (F:Fence) (n:Nat) (h5:F.fn 63) (hro:F.round=none) (a:Option Addr) (len cap:Nat) (w:World):
  CallsIn F n Tryz.prog 63 #[.slice a len cap] w fun e w'=>e= .returned (.func (.func 82) #[] #[.pointer (some ⟨w.heap.size,0,none⟩)])/\w'=w.alloc (.cells #[.slice a len cap] 32):=by
 refine callsIn_of_wp Tryz.func63 rfl h5 ?_ hro;simp only [Tryz.ntmps63,List.size_toArray,List.length_cons,List.length_nil,Nat.reduceAdd,Nat.reduceSub,Array.replicate_succ,Array.replicate_zero,List.push_toArray,List.append_toArray,List.nil_append,List.cons_append]
 gi_wp2
 go_ret;exact ⟨rfl,rfl⟩
theorem IQ (F:Fence) (n:Nat) (h7:F.fn 82) (hro:F.round=none) (hn:1<=n) (Bs n₀:Nat) (A:Option Addr) (cap:Nat) (bs:List dF) (hreach:bs.length<=100000) (w:World) (hBs:Bs<w.heap.size) (hn₀:n₀<=w.heap.size)
  (hc:w.cell? ⟨Bs,0,none⟩=some (.slice A bs.length cap)) (hI:bs.length=0\/∃b off,A=some ⟨b,off,none⟩/\b<n₀/\uh w b off bs):
  SeqStopsK F n Tryz.prog 82 #[.pointer (some ⟨Bs,0,none⟩)] (fun x:El bs=> #[Value.int .i64 (x.1.1:Int), .agg x.1.2.cells.toArray]) (BK n₀ Bs) (fun ys=>ys=LJ bs bs.length)
   (fun pre=>∃k,k<=bs.length/\pre=LJ bs k) bs.length w:=fun l J Jx W hW _ _ hY h0=>by
 have hc':=(hW.cell (p:=⟨Bs,0,none⟩) hBs).trans hc;rcases hI with h|⟨b,off,rfl,hb,hcs0⟩
 ·rw [h] at hc';exact (D6 F n h7 hro l Bs A cap J W hc' h0).mono fun e W' ⟨he,hj⟩=>⟨he, .inl ⟨_,by rw [h];rfl,hj⟩⟩
 ·exact P8 F n h7 hro hn l Bs n₀ b off cap bs hreach hb J Jx hY W hc' (fun j x hx=>⟨aS (hcs0 j x hx).1 (hW.mono hn₀) hb,(hcs0 j x hx).2⟩) h0
end Go.Proofs.YtbaehbbonkljpaaGreatDoor
namespace Go.Proofs.YtbaehbbonkljpaaGreatDoor
open Go Go.RowKit
def zt (s:Int) (c:UInt8):Int:=bits BinOp.or IntKind.i64 (wrap64 (s*256)) c.toNat
def yO (l:List (Nat×UInt8)):Int:=l.foldl (fun s x=>zt s x.2) 0
theorem QV (pre:List (Nat×UInt8)) (x:Nat×UInt8):yO (pre++ [x])=zt (yO pre) x.2:=by simp [yO]
def tkB (rest:List UInt8) (bad:Bool) (size:Nat):Bool:=bad||decide (rest.length<size)
def tk (rest:List UInt8) (bad:Bool) (size:Nat):List UInt8:=if tkB rest bad size=true then [] else rest.take size
def tkR (rest:List UInt8) (bad:Bool) (size:Nat):List UInt8:=if tkB rest bad size=true then rest else rest.drop size
def O0 (rest:List UInt8) (bad:Bool) (size:Nat):Int:=yO (upto (bk (tk rest bad size)) (tk rest bad size).length)
def Vh (s:Int) (c:UInt8):Int:=bits BinOp.or IntKind.u64 (IntKind.u64.wrap (s*256)) c.toNat
end Go.Proofs.YtbaehbbonkljpaaGreatDoor
