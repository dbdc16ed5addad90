/- The texts Pb, Ob, in this order. -/
import Derived.Test.YtdibbemgpikgjaaGreatDoorY00
import Derived.Test.YtdibbemgpikgjaaGreatDoorY02
import Derived.Test.YtdibbemgpikgjaaGreatDoorY03
set_option maxRecDepth 10000
set_option maxHeartbeats 8000000
namespace Go.Proofs.YtdibbemgpikgjaaGreatDoor
open Go Go.RowKit
def Tr.cells (t:Tr):List Value:= [I t.at_,I t.off]
def Yr.cells (y:Yr):List Value:= [I y.month,I y.df,I y.dh,I y.minute,I y.off]
structure jG (w:World) (B:Nat) (s:Zs) (z:Zn):Prop where
 az:aA w B s.A (z.cal.az.map I)
 rules:aA w B s.B (z.cal.rules.flatMap Lr.cells)
 trans:aA w B s.C (z.trans.flatMap Tr.cells)
 aN:aA w B s.D (z.aN.flatMap Yr.cells)
structure lW (w:World) (B:Nat) (A:Option Addr) (zs:List dB):Prop where
 row:aA w B A (aO zs)
 each:∀x∈zs,jG w B x.s x.e.z
structure bI where
 t:Tb
 A:Option Addr
 c:Nat
 zs:List dB
def bI.cells (x:bI):List Value:=fF x.t (.slice x.A x.zs.length x.c)
structure jE (w:World) (B:Nat) (x:bI):Prop where
 names:x.t.aK=x.zs.map (·.e)
 prev:x.t.prev.length=32
 bn:x.t.bn.length=32
 aK:lW w B x.A x.zs
structure gq (w:World) (B:Nat) (A:Option Addr) (ts:List bI):Prop where
 row:aA w B A (ts.flatMap bI.cells)
 each:∀x∈ts,jE w B x
section
variable {w w':World} {B B':Nat} {A:Option Addr} {s:Zs} {z:Zn} {zs:List dB} {x:bI} {ts:List bI}
theorem jG.keep (h:jG w B s z) (hb:Below B w w'):jG w' B s z:=⟨h.az.keep hb,h.rules.keep hb,h.trans.keep hb,h.aN.keep hb⟩
theorem jG.more (h:jG w B s z) (hB:B≤B'):jG w B' s z:=⟨h.az.more hB,h.rules.more hB,h.trans.more hB,h.aN.more hB⟩
theorem jG.grow (h:jG w w.heap.size s z) (hb:Below w.heap.size w w'):jG w' w'.heap.size s z:=(h.keep hb).more hb.size
theorem lW.keep (h:lW w B A zs) (hb:Below B w w'):lW w' B A zs:=⟨h.row.keep hb,fun x hx=>(h.each x hx).keep hb⟩
theorem lW.more (h:lW w B A zs) (hB:B≤B'):lW w B' A zs:=⟨h.row.more hB,fun x hx=>(h.each x hx).more hB⟩
theorem lW.grow (h:lW w w.heap.size A zs) (hb:Below w.heap.size w w'):lW w' w'.heap.size A zs:=(h.keep hb).more hb.size
theorem jE.keep (h:jE w B x) (hb:Below B w w'):jE w' B x:=⟨h.names,h.prev,h.bn,h.aK.keep hb⟩
theorem jE.more (h:jE w B x) (hB:B≤B'):jE w B' x:=⟨h.names,h.prev,h.bn,h.aK.more hB⟩
theorem jE.grow (h:jE w w.heap.size x) (hb:Below w.heap.size w w'):jE w' w'.heap.size x:=(h.keep hb).more hb.size
theorem jE.size (h:jE w B x):x.cells.length=68:=by
 have:=bF x.t (.slice x.A x.zs.length x.c) h.prev h.bn;simpa [ai,bI.cells] using this
theorem gq.keep (h:gq w B A ts) (hb:Below B w w'):gq w' B A ts:=⟨h.row.keep hb,fun x hx=>(h.each x hx).keep hb⟩
theorem gq.more (h:gq w B A ts) (hB:B≤B'):gq w B' A ts:=⟨h.row.more hB,fun x hx=>(h.each x hx).more hB⟩
theorem gq.grow (h:gq w w.heap.size A ts) (hb:Below w.heap.size w w'):gq w' w'.heap.size A ts:=(h.keep hb).more hb.size
theorem gq.nil:gq w B A []:=⟨.nil,fun _ hx=>nomatch hx⟩
end
theorem wC (t:Tr):∀u∈t.cells,u.oneCell'=true:=by
 intro u hu;simp [Tr.cells] at hu;rcases hu with rfl|rfl<;>rfl
theorem wI (y:Yr):∀u∈y.cells,u.oneCell'=true:=by
 intro u hu;simp [Yr.cells] at hu;rcases hu with rfl|rfl|rfl|rfl|rfl<;>rfl
theorem WR (r:Lr):∀u∈r.cells,u.oneCell'=true:=by
 intro u hu;simp [Lr.cells] at hu;rcases hu with rfl|rfl|rfl<;>rfl
def ClA (w:World) (e size n:Nat) (cs:List Value) (en:Ending) (w':World):Prop:=
 ∃A c,en= .returned (.slice A n c)∧w'.ownsRow w.heap.size e size (.slice A n c) n cs∧Below w.heap.size w w'
theorem dG {w:World} {base e size n:Nat} {v:Value} {xs:List Value} (h:w.ownsRow base e size v n xs):∃A c,v= .slice A n c:=by
 rcases h.2 with ⟨rfl,rfl⟩|⟨g,cap,cur,rfl,_⟩
 ·exact ⟨_,_,rfl⟩
 ·exact ⟨_,_,rfl⟩
theorem mg {w:World} {a:Addr} {cs:List Value} {o:Obj} (h:aA w w.heap.size (some a) cs):∀j u,cs[j]? =some u→(w.alloc o).cell? (a.add j)=some u:=by
 intro j u hu;rcases h with h|⟨b,off,h1,h2,h3⟩
 ·rw [List.eq_nil_of_length_eq_zero h] at hu;cases hu
 ·injection h1 with h1;subst h1;rw [Addr.add_mid,World.cell?_of_block (Below.heap_alloc w _ b h2)];exact h3 j u hu
theorem TE:(Tryz.prog.info? 125).map (fun i=>(i.zero,i.size,i.bytes))=some (some (.agg #[I 0,I 0, .bool false]),3,24):=by kernel_rfl
theorem Am:(Tryz.prog.info? 127).map (fun i=>(i.zero,i.size,i.bytes))=some (some (.agg #[I 0,I 0]),2,16):=by kernel_rfl
theorem Om:(Tryz.prog.info? 129).map (fun i=>(i.zero,i.size,i.bytes))=some (some (.agg #[I 0,I 0,I 0,I 0,I 0]),5,40):=by kernel_rfl
theorem VN (c:Nat) (w:World):Calls Tryz.prog 59 #[.slice none 0 c] w fun e w'=>e= .returned (.slice none 0 0)∧w'=w:=by
 have heq:∀W,(binOp .eql 60 (.slice none 0 c) (.slice none 0 0)).run Tryz.prog W= .ok (.bool true) W:=fun W=>by simp [binOp,run_equal_slice_nil W 60 3 none 0 c Tryz.underlying60]
 go_enter Tryz.func59,Tryz.ntmps59
 go_wp2
 go_ret;exact ⟨rfl,rfl⟩
theorem VM (A:Option Addr) (c n:Nat) (cs:List Value) (w:World) (hA:aA w w.heap.size A cs) (hl:cs.length=n*1) (h1:∀u∈cs,u.oneCell'=true) (hn:n≤10000):
  Calls Tryz.prog 59 #[.slice A n c] w (ClA w 3 1 n cs):=by
 cases A with
 |none=>
  have hc:cs= []:=by
   rcases hA with h|⟨b,off,h,_⟩
   ·exact List.eq_nil_of_length_eq_zero h
   ·cases h
  subst hc;have hn0:n=0:=by simp at hl;omega
  subst hn0;exact (VN c w).mono fun e w' ⟨he,hw⟩=>⟨none,0,he,World.ownsRow_nil _ _ _ _,by rw [hw];exact Below.refl _ _⟩
 |some a=>
  have NL:=ae (mg (o:= .cells #[] 3) hA);have HO:=ae (gm w 3 1);have HL:=ae hl;have H1:=ae h1;have HB:=ae (ag w (.cells #[] 3));obtain ⟨i0,hi,hz0,hz1,hz2⟩:=info_parts tZ;have HI:=ae hi;have HZ0:=ae hz0;have HZ1:=ae hz1;have HZ2:=ae hz2;have heq:∀W,(binOp .eql 60 (.slice (some a) n c) (.slice none 0 0)).run Tryz.prog W= .ok (.bool false) W:=fun W=>by simp [binOp,run_equal_slice_nil W 60 3 (some a) n c Tryz.underlying60]
  clear hA hl h1 hi hz0 hz1 hz2;go_enter Tryz.func59,Tryz.ntmps59;go_wp2_with (at_builtin;refine wpList_append_own_at _ rfl _ _ 60 rfl w.heap.size 3 i0 (.int .i64 0) 1 8 Tryz.underlying60 HI.out HZ0.out HZ1.out HZ2.out rfl (by decide) _ 0 [] rfl HO.out a n c cs rfl HL.out NL.out H1.out (by unfold maxLen;omega) (by omega) (by simp) ?_);intro v' w' hown hg _ _;have HB2:=ae (bG HB.out HO.out (by simp) hg);obtain ⟨A',c',rfl⟩:=dG hown;have HOW:=ae hown;clear hown hg;go_wp2_with fail;go_ret;exact ⟨A',c',by first|rfl|(rw [Nat.zero_add]),by have h:=HOW.out;simpa using h,HB2.out⟩
theorem VP (c:Nat) (w:World):Calls Tryz.prog 60 #[.slice none 0 c] w fun e w'=>e= .returned (.slice none 0 0)∧w'=w:=by
 have heq:∀W,(binOp .eql 61 (.slice none 0 c) (.slice none 0 0)).run Tryz.prog W= .ok (.bool true) W:=fun W=>by simp [binOp,run_equal_slice_nil W 61 125 none 0 c Tryz.underlying61]
 go_enter Tryz.func60,Tryz.ntmps60
 go_wp2
 go_ret;exact ⟨rfl,rfl⟩
theorem VO (A:Option Addr) (c n:Nat) (cs:List Value) (w:World) (hA:aA w w.heap.size A cs) (hl:cs.length=n*3) (h1:∀u∈cs,u.oneCell'=true) (hn:n≤10000):
  Calls Tryz.prog 60 #[.slice A n c] w (ClA w 125 3 n cs):=by
 cases A with
 |none=>
  have hc:cs= []:=by
   rcases hA with h|⟨b,off,h,_⟩
   ·exact List.eq_nil_of_length_eq_zero h
   ·cases h
  subst hc;have hn0:n=0:=by simp at hl;omega
  subst hn0;exact (VP c w).mono fun e w' ⟨he,hw⟩=>⟨none,0,he,World.ownsRow_nil _ _ _ _,by rw [hw];exact Below.refl _ _⟩
 |some a=>
  have NL:=ae (mg (o:= .cells #[] 125) hA);have HO:=ae (gm w 125 3);have HL:=ae hl;have H1:=ae h1;have HB:=ae (ag w (.cells #[] 125));obtain ⟨i0,hi,hz0,hz1,hz2⟩:=info_parts TE;have HI:=ae hi;have HZ0:=ae hz0;have HZ1:=ae hz1;have HZ2:=ae hz2;have heq:∀W,(binOp .eql 61 (.slice (some a) n c) (.slice none 0 0)).run Tryz.prog W= .ok (.bool false) W:=fun W=>by simp [binOp,run_equal_slice_nil W 61 125 (some a) n c Tryz.underlying61]
  clear hA hl h1 hi hz0 hz1 hz2;go_enter Tryz.func60,Tryz.ntmps60;go_wp2_with (at_builtin;refine wpList_append_own_at _ rfl _ _ 61 rfl w.heap.size 125 i0 (.agg #[I 0,I 0, .bool false]) 3 24 Tryz.underlying61 HI.out HZ0.out HZ1.out HZ2.out rfl (by decide) _ 0 [] rfl HO.out a n c cs rfl HL.out NL.out H1.out (by unfold maxLen;omega) (by omega) (by simp) ?_);intro v' w' hown hg _ _;have HB2:=ae (bG HB.out HO.out (by simp) hg);obtain ⟨A',c',rfl⟩:=dG hown;have HOW:=ae hown;clear hown hg;go_wp2_with fail;go_ret;exact ⟨A',c',by first|rfl|(rw [Nat.zero_add]),by have h:=HOW.out;simpa using h,HB2.out⟩
theorem VR (c:Nat) (w:World):Calls Tryz.prog 61 #[.slice none 0 c] w fun e w'=>e= .returned (.slice none 0 0)∧w'=w:=by
 have heq:∀W,(binOp .eql 64 (.slice none 0 c) (.slice none 0 0)).run Tryz.prog W= .ok (.bool true) W:=fun W=>by simp [binOp,run_equal_slice_nil W 64 127 none 0 c Tryz.underlying64]
 go_enter Tryz.func61,Tryz.ntmps61
 go_wp2
 go_ret;exact ⟨rfl,rfl⟩
theorem VQ (A:Option Addr) (c n:Nat) (cs:List Value) (w:World) (hA:aA w w.heap.size A cs) (hl:cs.length=n*2) (h1:∀u∈cs,u.oneCell'=true) (hn:n≤10000):
  Calls Tryz.prog 61 #[.slice A n c] w (ClA w 127 2 n cs):=by
 cases A with
 |none=>
  have hc:cs= []:=by
   rcases hA with h|⟨b,off,h,_⟩
   ·exact List.eq_nil_of_length_eq_zero h
   ·cases h
  subst hc;have hn0:n=0:=by simp at hl;omega
  subst hn0;exact (VR c w).mono fun e w' ⟨he,hw⟩=>⟨none,0,he,World.ownsRow_nil _ _ _ _,by rw [hw];exact Below.refl _ _⟩
 |some a=>
  have NL:=ae (mg (o:= .cells #[] 127) hA);have HO:=ae (gm w 127 2);have HL:=ae hl;have H1:=ae h1;have HB:=ae (ag w (.cells #[] 127));obtain ⟨i0,hi,hz0,hz1,hz2⟩:=info_parts Am;have HI:=ae hi;have HZ0:=ae hz0;have HZ1:=ae hz1;have HZ2:=ae hz2;have heq:∀W,(binOp .eql 64 (.slice (some a) n c) (.slice none 0 0)).run Tryz.prog W= .ok (.bool false) W:=fun W=>by simp [binOp,run_equal_slice_nil W 64 127 (some a) n c Tryz.underlying64]
  clear hA hl h1 hi hz0 hz1 hz2;go_enter Tryz.func61,Tryz.ntmps61;go_wp2_with (at_builtin;refine wpList_append_own_at _ rfl _ _ 64 rfl w.heap.size 127 i0 (.agg #[I 0,I 0]) 2 16 Tryz.underlying64 HI.out HZ0.out HZ1.out HZ2.out rfl (by decide) _ 0 [] rfl HO.out a n c cs rfl HL.out NL.out H1.out (by unfold maxLen;omega) (by omega) (by simp) ?_);intro v' w' hown hg _ _;have HB2:=ae (bG HB.out HO.out (by simp) hg);obtain ⟨A',c',rfl⟩:=dG hown;have HOW:=ae hown;clear hown hg;go_wp2_with fail;go_ret;exact ⟨A',c',by first|rfl|(rw [Nat.zero_add]),by have h:=HOW.out;simpa using h,HB2.out⟩
theorem VT (c:Nat) (w:World):Calls Tryz.prog 62 #[.slice none 0 c] w fun e w'=>e= .returned (.slice none 0 0)∧w'=w:=by
 have heq:∀W,(binOp .eql 65 (.slice none 0 c) (.slice none 0 0)).run Tryz.prog W= .ok (.bool true) W:=fun W=>by simp [binOp,run_equal_slice_nil W 65 129 none 0 c Tryz.underlying65]
 go_enter Tryz.func62,Tryz.ntmps62
 go_wp2
 go_ret;exact ⟨rfl,rfl⟩
theorem VS (A:Option Addr) (c n:Nat) (cs:List Value) (w:World) (hA:aA w w.heap.size A cs) (hl:cs.length=n*5) (h1:∀u∈cs,u.oneCell'=true) (hn:n≤10000):
  Calls Tryz.prog 62 #[.slice A n c] w (ClA w 129 5 n cs):=by
 cases A with
 |none=>
  have hc:cs= []:=by
   rcases hA with h|⟨b,off,h,_⟩
   ·exact List.eq_nil_of_length_eq_zero h
   ·cases h
  subst hc;have hn0:n=0:=by simp at hl;omega
  subst hn0;exact (VT c w).mono fun e w' ⟨he,hw⟩=>⟨none,0,he,World.ownsRow_nil _ _ _ _,by rw [hw];exact Below.refl _ _⟩
 |some a=>
  have NL:=ae (mg (o:= .cells #[] 129) hA);have HO:=ae (gm w 129 5);have HL:=ae hl;have H1:=ae h1;have HB:=ae (ag w (.cells #[] 129));obtain ⟨i0,hi,hz0,hz1,hz2⟩:=info_parts Om;have HI:=ae hi;have HZ0:=ae hz0;have HZ1:=ae hz1;have HZ2:=ae hz2;have heq:∀W,(binOp .eql 65 (.slice (some a) n c) (.slice none 0 0)).run Tryz.prog W= .ok (.bool false) W:=fun W=>by simp [binOp,run_equal_slice_nil W 65 129 (some a) n c Tryz.underlying65]
  clear hA hl h1 hi hz0 hz1 hz2;go_enter Tryz.func62,Tryz.ntmps62;go_wp2_with (at_builtin;refine wpList_append_own_at _ rfl _ _ 65 rfl w.heap.size 129 i0 (.agg #[I 0,I 0,I 0,I 0,I 0]) 5 40 Tryz.underlying65 HI.out HZ0.out HZ1.out HZ2.out rfl (by decide) _ 0 [] rfl HO.out a n c cs rfl HL.out NL.out H1.out (by unfold maxLen;omega) (by omega) (by simp) ?_);intro v' w' hown hg _ _;have HB2:=ae (bG HB.out HO.out (by simp) hg);obtain ⟨A',c',rfl⟩:=dG hown;have HOW:=ae hown;clear hown hg;go_wp2_with fail;go_ret;exact ⟨A',c',by first|rfl|(rw [Nat.zero_add]),by have h:=HOW.out;simpa using h,HB2.out⟩
theorem VU (c:Nat) (w:World):Calls Tryz.prog 47 #[.slice none 0 c] w fun e w'=>e= .returned (.slice none 0 0)∧w'=w:=by
 have heq:∀W,(binOp .eql 35 (.slice none 0 c) (.slice none 0 0)).run Tryz.prog W= .ok (.bool true) W:=fun W=>by simp [binOp,run_equal_slice_nil W 35 90 none 0 c Tryz.underlying35]
 go_enter Tryz.func47,Tryz.ntmps47
 go_wp2
 go_ret;exact ⟨rfl,rfl⟩
theorem Oc (A:Option Addr) (c n:Nat) (cs:List Value) (w:World) (hA:aA w w.heap.size A cs) (hl:cs.length=n*9) (h1:∀u∈cs,u.oneCell'=true) (hn:n≤10000):
  Calls Tryz.prog 47 #[.slice A n c] w (ClA w 90 9 n cs):=by
 cases A with
 |none=>
  have hc:cs= []:=by
   rcases hA with h|⟨b,off,h,_⟩
   ·exact List.eq_nil_of_length_eq_zero h
   ·cases h
  subst hc;have hn0:n=0:=by simp at hl;omega
  subst hn0;exact (VU c w).mono fun e w' ⟨he,hw⟩=>⟨none,0,he,World.ownsRow_nil _ _ _ _,by rw [hw];exact Below.refl _ _⟩
 |some a=>
  have NL:=ae (mg (o:= .cells #[] 90) hA);have HO:=ae (gm w 90 9);have HL:=ae hl;have H1:=ae h1;have HB:=ae (ag w (.cells #[] 90));obtain ⟨i0,hi,hz0,hz1,hz2⟩:=info_parts xh;have HI:=ae hi;have HZ0:=ae hz0;have HZ1:=ae hz1;have HZ2:=ae hz2;have heq:∀W,(binOp .eql 35 (.slice (some a) n c) (.slice none 0 0)).run Tryz.prog W= .ok (.bool false) W:=fun W=>by simp [binOp,run_equal_slice_nil W 35 90 (some a) n c Tryz.underlying35]
  clear hA hl h1 hi hz0 hz1 hz2;go_enter Tryz.func47,Tryz.ntmps47;go_wp2_with (at_builtin;refine wpList_append_own_at _ rfl _ _ 35 rfl w.heap.size 90 i0 (.agg jo) 9 144 Tryz.underlying35 HI.out HZ0.out HZ1.out HZ2.out rfl (by decide) _ 0 [] rfl HO.out a n c cs rfl HL.out NL.out H1.out (by unfold maxLen;omega) (by omega) (by simp) ?_);intro v' w' hown hg _ _;have HB2:=ae (bG HB.out HO.out (by simp) hg);obtain ⟨A',c',rfl⟩:=dG hown;have HOW:=ae hown;clear hown hg;go_wp2_with fail;go_ret;exact ⟨A',c',by first|rfl|(rw [Nat.zero_add]),by have h:=HOW.out;simpa using h,HB2.out⟩
attribute [local go_sem] mF mO mG mP qN qO mr mJ mD mM TM TT
def vF (b:Bool):Int:=if b=true then 1 else 0
def lJ (x:Lr):List UInt8:=le x.every 2++(le x.rest 2++le (vF x.yes) 1)
def jR (x:Tr):List UInt8:=le x.at_ 8++le x.off 2
def lS (x:Yr):List UInt8:=le x.month 1++(le x.df 1++(le x.dh 1++(le x.minute 2++le x.off 2)))
def lu (z:Int):Prop:= -9223372036854775808≤z∧z≤9223372036854775807
def y8 (x:Lr):Prop:=lu x.every∧lu x.rest
def zn (x:Tr):Prop:=lu x.at_∧lu x.off
def qm (x:Yr):Prop:=lu x.month∧lu x.df∧lu x.dh∧lu x.minute∧lu x.off
theorem y7 (x:Lr):(lJ x).length=5:=by simp [lJ,aF]
theorem uu (x:Tr):(jR x).length=10:=by simp [jR,aF]
theorem zu (x:Yr):(lS x).length=7:=by simp [lS,aF]
theorem vX {α:Type} (f:α→List UInt8) (L:Nat) (h:∀x,(f x).length=L) (xs:List α):(xs.flatMap f).length=xs.length*L:=by
 induction xs with
 |nil=>simp
 |cons x xs ih=>rw [List.flatMap_cons,aZ,ih,h,List.length_cons,Nat.succ_mul,Nat.add_comm]
theorem Ql (w:World) (g:Nat) (p:Addr) (v:Value) (bs:List UInt8) (b:Bool) (hl:bs.length≤1000000000) (hst:fA w g v bs) (hp:w.cell? p=some (.bool b)):
  Calls Tryz.prog 168 #[pt g, .pointer (some p)] w (fE w g v (bs++le (vF b) 1)):=by
 obtain ⟨h1,h2⟩:=hst.grow (ag w (.cells #[I (vF b)] 3));have HG2:=ae h2;have hp1:(w.alloc (.cells #[I 0] 3)).cell? p=some (.bool b):=(World.cell?_alloc_some w p _ (by rw [hp];rfl)).trans hp;have HC:=ae (bH (w.alloc (.cells #[I (vF b)] 3)) g ⟨w.heap.size,0,none⟩ v bs (vF b) 1 (by unfold vF;split<;>omega) (by unfold vF;split<;>omega) (by omega) (by omega) h1.lt h1 ((Row.new w #[I (vF b)] 3).2 0));clear hst h1 h2;cases b with
 |false=>
  rw [show vF false=0 from rfl] at HC HG2 ⊢;go_enter Tryz.func168,Tryz.ntmps168;go_wp2_with fail;refine HC.out.mono ?_;rintro e w1 ⟨rfl,v1,hs1,hk1⟩;have iq:=ae hs1;have iF:=ae (HG2.out.trans hk1);clear hs1 hk1 HC HG2;go_wp2_with fail
  go_end0
  exact ⟨rfl,v1,iq.out,iF.out⟩
 |true=>
  rw [show vF true=1 from rfl] at HC HG2 ⊢;go_enter Tryz.func168,Tryz.ntmps168;go_wp2_with fail;refine HC.out.mono ?_;rintro e w1 ⟨rfl,v1,hs1,hk1⟩;have iq:=ae hs1;have iF:=ae (HG2.out.trans hk1);clear hs1 hk1 HC HG2;go_wp2_with fail
  go_end0
  exact ⟨rfl,v1,iq.out,iF.out⟩
theorem Qy (w:World) (g xb xo:Nat) (v:Value) (bs:List UInt8) (x:Lr) (hr:w.rangeAt xb xo x.cells) (hxg:xb<g) (hf:y8 x) (hl:bs.length≤900000000) (hst:fA w g v bs):
  Calls Tryz.prog 93 #[.iface 77 (pt g), .pointer (some ⟨xb,xo,none⟩)] w (fE w g v (bs++lJ x)):=by
 have hgl:=hst.lt;have HST:=ae hst;have HF:=ae hf;have c0:w.cell? ⟨xb,xo,none⟩=some (I x.every):=hr 0 _ rfl;have c1:w.cell? ⟨xb,xo+1,none⟩=some (I x.rest):=hr 1 _ rfl;have c2:w.cell? ⟨xb,xo+2,none⟩=some (.bool x.yes):=hr 2 _ rfl;have HB0:Hid (Below g w w):=ae (Below.refl _ _);have uP:=ae hst;have xU:Hid (gX g v w v w):=ae (gX.refl _ _ _);clear hr hf hst;have hc0:w.drew.cell? ⟨xb,xo,none⟩=some (I x.every):=(HB0.out.cell (p:=⟨xb,xo,none⟩) hxg).trans c0;have hlen0:(bs).length≤900000100:=by
  try simp only [aZ,aF]
  omega
 have QG:=ae (bH w.drew g ⟨xb,xo,none⟩ v (bs) x.every 2 (by have:=HF.out;unfold y8 lu at this;omega) (by have:=HF.out;unfold y8 lu at this;omega) (by omega) (by omega) uP.out.drew.lt uP.out.drew hc0);clear hc0;go_enter Tryz.func93,Tryz.ntmps93;go_wp2_with fail;go_still_tail 7,(by kernel_rfl);go_wp2_with fail;refine QG.out.mono ?_;rintro e w1 ⟨rfl,v1,hs1,hk1⟩;have HB1:=ae (HB0.out.trans (bu uP.out (aI hk1)));have iq:=ae hs1;have iF:=ae (xU.out.trans (aI hk1));clear hs1 hk1 QG HB0 uP xU hlen0;have hc1:w1.drew.cell? ⟨xb,xo+1,none⟩=some (I x.rest):=(HB1.out.cell (p:=⟨xb,xo+1,none⟩) hxg).trans c1;have hlen1:(bs++le (x.every) 2).length≤900000100:=by
  try simp only [aZ,aF]
  omega
 have lV:=ae (bH w1.drew g ⟨xb,xo+1,none⟩ v1 (bs++le (x.every) 2) x.rest 2 (by have:=HF.out;unfold y8 lu at this;omega) (by have:=HF.out;unfold y8 lu at this;omega) (by omega) (by omega) iq.out.drew.lt iq.out.drew hc1);clear hc1;go_wp2_with fail;go_still_tail 7,(by kernel_rfl);go_wp2_with fail;refine lV.out.mono ?_;rintro e w2 ⟨rfl,v2,hs2,hk2⟩;have HB2:=ae (HB1.out.trans (bu iq.out (aI hk2)));have HS2:=ae hs2;have iO:=ae (iF.out.trans (aI hk2));clear hs2 hk2 lV HB1 iq iF hlen1;have hc2:w2.drew.cell? ⟨xb,xo+2,none⟩=some (.bool x.yes):=(HB2.out.cell (p:=⟨xb,xo+2,none⟩) hxg).trans c2;have hlen2:(bs++le (x.every) 2++le (x.rest) 2).length≤900000100:=by
  try simp only [aZ,aF]
  omega
 have HC2:=ae (Ql w2.drew g ⟨xb,xo+2,none⟩ v2 (bs++le (x.every) 2++le (x.rest) 2) x.yes (by omega) HS2.out.drew hc2);clear hc2;go_wp2_with fail;go_still_tail 7,(by kernel_rfl);go_wp2_with fail;refine HC2.out.mono ?_;rintro e w3 ⟨rfl,v3,hs3,hk3⟩;have HB3:=ae (HB2.out.trans (bu HS2.out (aI hk3)));have jU:=ae hs3;have mV:=ae (iO.out.trans (aI hk3));clear hs3 hk3 HC2 HB2 HS2 iO hlen2;go_wp2_with fail
 go_end0
 exact ⟨rfl,v3,by unfold lJ;have h:=jU.out;simpa [List.append_assoc] using h,mV.out⟩
theorem Nq (w:World) (g xb xo:Nat) (v:Value) (bs:List UInt8) (x:Tr) (hr:w.rangeAt xb xo x.cells) (hxg:xb<g) (hf:zn x) (hl:bs.length≤900000000) (hst:fA w g v bs):
  Calls Tryz.prog 70 #[.iface 77 (pt g), .pointer (some ⟨xb,xo,none⟩)] w (fE w g v (bs++jR x)):=by
 have hgl:=hst.lt;have HST:=ae hst;have HF:=ae hf;have c0:w.cell? ⟨xb,xo,none⟩=some (I x.at_):=hr 0 _ rfl;have c1:w.cell? ⟨xb,xo+1,none⟩=some (I x.off):=hr 1 _ rfl;have HB0:Hid (Below g w w):=ae (Below.refl _ _);have uP:=ae hst;have xU:Hid (gX g v w v w):=ae (gX.refl _ _ _);clear hr hf hst;have hc0:w.drew.cell? ⟨xb,xo,none⟩=some (I x.at_):=(HB0.out.cell (p:=⟨xb,xo,none⟩) hxg).trans c0;have hlen0:(bs).length≤900000100:=by
  try simp only [aZ,aF]
  omega
 have QG:=ae (bH w.drew g ⟨xb,xo,none⟩ v (bs) x.at_ 8 (by have:=HF.out;unfold zn lu at this;omega) (by have:=HF.out;unfold zn lu at this;omega) (by omega) (by omega) uP.out.drew.lt uP.out.drew hc0);clear hc0;go_enter Tryz.func70,Tryz.ntmps70;go_wp2_with fail;go_still_tail 7,(by kernel_rfl);go_wp2_with fail;refine QG.out.mono ?_;rintro e w1 ⟨rfl,v1,hs1,hk1⟩;have HB1:=ae (HB0.out.trans (bu uP.out (aI hk1)));have iq:=ae hs1;have iF:=ae (xU.out.trans (aI hk1));clear hs1 hk1 QG HB0 uP xU hlen0;have hc1:w1.drew.cell? ⟨xb,xo+1,none⟩=some (I x.off):=(HB1.out.cell (p:=⟨xb,xo+1,none⟩) hxg).trans c1;have hlen1:(bs++le (x.at_) 8).length≤900000100:=by
  try simp only [aZ,aF]
  omega
 have lV:=ae (qg w1.drew g ⟨xb,xo+1,none⟩ v1 (bs++le (x.at_) 8) x.off (by have:=HF.out;unfold zn lu at this;omega) (by have:=HF.out;unfold zn lu at this;omega) (by omega) iq.out.drew hc1);clear hc1;go_wp2_with fail;go_still_tail 7,(by kernel_rfl);go_wp2_with fail;refine lV.out.mono ?_;rintro e w2 ⟨rfl,v2,hs2,hk2⟩;have HB2:=ae (HB1.out.trans (bu iq.out (aI hk2)));have HS2:=ae hs2;have iO:=ae (iF.out.trans (aI hk2));clear hs2 hk2 lV HB1 iq iF hlen1;go_wp2_with fail
 go_end0
 exact ⟨rfl,v2,by unfold jR;have h:=HS2.out;simpa [List.append_assoc] using h,iO.out⟩
theorem Qz (w:World) (g xb xo:Nat) (v:Value) (bs:List UInt8) (x:Yr) (hr:w.rangeAt xb xo x.cells) (hxg:xb<g) (hf:qm x) (hl:bs.length≤900000000) (hst:fA w g v bs):
  Calls Tryz.prog 72 #[.iface 77 (pt g), .pointer (some ⟨xb,xo,none⟩)] w (fE w g v (bs++lS x)):=by
 have hgl:=hst.lt;have HST:=ae hst;have HF:=ae hf;have c0:w.cell? ⟨xb,xo,none⟩=some (I x.month):=hr 0 _ rfl;have c1:w.cell? ⟨xb,xo+1,none⟩=some (I x.df):=hr 1 _ rfl;have c2:w.cell? ⟨xb,xo+2,none⟩=some (I x.dh):=hr 2 _ rfl;have c3:w.cell? ⟨xb,xo+3,none⟩=some (I x.minute):=hr 3 _ rfl;have c4:w.cell? ⟨xb,xo+4,none⟩=some (I x.off):=hr 4 _ rfl;have HB0:Hid (Below g w w):=ae (Below.refl _ _);have uP:=ae hst;have xU:Hid (gX g v w v w):=ae (gX.refl _ _ _);clear hr hf hst;have hc0:w.drew.cell? ⟨xb,xo,none⟩=some (I x.month):=(HB0.out.cell (p:=⟨xb,xo,none⟩) hxg).trans c0;have hlen0:(bs).length≤900000100:=by
  try simp only [aZ,aF]
  omega
 have QG:=ae (bH w.drew g ⟨xb,xo,none⟩ v (bs) x.month 1 (by have:=HF.out;unfold qm lu at this;omega) (by have:=HF.out;unfold qm lu at this;omega) (by omega) (by omega) uP.out.drew.lt uP.out.drew hc0);clear hc0;go_enter Tryz.func72,Tryz.ntmps72;go_wp2_with fail;go_still_tail 7,(by kernel_rfl);go_wp2_with fail;refine QG.out.mono ?_;rintro e w1 ⟨rfl,v1,hs1,hk1⟩;have HB1:=ae (HB0.out.trans (bu uP.out (aI hk1)));have iq:=ae hs1;have iF:=ae (xU.out.trans (aI hk1));clear hs1 hk1 QG HB0 uP xU hlen0;have hc1:w1.drew.cell? ⟨xb,xo+1,none⟩=some (I x.df):=(HB1.out.cell (p:=⟨xb,xo+1,none⟩) hxg).trans c1;have hlen1:(bs++le (x.month) 1).length≤900000100:=by
  try simp only [aZ,aF]
  omega
 have lV:=ae (bH w1.drew g ⟨xb,xo+1,none⟩ v1 (bs++le (x.month) 1) x.df 1 (by have:=HF.out;unfold qm lu at this;omega) (by have:=HF.out;unfold qm lu at this;omega) (by omega) (by omega) iq.out.drew.lt iq.out.drew hc1);clear hc1;go_wp2_with fail;go_still_tail 7,(by kernel_rfl);go_wp2_with fail;refine lV.out.mono ?_;rintro e w2 ⟨rfl,v2,hs2,hk2⟩;have HB2:=ae (HB1.out.trans (bu iq.out (aI hk2)));have HS2:=ae hs2;have iO:=ae (iF.out.trans (aI hk2));clear hs2 hk2 lV HB1 iq iF hlen1;have hc2:w2.drew.cell? ⟨xb,xo+2,none⟩=some (I x.dh):=(HB2.out.cell (p:=⟨xb,xo+2,none⟩) hxg).trans c2;have hlen2:(bs++le (x.month) 1++le (x.df) 1).length≤900000100:=by
  try simp only [aZ,aF]
  omega
 have HC2:=ae (bH w2.drew g ⟨xb,xo+2,none⟩ v2 (bs++le (x.month) 1++le (x.df) 1) x.dh 1 (by have:=HF.out;unfold qm lu at this;omega) (by have:=HF.out;unfold qm lu at this;omega) (by omega) (by omega) HS2.out.drew.lt HS2.out.drew hc2);clear hc2;go_wp2_with fail;go_still_tail 7,(by kernel_rfl);go_wp2_with fail;refine HC2.out.mono ?_;rintro e w3 ⟨rfl,v3,hs3,hk3⟩;have HB3:=ae (HB2.out.trans (bu HS2.out (aI hk3)));have jU:=ae hs3;have mV:=ae (iO.out.trans (aI hk3));clear hs3 hk3 HC2 HB2 HS2 iO hlen2;have hc3:w3.drew.cell? ⟨xb,xo+3,none⟩=some (I x.minute):=(HB3.out.cell (p:=⟨xb,xo+3,none⟩) hxg).trans c3;have hlen3:(bs++le (x.month) 1++le (x.df) 1++le (x.dh) 1).length≤900000100:=by
  try simp only [aZ,aF]
  omega
 have sG:=ae (bH w3.drew g ⟨xb,xo+3,none⟩ v3 (bs++le (x.month) 1++le (x.df) 1++le (x.dh) 1) x.minute 2 (by have:=HF.out;unfold qm lu at this;omega) (by have:=HF.out;unfold qm lu at this;omega) (by omega) (by omega) jU.out.drew.lt jU.out.drew hc3);clear hc3;go_wp2_with fail;go_still_tail 7,(by kernel_rfl);go_wp2_with fail;refine sG.out.mono ?_;rintro e w4 ⟨rfl,v4,hs4,hk4⟩;have HB4:=ae (HB3.out.trans (bu jU.out (aI hk4)));have Ad:=ae hs4;have NJ:=ae (mV.out.trans (aI hk4));clear hs4 hk4 sG HB3 jU mV hlen3;have hc4:w4.drew.cell? ⟨xb,xo+4,none⟩=some (I x.off):=(HB4.out.cell (p:=⟨xb,xo+4,none⟩) hxg).trans c4;have hlen4:(bs++le (x.month) 1++le (x.df) 1++le (x.dh) 1++le (x.minute) 2).length≤900000100:=by
  try simp only [aZ,aF]
  omega
 have sQ:=ae (qg w4.drew g ⟨xb,xo+4,none⟩ v4 (bs++le (x.month) 1++le (x.df) 1++le (x.dh) 1++le (x.minute) 2) x.off (by have:=HF.out;unfold qm lu at this;omega) (by have:=HF.out;unfold qm lu at this;omega) (by omega) Ad.out.drew hc4);clear hc4;go_wp2_with fail;go_still_tail 7,(by kernel_rfl);go_wp2_with fail;refine sQ.out.mono ?_;rintro e w5 ⟨rfl,v5,hs5,hk5⟩;have pO:=ae (HB4.out.trans (bu Ad.out (aI hk5)));have sS:=ae hs5;have xP:=ae (NJ.out.trans (aI hk5));clear hs5 hk5 sQ HB4 Ad NJ hlen4;go_wp2_with fail
 go_end0
 exact ⟨rfl,v5,by unfold lS;have h:=sS.out;simpa [List.append_assoc] using h,xP.out⟩
def GU (w:World) (g:Nat) (v:Value) (bs:List UInt8) (n:Nat) (xs:List Lr) (i:Value) (wr:World):Prop:=
 ∃k:Nat,k≤n∧i= .int .i64 k∧∃v',fA wr g v' (bs++(le n 1++(xs.take k).flatMap lJ))∧gX g v w v' wr
theorem Ef (w:World) (g lb lo:Nat) (A:Option Addr) (n c:Nat) (xs:List Lr) (v:Value) (bs:List UInt8) (hn:xs.length=n) (hn2:n≤100000) (hp:w.cell? ⟨lb,lo,none⟩=some (.slice A n c)) (Lu:lb<g) (hA:aA w g A (xs.flatMap Lr.cells)) (hfit:∀z∈xs,y8 z)
  (hl:bs.length≤100000000) (hst:fA w g v bs):
  Calls Tryz.prog 92 #[.iface 77 (pt g), .pointer (some ⟨lb,lo,none⟩),I 1, .func (.func 93) #[] #[]] w (fE w g v (bs++(le n 1++xs.flatMap lJ))):=by
 have HC:=ae (fP w.drew g v bs n 1 (by omega) (by omega) (by omega) (by omega) hst.drew);have HST:=ae hst;have HN:=ae hn;have HF:=ae hfit;have HA:=ae hA;have HP:=ae hp;have hgl:=hst.lt;clear hst hn hfit hA;go_enter Tryz.func92,Tryz.ntmps92;go_wp2_with fail;go_still_tail 9,(by kernel_rfl);go_wp2_with fail;refine HC.out.mono ?_;rintro e w1 ⟨rfl,v1,hs1,hk1⟩;have iq:=ae hs1;have iF:=ae (aI hk1);clear hs1 hk1 HC hp;go_wp2_with fail
 go_loopw [22] (fun i wr=>GU w g v bs n xs i wr) (fun i _=>n - (intOf i).toNat)
 case atStart=>exact ⟨0,Nat.zero_le _,rfl,v1,by simpa using iq.out,iF.out⟩
 case round=>
  obtain ⟨k,hk,rfl,v2,hs2,hk2⟩:=hrel;have hb2:=bu HST.out hk2;have HB2:=ae hb2;have HS2:=ae hs2;have iO:=ae hk2;have hp2:wr.cell? ⟨lb,lo,none⟩=some (.slice A n c):=(hb2.cell (p:=⟨lb,lo,none⟩) Lu).trans HP.out;clear hs2 hk2 hb2 iq iF;by_cases hlt:k<n
  ·have hkz:k<xs.length:=by rw [HN.out];exact hlt
   obtain ⟨b,off,rfl,hbg,hc0⟩:=HA.out.there (by rw [dD (s:=3) Lr.cells _ fun _ _=>rfl];omega);obtain ⟨x,hx⟩:∃x,xs[k]? =some x:=⟨_,bZ hkz⟩;have hcz:wr.rangeAt b (off+k*3) x.cells:=aQ (aA.elem (s:=3) (f:=Lr.cells) (fun _ _=>rfl) hc0 k x hx) HB2.out hbg;have hlen:(bs++(le (n:Int) 1++(xs.take k).flatMap lJ)).length≤900000000:=by
    rw [aZ,aZ,aF,vX lJ 5 y7,List.length_take];omega
   have HM:=ae (Qy wr g b (off+k*3) v2 _ x hcz hbg (HF.out x (dS hx)) hlen HS2.out);have HX:=ae hx;have i0:(0:Int)≤(k:Int):=by omega
   have i1:(k:Int)<(n:Int):=by omega
   have i2:((k:Int)==(n:Int))=false:=by simp;omega
   clear hkz hc0 hx hlen hcz;go_wp2_with fail;refine HM.out.mono ?_;rintro e w3 ⟨rfl,v3,hs3,hk3⟩;have jU:=ae hs3;have mV:=ae (iO.out.trans hk3);clear hs3 hk3 hp2;go_wp2_with fail;go_roundw
   case rel=>exact ⟨k+1,by omega,by go_num,v3,by rw [lh xs k x HX.out,List.flatMap_append,List.flatMap_cons,List.flatMap_nil,List.append_nil,←List.append_assoc (le _ _),←List.append_assoc];exact jU.out,mV.out⟩
   case measure=>simp [intOf];omega
  ·have hkn:k=n:=by omega
   have sW:=ae hkn;clear hkn;go_wp2_with fail
   go_end0
   exact ⟨rfl,v2,by have h:=HS2.out;rwa [sW.out,List.take_of_length_le (by rw [HN.out];exact Nat.le_refl _)] at h,iO.out⟩
def Eg (w:World) (g:Nat) (v:Value) (bs:List UInt8) (n:Nat) (xs:List Tr) (i:Value) (wr:World):Prop:=
 ∃k:Nat,k≤n∧i= .int .i64 k∧∃v',fA wr g v' (bs++(le n 2++(xs.take k).flatMap jR))∧gX g v w v' wr
theorem Df (w:World) (g lb lo:Nat) (A:Option Addr) (n c:Nat) (xs:List Tr) (v:Value) (bs:List UInt8) (hn:xs.length=n) (hn2:n≤100000) (hp:w.cell? ⟨lb,lo,none⟩=some (.slice A n c)) (Lu:lb<g) (hA:aA w g A (xs.flatMap Tr.cells)) (hfit:∀z∈xs,zn z)
  (hl:bs.length≤100000000) (hst:fA w g v bs):
  Calls Tryz.prog 69 #[.iface 77 (pt g), .pointer (some ⟨lb,lo,none⟩),I 2, .func (.func 70) #[] #[]] w (fE w g v (bs++(le n 2++xs.flatMap jR))):=by
 have HC:=ae (fP w.drew g v bs n 2 (by omega) (by omega) (by omega) (by omega) hst.drew);have HST:=ae hst;have HN:=ae hn;have HF:=ae hfit;have HA:=ae hA;have HP:=ae hp;have hgl:=hst.lt;clear hst hn hfit hA;go_enter Tryz.func69,Tryz.ntmps69;go_wp2_with fail;go_still_tail 9,(by kernel_rfl);go_wp2_with fail;refine HC.out.mono ?_;rintro e w1 ⟨rfl,v1,hs1,hk1⟩;have iq:=ae hs1;have iF:=ae (aI hk1);clear hs1 hk1 HC hp;go_wp2_with fail
 go_loopw [22] (fun i wr=>Eg w g v bs n xs i wr) (fun i _=>n - (intOf i).toNat)
 case atStart=>exact ⟨0,Nat.zero_le _,rfl,v1,by simpa using iq.out,iF.out⟩
 case round=>
  obtain ⟨k,hk,rfl,v2,hs2,hk2⟩:=hrel;have hb2:=bu HST.out hk2;have HB2:=ae hb2;have HS2:=ae hs2;have iO:=ae hk2;have hp2:wr.cell? ⟨lb,lo,none⟩=some (.slice A n c):=(hb2.cell (p:=⟨lb,lo,none⟩) Lu).trans HP.out;clear hs2 hk2 hb2 iq iF;by_cases hlt:k<n
  ·have hkz:k<xs.length:=by rw [HN.out];exact hlt
   obtain ⟨b,off,rfl,hbg,hc0⟩:=HA.out.there (by rw [dD (s:=2) Tr.cells _ fun _ _=>rfl];omega);obtain ⟨x,hx⟩:∃x,xs[k]? =some x:=⟨_,bZ hkz⟩;have hcz:wr.rangeAt b (off+k*2) x.cells:=aQ (aA.elem (s:=2) (f:=Tr.cells) (fun _ _=>rfl) hc0 k x hx) HB2.out hbg;have hlen:(bs++(le (n:Int) 2++(xs.take k).flatMap jR)).length≤900000000:=by
    rw [aZ,aZ,aF,vX jR 10 uu,List.length_take];omega
   have HM:=ae (Nq wr g b (off+k*2) v2 _ x hcz hbg (HF.out x (dS hx)) hlen HS2.out);have HX:=ae hx;have i0:(0:Int)≤(k:Int):=by omega
   have i1:(k:Int)<(n:Int):=by omega
   have i2:((k:Int)==(n:Int))=false:=by simp;omega
   clear hkz hc0 hx hlen hcz;go_wp2_with fail;refine HM.out.mono ?_;rintro e w3 ⟨rfl,v3,hs3,hk3⟩;have jU:=ae hs3;have mV:=ae (iO.out.trans hk3);clear hs3 hk3 hp2;go_wp2_with fail;go_roundw
   case rel=>exact ⟨k+1,by omega,by go_num,v3,by rw [lh xs k x HX.out,List.flatMap_append,List.flatMap_cons,List.flatMap_nil,List.append_nil,←List.append_assoc (le _ _),←List.append_assoc];exact jU.out,mV.out⟩
   case measure=>simp [intOf];omega
  ·have hkn:k=n:=by omega
   have sW:=ae hkn;clear hkn;go_wp2_with fail
   go_end0
   exact ⟨rfl,v2,by have h:=HS2.out;rwa [sW.out,List.take_of_length_le (by rw [HN.out];exact Nat.le_refl _)] at h,iO.out⟩
def GV (w:World) (g:Nat) (v:Value) (bs:List UInt8) (n:Nat) (xs:List Yr) (i:Value) (wr:World):Prop:=
 ∃k:Nat,k≤n∧i= .int .i64 k∧∃v',fA wr g v' (bs++(le n 1++(xs.take k).flatMap lS))∧gX g v w v' wr
theorem Eh (w:World) (g lb lo:Nat) (A:Option Addr) (n c:Nat) (xs:List Yr) (v:Value) (bs:List UInt8) (hn:xs.length=n) (hn2:n≤100000) (hp:w.cell? ⟨lb,lo,none⟩=some (.slice A n c)) (Lu:lb<g) (hA:aA w g A (xs.flatMap Yr.cells)) (hfit:∀z∈xs,qm z)
  (hl:bs.length≤100000000) (hst:fA w g v bs):
  Calls Tryz.prog 71 #[.iface 77 (pt g), .pointer (some ⟨lb,lo,none⟩),I 1, .func (.func 72) #[] #[]] w (fE w g v (bs++(le n 1++xs.flatMap lS))):=by
 have HC:=ae (fP w.drew g v bs n 1 (by omega) (by omega) (by omega) (by omega) hst.drew);have HST:=ae hst;have HN:=ae hn;have HF:=ae hfit;have HA:=ae hA;have HP:=ae hp;have hgl:=hst.lt;clear hst hn hfit hA;go_enter Tryz.func71,Tryz.ntmps71;go_wp2_with fail;go_still_tail 9,(by kernel_rfl);go_wp2_with fail;refine HC.out.mono ?_;rintro e w1 ⟨rfl,v1,hs1,hk1⟩;have iq:=ae hs1;have iF:=ae (aI hk1);clear hs1 hk1 HC hp;go_wp2_with fail
 go_loopw [22] (fun i wr=>GV w g v bs n xs i wr) (fun i _=>n - (intOf i).toNat)
 case atStart=>exact ⟨0,Nat.zero_le _,rfl,v1,by simpa using iq.out,iF.out⟩
 case round=>
  obtain ⟨k,hk,rfl,v2,hs2,hk2⟩:=hrel;have hb2:=bu HST.out hk2;have HB2:=ae hb2;have HS2:=ae hs2;have iO:=ae hk2;have hp2:wr.cell? ⟨lb,lo,none⟩=some (.slice A n c):=(hb2.cell (p:=⟨lb,lo,none⟩) Lu).trans HP.out;clear hs2 hk2 hb2 iq iF;by_cases hlt:k<n
  ·have hkz:k<xs.length:=by rw [HN.out];exact hlt
   obtain ⟨b,off,rfl,hbg,hc0⟩:=HA.out.there (by rw [dD (s:=5) Yr.cells _ fun _ _=>rfl];omega);obtain ⟨x,hx⟩:∃x,xs[k]? =some x:=⟨_,bZ hkz⟩;have hcz:wr.rangeAt b (off+k*5) x.cells:=aQ (aA.elem (s:=5) (f:=Yr.cells) (fun _ _=>rfl) hc0 k x hx) HB2.out hbg;have hlen:(bs++(le (n:Int) 1++(xs.take k).flatMap lS)).length≤900000000:=by
    rw [aZ,aZ,aF,vX lS 7 zu,List.length_take];omega
   have HM:=ae (Qz wr g b (off+k*5) v2 _ x hcz hbg (HF.out x (dS hx)) hlen HS2.out);have HX:=ae hx;have i0:(0:Int)≤(k:Int):=by omega
   have i1:(k:Int)<(n:Int):=by omega
   have i2:((k:Int)==(n:Int))=false:=by simp;omega
   clear hkz hc0 hx hlen hcz;go_wp2_with fail;refine HM.out.mono ?_;rintro e w3 ⟨rfl,v3,hs3,hk3⟩;have jU:=ae hs3;have mV:=ae (iO.out.trans hk3);clear hs3 hk3 hp2;go_wp2_with fail;go_roundw
   case rel=>exact ⟨k+1,by omega,by go_num,v3,by rw [lh xs k x HX.out,List.flatMap_append,List.flatMap_cons,List.flatMap_nil,List.append_nil,←List.append_assoc (le _ _),←List.append_assoc];exact jU.out,mV.out⟩
   case measure=>simp [intOf];omega
  ·have hkn:k=n:=by omega
   have sW:=ae hkn;clear hkn;go_wp2_with fail
   go_end0
   exact ⟨rfl,v2,by have h:=HS2.out;rwa [sW.out,List.take_of_length_le (by rw [HN.out];exact Nat.le_refl _)] at h,iO.out⟩
end Go.Proofs.YtdibbemgpikgjaaGreatDoor
