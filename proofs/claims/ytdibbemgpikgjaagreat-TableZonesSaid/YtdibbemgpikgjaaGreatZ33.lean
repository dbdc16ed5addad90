/- The texts Qi, Qj, Kn, Ko, Kr, Ks, Kt, in this order. -/
import Derived.Test.YtdibbemgpikgjaaGreatZ00
import Derived.Test.YtdibbemgpikgjaaGreatZ01
import Derived.Test.YtdibbemgpikgjaaGreatZ05
import Derived.Test.YtdibbemgpikgjaaGreatZ09
import Derived.Test.YtdibbemgpikgjaaGreatZ12
import Derived.Test.YtdibbemgpikgjaaGreatZ14
import Derived.Test.YtdibbemgpikgjaaGreatZ18
set_option maxRecDepth 10000
set_option maxHeartbeats 8000000
namespace Go.Proofs.YtdibbemgpikgjaaGreat
open Go Go.RowKit
def LV (lo:Nat) (v:Value) (W:World) (A:Option Addr) (cs:List Value):Prop:=
 cs.length=0∨∃b off,A=some ⟨b,off,none⟩∧lo≤b∧b<W.heap.size∧some b≠v.ownBlock∧∀j u,cs[j]? =some u→W.cell? ⟨b,off+j,none⟩=some u
theorem LV.keep {lo:Nat} {v v':Value} {W W':World} {A:Option Addr} {cs:List Value} (h:LV lo v W A cs) (hs:W.heap.size≤W'.heap.size) (hb:∀b,lo≤b→b<W.heap.size→some b≠v.ownBlock→W'.heap[b]? =W.heap[b]? ∧some b≠v'.ownBlock):LV lo v' W' A cs:=by
 rcases h with h|⟨b,off,h1,h2,h3,h4,h5⟩
 ·exact .inl h
 ·exact .inr ⟨b,off,h1,h2,by omega,(hb b h2 h3 h4).2,fun j u hu=>(World.cell?_of_block (a:=⟨b,off+j,none⟩) (hb b h2 h3 h4).1).trans (h5 j u hu)⟩
theorem LV.at {lo:Nat} {v:Value} {W:World} {A:Option Addr} {cs:List Value} (h:LV lo v W A cs):aB W W.heap.size A cs:=by
 rcases h with h|⟨b,off,h1,h2,h3,h4,h5⟩
 ·exact .inl h
 ·exact .inr ⟨b,off,h1,h3,h5⟩
def gI (lo:Nat) (v:Value) (W:World) (s:Zs) (z:Zn):Prop:=LV lo v W s.A (z.cal.au.map I)∧LV lo v W s.B (z.cal.rules.flatMap Lr.cells)∧LV lo v W s.C (z.trans.flatMap Tr.cells)∧LV lo v W s.D (z.ay.flatMap Yr.cells)
theorem gI.keep {lo:Nat} {v v':Value} {W W':World} {s:Zs} {z:Zn} (h:gI lo v W s z) (hs:W.heap.size≤W'.heap.size) (hb:∀b,lo≤b→b<W.heap.size→some b≠v.ownBlock→W'.heap[b]? =W.heap[b]? ∧some b≠v'.ownBlock):gI lo v' W' s z:=
 ⟨h.1.keep hs hb,h.2.1.keep hs hb,h.2.2.1.keep hs hb,h.2.2.2.keep hs hb⟩
theorem gI.at {lo:Nat} {v:Value} {W:World} {s:Zs} {z:Zn} (h:gI lo v W s z):gW W W.heap.size s z:=⟨h.1.at,h.2.1.at,h.2.2.1.at,h.2.2.2.at⟩
def jh (lo:Nat) (v:Value) (W:World) (y:eF):Prop:=LV lo v W y.A (aP y.zs)∧∀z∈y.zs,gI lo v W z.s z.e.z
theorem jh.keep {lo:Nat} {v v':Value} {W W':World} {y:eF} (h:jh lo v W y) (hs:W.heap.size≤W'.heap.size) (hb:∀b,lo≤b→b<W.heap.size→some b≠v.ownBlock→W'.heap[b]? =W.heap[b]? ∧some b≠v'.ownBlock):jh lo v' W' y:=
 ⟨h.1.keep hs hb,fun z hz=>(h.2 z hz).keep hs hb⟩
theorem Vp (y:eF):∀u∈y.cells,u.oneCell'=true:=by
 have h:=bf y.t y.A y.zs.length y.c;rw [Array.all_eq_true_iff_forall_mem] at h;intro u hu;exact h u (by simpa [ai,eF.cells] using hu)
def nJ (lo:Nat) (w:World) (A:Option Addr) (n c:Nat) (bs:List UInt8):Prop:=w.ownsRow lo 5 1 (.slice A n c) n (bs.map Extern.Stop.cell)
structure tC (v:Value) (w:World) (v':Value) (w':World):Prop where
 os:w'.os=w.os
 tape:w'.tape=w.tape
 output:w'.output=w.output
 size:w.heap.size≤w'.heap.size
 block:∀k,k<w.heap.size→some k≠v.ownBlock→w'.heap[k]? =w.heap[k]?
 own:v'.ownBlock=v.ownBlock∨∃b,v'.ownBlock=some b∧w.heap.size≤b
theorem tC.refl (v:Value) (w:World):tC v w v w:=⟨rfl,rfl,rfl,Nat.le_refl _,fun _ _ _=>rfl, .inl rfl⟩
theorem tC.trans {v v1 v2:Value} {w w1 w2:World} (h:tC v w v1 w1) (k:tC v1 w1 v2 w2):tC v w v2 w2:=by
 refine ⟨k.os.trans h.os,k.tape.trans h.tape,k.output.trans h.output,Nat.le_trans h.size k.size,fun b hb hv=>?_,?_⟩
 ·refine (k.block b (dR hb h.size) ?_).trans (h.block b hb hv);rcases h.own with e|⟨b1,e,hb1⟩
  ·rw [e];exact hv
  ·rw [e];intro h';injection h' with h';omega
 ·rcases k.own with e|⟨b,e,hb⟩
  ·rcases h.own with e1|⟨b1,e1,hb1⟩
   ·exact .inl (e.trans e1)
   ·exact .inr ⟨b1,e.trans e1,hb1⟩
  ·exact .inr ⟨b,e,Nat.le_trans h.size hb⟩
theorem tC.below {v v':Value} {w w' w2:World} (h:tC v w v' w') (hb:Below w'.heap.size w' w2):tC v w v' w2:=
 ⟨hb.os.trans h.os,hb.tape.trans h.tape,hb.output.trans h.output,Nat.le_trans h.size hb.size,fun k hk hv=>(hb.block k (dR hk h.size)).trans (h.block k hk hv),h.own⟩
theorem tC.app {w w3:World} {v v':Value} {o:Obj} (hg:(w.alloc o).grownBy w3 v.ownBlock) (hat:v'.ownBlock=v.ownBlock∨v'.ownBlock=some (w.alloc o).heap.size):tC v w v' w3:=
 ⟨hg.os,hg.tape,hg.output,Nat.le_trans (by simp) hg.size,fun k hk hv=>(hg.block k (by simp;omega) hv).trans (Below.heap_alloc w o k hk),hat.elim .inl fun e=> .inr ⟨_,e,by simp⟩⟩
theorem tC.vZ {lo:Nat} {v v':Value} {w w':World} (h:tC v w v' w') (hv:∀g,v.ownBlock=some g→lo≤g) (hlo:lo≤w.heap.size):Below lo w w':=
 ⟨h.os,h.tape,h.output,h.size,fun k hk=>h.block k (by omega) (fun e=>by have:=hv k e.symm;omega)⟩
def Xp (lo:Nat) (v:Value) (w:World) (bs:List UInt8) (e:Ending) (w':World):Prop:=∃A n c,bs.length=n∧e= .returned (.slice A n c)∧nJ lo w' A n c bs∧tC v w (.slice A n c) w'
theorem nJ.base {lo n c:Nat} {w:World} {A:Option Addr} {bs:List UInt8} (h:nJ lo w A n c bs):∀g,(Value.slice A n c).ownBlock=some g→lo≤g:=fun g hg=>(World.ownsRow.lt h g hg).1
theorem nJ.below {lo n c:Nat} {w w':World} {A:Option Addr} {bs:List UInt8} (h:nJ lo w A n c bs) (hb:Below w.heap.size w w'):nJ lo w' A n c bs:=
 World.ownsRow.kept (row:=none) h ⟨hb.os,hb.tape,hb.output,hb.size,fun k hk _=>hb.block k hk⟩ (by cases (Value.slice A n c).ownBlock<;>simp)
theorem nJ.lower {lo lo' n c:Nat} {w:World} {A:Option Addr} {bs:List UInt8} (h:nJ lo w A n c bs) (hl:lo'≤lo):nJ lo' w A n c bs:=by
 rcases h.2 with h2|⟨g,cap,cur,h1,h2,h3⟩
 ·exact ⟨h.1, .inl h2⟩
 ·exact ⟨h.1, .inr ⟨g,cap,cur,h1,Nat.le_trans hl h2,h3⟩⟩
theorem NR (z:Int) (j:Nat) (hj:j<8):Value.int .u8 (IntKind.u64.wrap z / 2 ^ (8*j)%256)=Extern.Stop.cell (byteOf (jM z j)):=by
 rw [iC];have h:j=0∨j=1∨j=2∨j=3∨j=4∨j=5∨j=6∨j=7:=by omega
 congr 1;rw [show IntKind.u64.wrap z=z%18446744073709551616 by simp [IntKind.wrap,IntKind.bits,IntKind.signed]];rcases h with rfl|rfl|rfl|rfl|rfl|rfl|rfl|rfl<;>simp only [jM]
 ·show z%18446744073709551616 / 1%256=_;omega
 ·show z%18446744073709551616 / 256%256=_;omega
 ·show z%18446744073709551616 / 65536%256=_;omega
 ·show z%18446744073709551616 / 16777216%256=_;omega
 ·show z%18446744073709551616 / 4294967296%256=_;omega
 ·show z%18446744073709551616 / 1099511627776%256=_;omega
 ·show z%18446744073709551616 / 281474976710656%256=_;omega
 ·show z%18446744073709551616 / 72057594037927936%256=_;omega
theorem uX (x:Int):∀u∈ [Value.int .u8 x],u.oneCell'=true:=fun u hu=>by rw [List.mem_singleton.1 hu];rfl
def LQ (b:Bool):Int:=if b=true then 1 else 0
def NRel (lo:Nat) (v:Value) (w:World) (bs:List UInt8) (z:Int) (s:Nat) (b i:Value) (wr:World):Prop:=
 ∃(k n c:Nat) (A:Option Addr),k≤s∧b= .slice A n c∧i= .int .i64 k∧(bs++le z k).length=n∧nJ lo wr A n c (bs++le z k)∧tC v w (.slice A n c) wr
theorem dS (lo n c s:Nat) (A:Option Addr) (bs:List UInt8) (z:Int) (w:World) (hl:bs.length=n) (hn:n≤1000000) (hs:s≤8) (hz:fits z) (hlo:lo≤w.heap.size) (hO:nJ lo w A n c bs):
  Calls Tryz.prog 68 #[.slice A n c,I z,I s] w (Xp lo (.slice A n c) w (bs++le z s)):=by
 obtain ⟨i0,hi,hz0,hz1,hz2⟩:=info_parts mf;have HI:=ae hi;have HZ0:=ae hz0;have HZ1:=ae hz1;have HZ2:=ae hz2;have HO:=ae hO;have HL:=ae hl;have HFZ:=ae hz;clear hi hz0 hz1 hz2 hO hl hz;go_enter Tryz.func68,Tryz.ntmps68;go_wp2_with fail
 go_loopw [0,8] (fun b i wr=>NRel lo (.slice A n c) w bs z s b i wr) (fun _ i _=>s - (intOf i).toNat)
 case atStart=>exact ⟨0,n,c,A,Nat.zero_le _,rfl,by go_num,by simpa [le] using HL.out,by simpa [le] using HO.out,tC.refl _ _⟩
 case round=>
  obtain ⟨k,n2,c2,A2,hk,rfl,rfl,hl2,ho2,hb2⟩:=hrel;have HB2:=ae hb2;have hsz:lo≤wr.heap.size:=Nat.le_trans hlo hb2.size;have hn2:n2≤1000008:=by rw [←hl2,bJ,aA,HL.out];omega
  by_cases hlt:(k:Int)<(s:Int)
  ·have yR:=ae (NR z k (by omega));have Lp:=ae (World.ownsRow.alloc ho2 (.cells #[Value.int .u8 (IntKind.u64.wrap z / 2 ^ (8*k)%256)] 5));have HL2:=ae hl2;obtain ⟨b2,YX⟩:∃b,bs++le z k=b:=⟨_,rfl⟩;rw [YX] at Lp HL2;have Xw:=ae YX;clear hb2 ho2 hl2 YX;go_wp2_with (at_builtin;go_must (refine wpList_append_own_at _ rfl _ _ 22 rfl lo 5 i0 (.int .u8 0) 1 1 Tryz.underlying22 HI.out HZ0.out HZ1.out HZ2.out rfl (by decide) _ n2 (b2.map Extern.Stop.cell) rfl Lp.out _ 1 1 [Value.int .u8 (IntKind.u64.wrap z / 2 ^ (8*k)%256)] rfl rfl (cell_one_new _ _ _) (uX _) (by unfold maxLen;omega) (by omega) (by simp;omega) ?_));intro v' w3 hown hg _ hat;have HW3:=ae (HB2.out.trans (tC.app hg (hat.imp id fun e=>e.trans (by simp))));obtain ⟨A',c',rfl⟩:=dY hown;have HOW:Hid (nJ lo w3 A' (n2+1) c' (bs++le z (k+1))):=ae (by
    unfold nJ;rw [EU,←List.append_assoc,Xw.out,List.map_append];show World.ownsRow _ _ _ _ _ _ (_++ [Extern.Stop.cell _]);rw [←yR.out];exact hown)
   clear hown hg hat;go_wp2_with fail;go_roundw
   case rel=>exact ⟨k+1,n2+1,c',A',by omega,rfl,by go_num,by have:=HL2.out;rw [←Xw.out] at this;rw [EU,←List.append_assoc,bJ,this];rfl,HOW.out,HW3.out⟩
   case measure=>simp [intOf];omega
  ·have HKS:Hid (k=s):=ae (by omega);have kW:=ae ho2;have HL2:=ae hl2;clear ho2 hl2 hb2;go_wp2_with fail;go_ret;exact ⟨_,n2,_,by rw [←HKS.out];exact HL2.out,rfl,by rw [←HKS.out];exact kW.out,HB2.out⟩
theorem YH (b:Bool) (w:World):Calls Tryz.prog 106 #[.bool b] w fun e w'=>e= .returned (I (LQ b))∧w'=w:=by
 cases b
 all_goals
  go_enter Tryz.func106,Tryz.ntmps106;go_wp2_with fail;go_ret;exact ⟨rfl,rfl⟩
def U3 (r:Lr):List UInt8:=le r.every 2++(le r.rest 2++le (LQ r.yes) 1)
def vS (c:Cal):List UInt8:=le c.aN 4++(le c.au.length 1++(c.au.flatMap (le · 1)++(le (c.bu+1) 1++(le c.rules.length 1++c.rules.flatMap U3))))
structure C14 (c:Cal):Prop where
 ep:fits c.aN
 mo:c.au.length≤1000
 all:∀x∈c.au,fits x
 le: -1≤c.bu∧c.bu≤1000
 ru:c.rules.length≤1000
 rl:∀r∈c.rules,fits r.every∧fits r.rest
theorem pW {α β:Type} (f:α→List β) (l:List α) (k:Nat) (x:α) (hx:l[k]? =some x):(l.take (k+1)).flatMap f=(l.take k).flatMap f++f x:=by
 rw [List.take_add_one,hx,List.flatMap_append];simp
theorem iL {α β:Type} (f:α→List β) (l:List α) (s k:Nat) (h:∀x,(f x).length=s):((l.take k).flatMap f).length≤l.length*s:=by
 have e:∀m:List α,(m.flatMap f).length=m.length*s:=by
  intro m
  induction m with
  |nil=>simp
  |cons x m ih=>rw [List.flatMap_cons,bJ,h,ih,List.length_cons,Nat.succ_mul,Nat.add_comm]
 rw [e,List.length_take];exact Nat.mul_le_mul_right s (by omega)
theorem EX (r:Lr):(U3 r).length=5:=by simp [U3,aA]
structure CB (lo:Nat) (v0:Value) (w:World) (cs:Array Value) (bs:List UInt8) (A:Option Addr) (n c:Nat) (W:World):Prop where
 row:Row W w.heap.size cs
 own:nJ lo W A n c bs
 len:bs.length=n
 keep:tC v0 w (.slice A n c) W
 far:some w.heap.size≠(Value.slice A n c).ownBlock
theorem CB.start {lo n c:Nat} {A:Option Addr} {w:World} {bs:List UInt8} (cs:Array Value) (t:TypeId) (hO:nJ lo w A n c bs) (hl:bs.length=n):CB lo (.slice A n c) w cs bs A n c (w.alloc (.cells cs t)):=
 ⟨Row.new w cs t,nJ.below hO (ag w _),hl,(tC.refl _ w).below (ag w _),fun e=>by have:=(World.ownsRow.lt hO _ e.symm).2;omega⟩
theorem CB.next {lo n c n' c':Nat} {v0:Value} {A A':Option Addr} {w W W':World} {cs:Array Value} {bs bs':List UInt8} (h:CB lo v0 w cs bs A n c W) (hO:nJ lo W' A' n' c' bs') (hl:bs'.length=n') (hk:tC (.slice A n c) W (.slice A' n' c') W'):CB lo v0 w cs bs' A' n' c' W':=by
 have hlt:=h.row.1;refine ⟨⟨dR hlt hk.size,fun i=>(World.cell?_of_block (a:=⟨w.heap.size,i,none⟩) (hk.block _ hlt h.far)).trans (h.row.2 i)⟩,hO,hl,h.keep.trans hk,?_⟩;rcases hk.own with e|⟨b,e,hb⟩
 ·rw [e];exact h.far
 ·rw [e];intro h';injection h' with h';omega
theorem CB.low {lo n c n0 c0:Nat} {A A0:Option Addr} {w W:World} {cs:Array Value} {bs bs0:List UInt8} (h:CB lo (.slice A0 n0 c0) w cs bs A n c W) (hO:nJ lo w A0 n0 c0 bs0) (hlo:lo≤w.heap.size):Below lo w W:=h.keep.vZ (nJ.base hO) hlo
def FT (lo:Nat) (v0:Value) (w:World) (cs:Array Value) (pre:Nat→List UInt8) (m:Nat) (b i:Value) (wr:World):Prop:=
 ∃(k n c:Nat) (A:Option Addr),k≤m∧b= .slice A n c∧i= .int .i64 k∧CB lo v0 w cs (pre k) A n c wr
theorem Jy (lo n c0:Nat) (A0:Option Addr) (bs:List UInt8) (c:Cal) (A R:Option Addr) (a r:Nat) (w:World) (hl:bs.length=n) (hn:n≤100000) (hc:C14 c) (hm:nN w lo A R c) (hlo:lo≤w.heap.size) (hO:nJ lo w A0 n c0 bs):
  Calls Tryz.prog 90 #[.slice A0 n c0, .agg (aF c A a R r)] w (Xp lo (.slice A0 n c0) w (bs++vS c)):=by
 obtain ⟨ep,mo,lp,ru⟩:=c;obtain ⟨x0,x1,x2,x3,x4,x5⟩:=hc;obtain ⟨y0,y1⟩:=hm;simp only at x0 x1 x2 x3 x4 x5 y0 y1;unfold aF;simp only;obtain ⟨nm,hnm⟩:∃n,mo.length=n:=⟨_,rfl⟩;obtain ⟨nr,hnr⟩:∃n,ru.length=n:=⟨_,rfl⟩;have FM:=ae (fun k=>iL (le · 1) mo 1 k (fun _=>aA _ _));have FR:=ae (fun k=>iL U3 ru 5 k EX);have uJ:=ae x2;have xq:=ae x5;have HY0:=ae y0;have PT:=ae y1;have zY:=ae hO;have SS:=ae hnm;have ZY:=ae hnr;rw [hnm] at x1 FM ⊢;rw [hnr] at x4 FR ⊢;have HB:=ae (CB.start #[I ep, .slice A nm a,I lp, .slice R nr r] 47 hO hl);have wl:IntKind.i64.wrap (lp+1)=lp+1:=by rw [IntKind.wrap_i64];omega
 clear x2 x5 y0 y1 hO hnm hnr;go_enter Tryz.func90,Tryz.ntmps90;go_wp2_with fail;refine (dS lo _ _ 4 _ _ ep _ HB.out.len (by have h:=HB.out.len;(try simp only [bJ,aA] at h);omega) (by omega) x0 (Nat.le_trans hlo HB.out.keep.size) HB.out.own).mono ?_;rintro e w1 ⟨A1,n1,c1,l1,rfl,o1,k1⟩;have H1:=ae (HB.out.next o1 l1 k1);clear l1 o1 k1;have q0:(w1).cell? ⟨w.heap.size,0,none⟩=some (I ep):=H1.out.row.2 0;have q1:(w1).cell? ⟨w.heap.size,1,none⟩=some (.slice A nm a):=H1.out.row.2 1;have q2:(w1).cell? ⟨w.heap.size,2,none⟩=some (I lp):=H1.out.row.2 2;have q3:(w1).cell? ⟨w.heap.size,3,none⟩=some (.slice R nr r):=H1.out.row.2 3;go_wp2_with fail;refine (dS lo _ _ 1 _ _ nm _ H1.out.len (by have h:=H1.out.len;(try simp only [bJ,aA] at h);omega) (by omega) ⟨by omega,by omega⟩ (Nat.le_trans hlo H1.out.keep.size) H1.out.own).mono ?_;rintro e w2 ⟨A2,n2,c2,l1,rfl,o1,k1⟩;have H2:=ae (H1.out.next o1 l1 k1);clear l1 o1 k1;clear q0 q1 q2 q3;have q0:(w2).cell? ⟨w.heap.size,0,none⟩=some (I ep):=H2.out.row.2 0;have q1:(w2).cell? ⟨w.heap.size,1,none⟩=some (.slice A nm a):=H2.out.row.2 1;have q2:(w2).cell? ⟨w.heap.size,2,none⟩=some (I lp):=H2.out.row.2 2;have q3:(w2).cell? ⟨w.heap.size,3,none⟩=some (.slice R nr r):=H2.out.row.2 3;go_wp2_with fail
 go_loopw [0,5] (fun b i wr=>FT lo (.slice A0 n c0) w #[I ep, .slice A nm a,I lp, .slice R nr r] (fun k=>bs++le ep 4++le nm 1++(mo.take k).flatMap (le · 1)) nm b i wr) (fun _ i _=>nm - (intOf i).toNat)
 case atStart=>exact ⟨0,n2,c2,A2,Nat.zero_le _,rfl,by go_num,by simpa using H2.out⟩
 case round=>
  obtain ⟨k,n3,c3,A3,hk,rfl,rfl,hb3⟩:=hrel;have HB3:=ae hb3;clear hb3 q0 q1 q2 q3;have q0:(wr).cell? ⟨w.heap.size,0,none⟩=some (I ep):=HB3.out.row.2 0;have q1:(wr).cell? ⟨w.heap.size,1,none⟩=some (.slice A nm a):=HB3.out.row.2 1;have q2:(wr).cell? ⟨w.heap.size,2,none⟩=some (I lp):=HB3.out.row.2 2;have q3:(wr).cell? ⟨w.heap.size,3,none⟩=some (.slice R nr r):=HB3.out.row.2 3;by_cases hlt:(k:Int)<(nm:Int)
  ·obtain ⟨b,off,rfl,nD,hcl⟩:=(HY0.out.keep (HB3.out.low zY.out hlo)).there (by rw [List.length_map,SS.out];omega);have hx:mo[k]? =some (mo[k]'(by rw [SS.out];omega)):=dE _;obtain ⟨x,hxx⟩:∃x,mo[k]'(by rw [SS.out];omega)=x:=⟨_,rfl⟩;rw [hxx] at hx;have v0:wr.cell? ⟨b,off+k,none⟩=some (I x):=hcl k _ (by rw [List.getElem?_map,hx];rfl);have HX:=ae hx;have hfx:=uJ.out x (fK hx);clear hcl hx hxx;go_wp2_with fail;refine (dS lo _ _ 1 _ _ x _ HB3.out.len (by have h:=HB3.out.len;have g:=FM.out k;(try simp only [bJ,aA] at h);omega) (by omega) hfx (Nat.le_trans hlo HB3.out.keep.size) HB3.out.own).mono ?_;rintro e w4 ⟨A4,n4,c4,l1,rfl,o1,k1⟩;have H4:=ae (HB3.out.next o1 l1 k1);clear l1 o1 k1;go_wp2_with fail;go_roundw
   case rel=>exact ⟨k+1,n4,c4,A4,by omega,rfl,by go_num,by show CB _ _ _ _ (_++(mo.take (k+1)).flatMap (le · 1)) _ _ _ _;rw [pW _ _ _ _ HX.out,←List.append_assoc];exact H4.out⟩
   case measure=>simp [intOf];omega
  ·have hk2:k=nm:=by omega
   subst hk2;clear hlt;go_wp2_with fail;refine (dS lo _ _ 1 _ _ (lp+1) _ HB3.out.len (by have h:=HB3.out.len;have g:=FM.out k;(try simp only [bJ,aA] at h);omega) (by omega) ⟨by omega,by omega⟩ (Nat.le_trans hlo HB3.out.keep.size) HB3.out.own).mono ?_;rintro e w5 ⟨A5,n5,c5,l1,rfl,o1,k1⟩;have H5:=ae (HB3.out.next o1 l1 k1);clear l1 o1 k1;clear q0 q1 q2 q3;have q0:(w5).cell? ⟨w.heap.size,0,none⟩=some (I ep):=H5.out.row.2 0;have q1:(w5).cell? ⟨w.heap.size,1,none⟩=some (.slice A k a):=H5.out.row.2 1;have q2:(w5).cell? ⟨w.heap.size,2,none⟩=some (I lp):=H5.out.row.2 2;have q3:(w5).cell? ⟨w.heap.size,3,none⟩=some (.slice R nr r):=H5.out.row.2 3;go_wp2_with fail;refine (dS lo _ _ 1 _ _ nr _ H5.out.len (by have h:=H5.out.len;have g:=FM.out k;(try simp only [bJ,aA] at h);omega) (by omega) ⟨by omega,by omega⟩ (Nat.le_trans hlo H5.out.keep.size) H5.out.own).mono ?_;rintro e w6 ⟨A6,n6,c6,l1,rfl,o1,k1⟩;have H6:=ae (H5.out.next o1 l1 k1);clear l1 o1 k1;clear q0 q1 q2 q3;have q0:(w6).cell? ⟨w.heap.size,0,none⟩=some (I ep):=H6.out.row.2 0;have q1:(w6).cell? ⟨w.heap.size,1,none⟩=some (.slice A k a):=H6.out.row.2 1;have q2:(w6).cell? ⟨w.heap.size,2,none⟩=some (I lp):=H6.out.row.2 2;have q3:(w6).cell? ⟨w.heap.size,3,none⟩=some (.slice R nr r):=H6.out.row.2 3;go_wp2_with fail
   go_loopw [0,6] (fun b i wr=>FT lo (.slice A0 n c0) w #[I ep, .slice A k a,I lp, .slice R nr r] (fun j=>(bs++le ep 4++le k 1++(mo.take k).flatMap (le · 1))++le (lp+1) 1++le nr 1++(ru.take j).flatMap U3) nr b i wr) (fun _ i _=>nr - (intOf i).toNat)
   case atStart=>exact ⟨0,n6,c6,A6,Nat.zero_le _,rfl,by go_num,by simpa using H6.out⟩
   case round=>
    obtain ⟨j,n7,c7,A7,hj,rfl,rfl,hb7⟩:=hrel;have qp:=ae hb7;clear hb7 q0 q1 q2 q3;have q0:(wr).cell? ⟨w.heap.size,0,none⟩=some (I ep):=qp.out.row.2 0;have q1:(wr).cell? ⟨w.heap.size,1,none⟩=some (.slice A k a):=qp.out.row.2 1;have q2:(wr).cell? ⟨w.heap.size,2,none⟩=some (I lp):=qp.out.row.2 2;have q3:(wr).cell? ⟨w.heap.size,3,none⟩=some (.slice R nr r):=qp.out.row.2 3;by_cases hlt:(j:Int)<(nr:Int)
    ·obtain ⟨b,off,rfl,nD,hcl⟩:=PT.out.there (by rw [dJ (s:=3) Lr.cells ru (fun _ _=>rfl),ZY.out];omega);have hx:ru[j]? =some (ru[j]'(by rw [ZY.out];omega)):=dE _;obtain ⟨x,hxx⟩:∃x,ru[j]'(by rw [ZY.out];omega)=x:=⟨_,rfl⟩;rw [hxx] at hx;have Dt:Hid (∀i u,x.cells[i]? =some u→w.cell? ⟨b,off+j*3+i,none⟩=some u):=ae (fun i u hu=>by rw [Nat.add_assoc];exact hcl _ _ (by rw [flat_get (s:=3) Lr.cells ru (fun _ _=>rfl) j i x hx (by have:=(iU.1 hu).1;simpa [Lr.cells] using this)];exact hu));have HX:=ae hx;have hfx:=xq.out x (fK hx);clear hcl hx hxx;have z0:(wr).cell? ⟨b,off+j*3,none⟩=some (I x.every):=((qp.out.low zY.out hlo).cell (p:=⟨b,off+j*3,none⟩) nD).trans (Dt.out 0 _ rfl);have z1:(wr).cell? ⟨b,off+j*3+1,none⟩=some (I x.rest):=((qp.out.low zY.out hlo).cell (p:=⟨b,off+j*3+1,none⟩) nD).trans (Dt.out 1 _ rfl);have z2:(wr).cell? ⟨b,off+j*3+2,none⟩=some (.bool x.yes):=((qp.out.low zY.out hlo).cell (p:=⟨b,off+j*3+2,none⟩) nD).trans (Dt.out 2 _ rfl);go_wp2_with fail;refine (dS lo _ _ 2 _ _ x.every _ qp.out.len (by have h:=qp.out.len;have g:=FM.out k;have g2:=FR.out j;(try simp only [bJ,aA] at h);omega) (by omega) hfx.1 (Nat.le_trans hlo qp.out.keep.size) qp.out.own).mono ?_;rintro e w8 ⟨A8,n8,c8,l1,rfl,o1,k1⟩;have H8:=ae (qp.out.next o1 l1 k1);clear l1 o1 k1;clear q0 q1 q2 q3 z0 z1 z2;have q0:(w8).cell? ⟨w.heap.size,0,none⟩=some (I ep):=H8.out.row.2 0;have q1:(w8).cell? ⟨w.heap.size,1,none⟩=some (.slice A k a):=H8.out.row.2 1;have q2:(w8).cell? ⟨w.heap.size,2,none⟩=some (I lp):=H8.out.row.2 2;have q3:(w8).cell? ⟨w.heap.size,3,none⟩=some (.slice (some ⟨b,off,none⟩) nr r):=H8.out.row.2 3;have z0:(w8).cell? ⟨b,off+j*3,none⟩=some (I x.every):=((H8.out.low zY.out hlo).cell (p:=⟨b,off+j*3,none⟩) nD).trans (Dt.out 0 _ rfl);have z1:(w8).cell? ⟨b,off+j*3+1,none⟩=some (I x.rest):=((H8.out.low zY.out hlo).cell (p:=⟨b,off+j*3+1,none⟩) nD).trans (Dt.out 1 _ rfl);have z2:(w8).cell? ⟨b,off+j*3+2,none⟩=some (.bool x.yes):=((H8.out.low zY.out hlo).cell (p:=⟨b,off+j*3+2,none⟩) nD).trans (Dt.out 2 _ rfl);go_wp2_with fail;refine (dS lo _ _ 2 _ _ x.rest _ H8.out.len (by have h:=H8.out.len;have g:=FM.out k;have g2:=FR.out j;(try simp only [bJ,aA] at h);omega) (by omega) hfx.2 (Nat.le_trans hlo H8.out.keep.size) H8.out.own).mono ?_;rintro e w9 ⟨A9,n9,c9,l1,rfl,o1,k1⟩;have H9:=ae (H8.out.next o1 l1 k1);clear l1 o1 k1;clear q0 q1 q2 q3 z0 z1 z2;have q0:(w9).cell? ⟨w.heap.size,0,none⟩=some (I ep):=H9.out.row.2 0;have q1:(w9).cell? ⟨w.heap.size,1,none⟩=some (.slice A k a):=H9.out.row.2 1;have q2:(w9).cell? ⟨w.heap.size,2,none⟩=some (I lp):=H9.out.row.2 2;have q3:(w9).cell? ⟨w.heap.size,3,none⟩=some (.slice (some ⟨b,off,none⟩) nr r):=H9.out.row.2 3;have z0:(w9).cell? ⟨b,off+j*3,none⟩=some (I x.every):=((H9.out.low zY.out hlo).cell (p:=⟨b,off+j*3,none⟩) nD).trans (Dt.out 0 _ rfl);have z1:(w9).cell? ⟨b,off+j*3+1,none⟩=some (I x.rest):=((H9.out.low zY.out hlo).cell (p:=⟨b,off+j*3+1,none⟩) nD).trans (Dt.out 1 _ rfl);have z2:(w9).cell? ⟨b,off+j*3+2,none⟩=some (.bool x.yes):=((H9.out.low zY.out hlo).cell (p:=⟨b,off+j*3+2,none⟩) nD).trans (Dt.out 2 _ rfl);go_wp2_with fail;refine (YH x.yes _).mono ?_;rintro e wf ⟨rfl,rfl⟩;go_wp2_with fail;refine (dS lo _ _ 1 _ _ (LQ x.yes) _ H9.out.len (by have h:=H9.out.len;have g:=FM.out k;have g2:=FR.out j;(try simp only [bJ,aA] at h);omega) (by omega) (by unfold LQ;split<;>exact ⟨by omega,by omega⟩) (Nat.le_trans hlo H9.out.keep.size) H9.out.own).mono ?_;rintro e w10 ⟨A10,n10,c10,l1,rfl,o1,k1⟩;have Xu:=ae (H9.out.next o1 l1 k1);clear l1 o1 k1;go_wp2_with fail;go_roundw
     case rel=>exact ⟨j+1,n10,c10,A10,by omega,rfl,by go_num,by show CB _ _ _ _ (_++(ru.take (j+1)).flatMap U3) _ _ _ _;rw [pW _ _ _ _ HX.out,←List.append_assoc];simpa [U3,List.append_assoc] using Xu.out⟩
     case measure=>simp [intOf];omega
    ·have hj2:j=nr:=by omega
     have HJ:=ae hj2;clear hj2;go_wp2_with fail;go_ret;have hb:=qp.out;rw [HJ.out,List.take_of_length_le (Nat.le_of_eq ZY.out),List.take_of_length_le (Nat.le_of_eq SS.out)] at hb;refine ⟨A7,n7,c7,?_,rfl,?_,hb.keep⟩
     ·rw [←hb.len];simp [vS,SS.out,ZY.out,List.append_assoc]
     ·have:=hb.own;simpa [vS,SS.out,ZY.out,List.append_assoc] using this
theorem CB.fresh (w:World) (cs:Array Value) (t:TypeId):CB w.heap.size (.slice none 0 0) w cs [] (some ⟨w.heap.size+1,0,none⟩) 0 0 ((w.alloc (.cells cs t)).alloc (.cells #[] 5)):=by
 have hb:Below w.heap.size w ((w.alloc (.cells cs t)).alloc (.cells #[] 5)):=ah (ag w _) (ag _ _);have ho:=gU (w.alloc (.cells cs t)) 5 1;refine ⟨(Row.new w cs t).keep (ag _ _),nJ.lower (lo:=w.heap.size+1) (by simpa [nJ] using ho) (by omega),rfl,⟨hb.os,hb.tape,hb.output,hb.size,fun k hk _=>hb.block k hk, .inr ⟨w.heap.size+1,rfl,by omega⟩⟩,fun e=>?_⟩;have h:w.heap.size=w.heap.size+1:=Option.some.inj e;omega
theorem take_snoc {α:Type} (l:List α) (k:Nat) (x:α) (hx:l[k]? =some x):l.take (k+1)=l.take k++ [x]:=by
 rw [List.take_add_one,hx];rfl
theorem CB.grown {lo n c n' c':Nat} {v0:Value} {A A':Option Addr} {w W W':World} {o:Obj} {cs:Array Value} {bs bs':List UInt8} (h:CB lo v0 w cs bs A n c W) (hO:nJ lo W' A' n' c' bs') (hl:bs'.length=n') (hg:(W.alloc o).grownBy W' (Value.slice A n c).ownBlock) (hat:(Value.slice A' n' c').ownBlock=(Value.slice A n c).ownBlock∨(Value.slice A' n' c').ownBlock=some (W.heap.size+1)):CB lo v0 w cs bs' A' n' c' W':=
 h.next hO hl (tC.app hg (hat.imp id fun e=>e.trans (by simp)))
theorem xA (d:List UInt8) (w:World) (hd:d.length=32):
  Calls Tryz.prog 67 #[.agg (az d).toArray] w (Xp w.heap.size (.slice none 0 0) w d):=by
 obtain ⟨i0,hi,hz0,hz1,hz2⟩:=info_parts mf;have HI:=ae hi;have HZ0:=ae hz0;have HZ1:=ae hz1;have HZ2:=ae hz2;clear hi hz0 hz1 hz2;have HF:=ae (CB.fresh w (az d).toArray 24);have HD:=ae hd;clear hd;go_enter Tryz.func67,Tryz.ntmps67;go_wp2_with fail
 go_loopw [3,4] (fun b i wr=>FT w.heap.size (.slice none 0 0) w (az d).toArray (fun k=>d.take k) 32 b i wr) (fun _ i _=>32 - (intOf i).toNat)
 case atStart=>exact ⟨0,0,0,_,Nat.zero_le _,rfl,by go_num,HF.out⟩
 case round=>
  obtain ⟨k,n,c,A,hk,rfl,rfl,hb⟩:=hrel;have HB:Hid (CB w.heap.size (.slice none 0 0) w (az d).toArray (d.take k) A n c wr):=ae hb;have hn:n=k:=by rw [←hb.len];show (d.take k).length=k;rw [List.length_take,HD.out];omega
  have hsz:w.heap.size≤wr.heap.size:=hb.keep.size;clear hb;subst hn;by_cases hlt:(n:Int)<32
  ·obtain ⟨x,hx⟩:∃x,d[n]? =some x:=⟨_,dE (by rw [HD.out];omega)⟩;have v0:wr.cell? ⟨w.heap.size,n,none⟩=some (.int .u8 (x.toNat:Int)):=by rw [HB.out.row.2 n,List.getElem?_toArray];unfold az;rw [List.getElem?_map,hx];rfl
   have HX:=ae hx;clear hx;obtain ⟨pre,hpre⟩:∃l,d.take n=l:=⟨_,rfl⟩;have Cf:=ae hpre;rw [hpre] at HB;clear hpre;have Lp:=ae (World.ownsRow.alloc HB.out.own (.cells #[Value.int .u8 (x.toNat:Int)] 5));go_wp2_with (at_builtin;go_must (refine wpList_append_own_at _ rfl _ _ 22 rfl w.heap.size 5 i0 (.int .u8 0) 1 1 Tryz.underlying22 HI.out HZ0.out HZ1.out HZ2.out rfl (by decide) _ n ((pre).map Extern.Stop.cell) rfl Lp.out _ 1 1 [Value.int .u8 (x.toNat:Int)] rfl rfl (cell_one_new _ _ _) (uX _) (by unfold maxLen;omega) (by omega) (by simp;omega) ?_));intro v' w3 hown hg _ hat;obtain ⟨A',c',rfl⟩:=dY hown;have H2:=ae (HB.out.grown (bs':=d.take (n+1)) (by unfold nJ;rw [take_snoc d n x HX.out,Cf.out,List.map_append];exact hown) (by rw [List.length_take,HD.out];omega) hg hat);clear hown hg hat;go_wp2_with fail;go_roundw
   case rel=>exact ⟨n+1,n+1,c',A',by omega,rfl,by go_num,H2.out⟩
   case measure=>simp [intOf];omega
  ·have HN:Hid (n=32):=ae (by omega);go_wp2_with fail;go_ret;have hb:=HB.out;rw [HN.out,List.take_of_length_le (Nat.le_of_eq HD.out)] at hb;have hn:=HN.out;subst hn;exact ⟨A,32,c,HD.out,rfl,hb.own,hb.keep⟩
def xb3 (m:Int) (x:UInt8):UInt8:=byteOf (bits BinOp.xor IntKind.u8 x.toNat m)
theorem Vy (x:UInt8) (m:Int):0≤bits BinOp.xor IntKind.u8 x.toNat m∧bits BinOp.xor IntKind.u8 x.toNat m<256:=by
 unfold bits;simp only [IntKind.wrap,IntKind.bits,IntKind.signed];constructor
 ·exact Int.emod_nonneg _ (by decide)
 ·exact Int.emod_lt_of_pos _ (by decide)
theorem Sz (m:Int) (x:UInt8):Extern.Stop.cell (xb3 m x)= .int .u8 (bits BinOp.xor IntKind.u8 x.toNat m):=by
 obtain ⟨h1,h2⟩:=Vy x m;unfold xb3;rw [iC];congr 1;omega
def vP (m:Int) (d:List UInt8):List UInt8:=d.map (xb3 m)++List.replicate 32 (byteOf m)
theorem rM (m:Int) (d:List UInt8) (h:d.length=32):(vP m d).length=64:=by simp [vP,h]
theorem Qj (m:Int) (h0:0≤m) (h1:m<256):Extern.Stop.cell (byteOf m)= .int .u8 m:=by
 rw [iC];congr 1;omega
theorem DF (m:Int) (d:List UInt8) (w:World) (hd:d.length=32) (h0:0≤m) (h1:m<256):
  Calls Tryz.prog 70 #[.agg (az d).toArray, .int .u8 m] w (Xp w.heap.size (.slice none 0 0) w (vP m d)):=by
 obtain ⟨i0,hi,hz0,hz1,hz2⟩:=info_parts mf;have HI:=ae hi;have HZ0:=ae hz0;have HZ1:=ae hz1;have HZ2:=ae hz2;clear hi hz0 hz1 hz2;have HF:=ae (CB.fresh w (az d).toArray 24);have HD:=ae hd;obtain ⟨xs,hxs⟩:∃l,d.map (xb3 m)=l:=⟨_,rfl⟩;have O8:Hid (xs.length=32):=ae (by rw [←hxs,List.length_map,hd]);have O9:=ae hxs;obtain ⟨ys,hys⟩:∃l,List.replicate 32 (byteOf m)=l:=⟨_,rfl⟩;have kX:Hid (ys.length=32):=ae (by rw [←hys,List.length_replicate]);have HYS:=ae hys;have HM:=ae (Qj m h0 h1);clear hd hxs hys;go_enter Tryz.func70,Tryz.ntmps70;go_wp2_with fail
 go_loopw [5,6] (fun b i wr=>FT w.heap.size (.slice none 0 0) w (az d).toArray (fun k=>xs.take k) 32 b i wr) (fun _ i _=>32 - (intOf i).toNat)
 case atStart=>exact ⟨0,0,0,_,Nat.zero_le _,rfl,by go_num,HF.out⟩
 case round=>
  obtain ⟨k,n,c,A,hk,rfl,rfl,hb⟩:=hrel;have HB:Hid (CB w.heap.size (.slice none 0 0) w (az d).toArray (xs.take k) A n c wr):=ae hb;have hn:n=k:=by rw [←hb.len];show (xs.take k).length=k;rw [List.length_take,O8.out];omega
  have hsz:w.heap.size≤wr.heap.size:=hb.keep.size;clear hb;subst hn;by_cases hlt:(n:Int)<32
  ·obtain ⟨x,hx⟩:∃x,d[n]? =some x:=⟨_,dE (by rw [HD.out];omega)⟩;have v0:wr.cell? ⟨w.heap.size,n,none⟩=some (.int .u8 (x.toNat:Int)):=by rw [HB.out.row.2 n,List.getElem?_toArray];unfold az;rw [List.getElem?_map,hx];rfl
   have HX:Hid (xs[n]? =some (xb3 m x)):=ae (by rw [←O9.out,List.getElem?_map,hx];rfl);have Wv:=ae (Sz m x);clear hx;obtain ⟨pre,hpre⟩:∃l,xs.take n=l:=⟨_,rfl⟩;have Cf:=ae hpre;rw [hpre] at HB;clear hpre;have Lp:=ae (World.ownsRow.alloc HB.out.own (.cells #[Value.int .u8 (bits BinOp.xor IntKind.u8 x.toNat m)] 5));go_wp2_with (at_builtin;go_must (refine wpList_append_own_at _ rfl _ _ 22 rfl w.heap.size 5 i0 (.int .u8 0) 1 1 Tryz.underlying22 HI.out HZ0.out HZ1.out HZ2.out rfl (by decide) _ n ((pre).map Extern.Stop.cell) rfl Lp.out _ 1 1 [Value.int .u8 (bits BinOp.xor IntKind.u8 x.toNat m)] rfl rfl (cell_one_new _ _ _) (uX _) (by unfold maxLen;omega) (by omega) (by simp;omega) ?_));intro v' w3 hown hg _ hat;obtain ⟨A',c',rfl⟩:=dY hown;have H2:=ae (HB.out.grown (bs':=xs.take (n+1)) (by unfold nJ;rw [take_snoc xs n _ HX.out,Cf.out,List.map_append];show World.ownsRow _ _ _ _ _ _ (_++ [Extern.Stop.cell _]);rw [Wv.out];exact hown) (by rw [List.length_take,O8.out];omega) hg hat);clear hown hg hat;go_wp2_with fail;go_roundw
   case rel=>exact ⟨n+1,n+1,c',A',by omega,rfl,by go_num,H2.out⟩
   case measure=>simp [intOf];omega
  ·have HN32:Hid (n=32):=ae (by omega);have HB3:Hid (CB w.heap.size (.slice none 0 0) w (az d).toArray (xs++ys.take 0) A n c wr):=ae (by have hb:=HB.out;rw [HN32.out,List.take_of_length_le (Nat.le_of_eq O8.out),←HN32.out] at hb;simpa using hb);go_wp2_with fail
   go_loopw [5,7] (fun b i wr=>FT w.heap.size (.slice none 0 0) w (az d).toArray (fun k=>xs++ys.take k) 32 b i wr) (fun _ i _=>32 - (intOf i).toNat)
   case atStart=>exact ⟨0,n,c,A,Nat.zero_le _,rfl,by go_num,HB3.out⟩
   case round=>
    clear HB HB3 hsz hk hlt;obtain ⟨k,n2,c,A,hk,rfl,rfl,hb⟩:=hrel;have HB:Hid (CB w.heap.size (.slice none 0 0) w (az d).toArray (xs++ys.take k) A n2 c wr):=ae hb;have hn:n2=32+k:=by rw [←hb.len];show (xs++ys.take k).length=32+k;rw [bJ,List.length_take,O8.out,kX.out];omega
    have hsz:w.heap.size≤wr.heap.size:=hb.keep.size;clear hb;subst hn;by_cases hlt:(k:Int)<32
    ·have HX:Hid (ys[k]? =some (byteOf m)):=ae (by rw [←HYS.out,List.getElem?_replicate,if_pos (by omega)]);obtain ⟨pre,hpre⟩:∃l,xs++ys.take k=l:=⟨_,rfl⟩;have Cf:=ae hpre;rw [hpre] at HB;clear hpre;have Lp:=ae (World.ownsRow.alloc HB.out.own (.cells #[Value.int .u8 m] 5));go_wp2_with (at_builtin;go_must (refine wpList_append_own_at _ rfl _ _ 22 rfl w.heap.size 5 i0 (.int .u8 0) 1 1 Tryz.underlying22 HI.out HZ0.out HZ1.out HZ2.out rfl (by decide) _ (32+k) ((pre).map Extern.Stop.cell) rfl Lp.out _ 1 1 [Value.int .u8 m] rfl rfl (cell_one_new _ _ _) (uX _) (by unfold maxLen;omega) (by omega) (by simp;omega) ?_));intro v' w3 hown hg _ hat;obtain ⟨A',c',rfl⟩:=dY hown;have H2:=ae (HB.out.grown (bs':=xs++ys.take (k+1)) (n':=32+k+1) (by unfold nJ;rw [take_snoc ys k _ HX.out,←List.append_assoc,Cf.out,List.map_append];show World.ownsRow _ _ _ _ _ _ (_++ [Extern.Stop.cell _]);rw [HM.out];exact hown) (by rw [bJ,List.length_take,O8.out,kX.out];omega) hg hat);clear hown hg hat;go_wp2_with fail;go_roundw
     case rel=>exact ⟨k+1,32+k+1,c',A',by omega,rfl,by go_num,H2.out⟩
     case measure=>simp [intOf];omega
    ·have HN:Hid (k=32):=ae (by omega);go_wp2_with fail;go_ret;have hb:=HB.out;have hk:=HN.out;subst hk;rw [List.take_of_length_le (Nat.le_of_eq kX.out),←O9.out,←HYS.out] at hb;exact ⟨A,64,c,rM m d HD.out,rfl,hb.own,hb.keep⟩
structure PB (v0:Value) (w:World) (bs:List UInt8) (A:Option Addr) (n c:Nat) (W:World):Prop where
 own:nJ w.heap.size W A n c bs
 len:bs.length=n
 keep:tC v0 w (.slice A n c) W
theorem PB.grown {n c n' c':Nat} {v0:Value} {A A':Option Addr} {w W W':World} {o:Obj} {bs bs':List UInt8} (h:PB v0 w bs A n c W) (hO:nJ w.heap.size W' A' n' c' bs') (hl:bs'.length=n') (hg:(W.alloc o).grownBy W' (Value.slice A n c).ownBlock) (hat:(Value.slice A' n' c').ownBlock=(Value.slice A n c).ownBlock∨(Value.slice A' n' c').ownBlock=some (W.heap.size+1)):PB v0 w bs' A' n' c' W':=
 ⟨hO,hl,h.keep.trans (tC.app hg (hat.imp id fun e=>e.trans (by simp)))⟩
def lenV:Value→Nat
 | .slice _ m _=>m
 |_=>0
def Oi (n:Nat):Nat:=(120 - (n+1)%64)%64
theorem Hu (n:Nat):(n+1+Oi n)%64=56:=by unfold Oi;omega
theorem MF (n:Nat):Oi n<64:=Nat.mod_lt _ (by omega)
def PadP (w:World) (n:Nat) (e:Ending) (w':World):Prop:=∃ps:List UInt8,ps.length=n+9+Oi n∧Xp w.heap.size (.slice none 0 0) w ps e w'
theorem PB.fresh {w W:World} {A:Option Addr} {n c:Nat} {bs:List UInt8} (h:nJ w.heap.size W A n c bs) (hl:bs.length=n) (hg:(w.alloc (.cells #[] 5)).grownBy W (some w.heap.size)) (hat:(Value.slice A n c).ownBlock=some w.heap.size∨(Value.slice A n c).ownBlock=some (w.heap.size+1)):PB (.slice none 0 0) w bs A n c W:=by
 refine ⟨h,hl,hg.os,hg.tape,hg.output,Nat.le_trans (by simp) hg.size,fun k hk _=>(hg.block k (by simp;omega) (fun e=>by injection e;omega)).trans (Below.heap_alloc w _ k hk), .inr ?_⟩;rcases hat with e|e
 ·exact ⟨_,e,by omega⟩
 ·exact ⟨_,e,by omega⟩
theorem Rl (n c:Nat) (A:Option Addr) (bs:List UInt8) (w:World) (hl:bs.length=n) (h0:0<n) (hn:n≤200000) (hb:aB w w.heap.size A (bs.map Extern.Stop.cell)):
  Calls Tryz.prog 91 #[.slice A n c] w (PadP w n):=by
 obtain ⟨i0,hi,hz0,hz1,hz2⟩:=info_parts mf;have HI:=ae hi;have HZ0:=ae hz0;have HZ1:=ae hz1;have HZ2:=ae hz2;clear hi hz0 hz1 hz2;obtain ⟨b,off,rfl,nD,hcl⟩:=hb.there (by rw [List.length_map];omega);have hb0:∀j u,(bs.map Extern.Stop.cell)[j]? =some u→(w.alloc (.cells #[] 5)).cell? ((⟨b,off,none⟩:Addr).add j)=some u:=lS hb;have HB0:=ae hb0;have HE:=ae (gU w 5 1);have HL:=ae hl;have Nv:Hid ((bs.map Extern.Stop.cell).length=n*1):=ae (by rw [List.length_map,hl,Nat.mul_one]);have uG:Hid (∀u∈bs.map Extern.Stop.cell,u.oneCell'=true):=ae (fun u hu=>by obtain ⟨x,_,rfl⟩:=List.mem_map.1 hu;rfl);clear hb0 hcl hb hl;go_enter Tryz.func91,Tryz.ntmps91;go_wp2_with (at_builtin;go_must (refine wpList_append_own_at _ rfl _ _ 22 rfl w.heap.size 5 i0 (.int .u8 0) 1 1 Tryz.underlying22 HI.out HZ0.out HZ1.out HZ2.out rfl (by decide) _ 0 [] rfl HE.out ⟨b,off,none⟩ n c (bs.map Extern.Stop.cell) rfl Nv.out HB0.out uG.out (by unfold maxLen;omega) (by omega) (by simp) ?_));intro v' w1 hown hg _ hat;obtain ⟨A1,c1,rfl⟩:=dY hown;have H1:Hid (PB (.slice none 0 0) w bs A1 n c1 w1):=ae (PB.fresh (by unfold nJ;simpa using hown) HL.out hg hat);have hsz:w.heap.size≤w1.heap.size:=H1.out.keep.size;clear hown hg hat;have Lp:=ae (World.ownsRow.alloc H1.out.own (.cells #[Value.int .u8 128] 5));go_wp2_with (at_builtin;go_must (refine wpList_append_own_at _ rfl _ _ 22 rfl w.heap.size 5 i0 (.int .u8 0) 1 1 Tryz.underlying22 HI.out HZ0.out HZ1.out HZ2.out rfl (by decide) _ n ((bs).map Extern.Stop.cell) rfl Lp.out _ 1 1 [Value.int .u8 128] rfl rfl (cell_one_new _ _ _) (uX _) (by unfold maxLen;omega) (by omega) (by simp;omega) ?_));intro v' w2 hown hg _ hat;obtain ⟨A2,c2,rfl⟩:=dY hown;have H2:=ae (H1.out.grown (bs':=bs++ [128]) (by unfold nJ;rw [List.map_append];exact hown) (by rw [bJ,HL.out];rfl) hg hat);clear hown hg hat;have hpl:=MF n;have SY:=ae (Hu n);obtain ⟨p,hp⟩:∃p,Oi n=p:=⟨_,rfl⟩;have HP:=ae hp;rw [hp] at hpl SY;clear hp hsz;go_wp2_with fail
 go_loopw [3] (fun b wr=>∃k n2 c A,k≤p∧n2=n+1+k∧b= .slice A n2 c∧PB (.slice none 0 0) w (bs++ [128]++List.replicate k 0) A n2 c wr) (fun b _=>n+1+p - lenV b)
 case atStart=>exact ⟨0,n+1,c2,A2,Nat.zero_le _,rfl,rfl,by simpa using H2.out⟩
 case round=>
  obtain ⟨k,n2,c3,A3,hk,hn2,rfl,hb⟩:=hrel;have HB:=ae hb;have hsz:w.heap.size≤wr.heap.size:=hb.keep.size;clear hb;have ht:((n2:Int)).tmod 64=((n2%64:Nat):Int):=by rw [Int.tmod_eq_emod_of_nonneg (by omega)];rfl
  obtain ⟨q,hq⟩:∃q,n2%64=q:=⟨_,rfl⟩;rw [hq] at ht;have ht2:((n2:Int))%64=(q:Int):=by omega
  have hkp:q≠56→k<p:=by
   intro hqe;have:=SY.out;rcases Nat.lt_or_ge k p with h|h
   ·exact h
   ·have e:k=p:=by omega
    subst e;subst hn2;omega
  have HN2:=ae hn2;have hn2b:n2≤n+64:=by omega
  clear hn2 hq;by_cases hqe:q=56
  ·subst hqe;go_wp2_with fail;have H4:Hid (∃ps:List UInt8,ps.length=n2∧PB (.slice none 0 0) w ps A3 n2 c3 wr):=ae ⟨_,HB.out.len,HB.out⟩;have HQE:Hid (n2%64=56):=ae (by omega);have HN5:Hid (n2=n+1+p):=ae (by
    have h1:=HN2.out;have h2:=SY.out;have h3:=HQE.out;omega)
   clear HB hkp hsz ht ht2 hk
   go_loopw [3,5] (fun b i wr=>∃(j n3 c:Nat) (A:Option Addr) (ps:List UInt8),j≤8∧n3=n2+j∧b= .slice A n3 c∧i= .int .i64 (7 - (j:Int))∧ps.length=n3∧PB (.slice none 0 0) w ps A n3 c wr) (fun _ i _=>(intOf i+1).toNat)
   case atStart=>exact H4.out.elim fun ps h=>⟨0,n2,c3,A3,ps,Nat.zero_le _,rfl,rfl,by go_num,h.1,h.2⟩
   case round=>
    obtain ⟨j,n3,c4,A4,ps,hj,hn3,rfl,rfl,hpl2,hb⟩:=hrel;have HB:=ae hb;have HN3:=ae hn3;have SX:=ae hpl2;have hsz:w.heap.size≤wr.heap.size:=hb.keep.size;have hn3b:n3≤n+80:=by omega
    clear hb hn3 hpl2;by_cases hlt:j<8
    ·obtain ⟨i,hi⟩:∃i:Int,7 - (j:Int)=i:=⟨_,rfl⟩;have hi0:0≤i:=by omega
     have hi1:i≤7:=by omega
     have HIJ:=ae hi;rw [hi];clear hi;have HBC:=ae (iC (8*(n:Int) / 2 ^ (8*i).toNat));have Lp:=ae (World.ownsRow.alloc HB.out.own (.cells #[Value.int .u8 (8*(n:Int) / 2 ^ (8*i).toNat%256)] 5));go_wp2_with (at_builtin;go_must (refine wpList_append_own_at _ rfl _ _ 22 rfl w.heap.size 5 i0 (.int .u8 0) 1 1 Tryz.underlying22 HI.out HZ0.out HZ1.out HZ2.out rfl (by decide) _ n3 ((ps).map Extern.Stop.cell) rfl Lp.out _ 1 1 [Value.int .u8 (8*(n:Int) / 2 ^ (8*i).toNat%256)] rfl rfl (cell_one_new _ _ _) (uX _) (by unfold maxLen;omega) (by omega) (by simp;omega) ?_));intro v' w3 hown hg _ hat;obtain ⟨A',c',rfl⟩:=dY hown;have H5:=ae (HB.out.grown (bs':=ps++ [byteOf (8*(n:Int) / 2 ^ (8*i).toNat)]) (n':=n3+1) (by unfold nJ;rw [List.map_append];show World.ownsRow _ _ _ _ _ _ (_++ [Extern.Stop.cell _]);rw [HBC.out];exact hown) (by rw [bJ,SX.out];rfl) hg hat);clear hown hg hat;go_wp2_with fail;go_roundw
     case rel=>exact ⟨j+1,n3+1,c',A',_,by omega,by have:=HN3.out;omega,rfl,by have:=HIJ.out;congr 1;omega,H5.out.len,H5.out⟩
     case measure=>simp [intOf];omega
    ·have HJ:Hid (j=8):=ae (by omega);have hz:7 - (j:Int)<0:=by omega
     have HN8:Hid (n3=n+9+p):=ae (by have:=HN3.out;have:=HN5.out;have:=HJ.out;omega);go_wp2_with fail;go_ret;exact ⟨ps,by rw [SX.out,HN8.out,HP.out],A4,n3,c4,SX.out,rfl,HB.out.own,HB.out.keep⟩
  ·have hne:((q:Int) !=56)=true:=by rw [bne_iff_ne];omega
   have hkp2:=hkp hqe;clear hkp;obtain ⟨pre,hpre⟩:∃l:List UInt8,bs++ [128]++List.replicate k 0=l:=⟨_,rfl⟩;have Cf:=ae hpre;rw [hpre] at HB;clear hpre;have Lp:=ae (World.ownsRow.alloc HB.out.own (.cells #[Value.int .u8 0] 5));go_wp2_with (at_builtin;go_must (refine wpList_append_own_at _ rfl _ _ 22 rfl w.heap.size 5 i0 (.int .u8 0) 1 1 Tryz.underlying22 HI.out HZ0.out HZ1.out HZ2.out rfl (by decide) _ n2 ((pre).map Extern.Stop.cell) rfl Lp.out _ 1 1 [Value.int .u8 0] rfl rfl (cell_one_new _ _ _) (uX _) (by unfold maxLen;omega) (by omega) (by simp;omega) ?_));intro v' w3 hown hg _ hat;obtain ⟨A',c',rfl⟩:=dY hown;have H3:=ae (HB.out.grown (bs':=bs++ [128]++List.replicate (k+1) 0) (n':=n2+1) (by unfold nJ;rw [List.replicate_succ',←List.append_assoc,Cf.out,List.map_append];exact hown) (by have:=HN2.out;simp [HL.out];omega) hg hat);clear hown hg hat;go_wp2_with fail;go_roundw
   case rel=>exact ⟨k+1,n2+1,c',A',by omega,by have:=HN2.out;omega,rfl,H3.out⟩
   case measure=>have:=HN2.out;simp [lenV];omega
end Go.Proofs.YtdibbemgpikgjaaGreat
