/- The texts Jm, Kn, Ko, Kp, in this order. -/
import Derived.Test.YtbaehbbonkljpaaGreatDoorT13
set_option maxRecDepth 10000
set_option maxHeartbeats 8000000
namespace Go.Proofs.YtbaehbbonkljpaaGreatDoor
open Go Go.RowKit
theorem aa9 (z:Zn)(s:Zs)(w:ae)(h:N7 w w.heap.size s z):Calls Tryz.prog 50 #[.agg (JV z s)] w (Gives (I (VH z)) w):=by
 have HO:Hid (∀w',ai w.heap.size w w'->Calls Tryz.prog 71 #[.agg (JV z s)] w' fun e w2=>(∃v,e=.returned (.tuple #[v,.bool (ZW z)]))/\ai w'.heap.size w' w2):=JJ fun w' hb=>as6 z s w' (h.grow hb);have HR0:=JJ (Row.new w (JV z s) 69);have HB0:=JJ (JM w (.cells (JV z s) 69));obtain⟨m,hmm⟩:∃m,z.trans.length=m:=⟨_,rfl⟩;have e0:JV z s= #[I z.cal.KI,.slice s.A z.cal.JQ.length s.a,I z.cal.Lm,.slice s.B z.cal.rules.length s.b,I z.start,.slice s.C m s.c,I z.hor,.slice s.D z.J6.length s.d]:=by unfold JV;rw[hmm]
 rw[e0] at HO HR0 HB0⊢;obtain⟨ok,hok⟩:∃b,ZW z=b:=⟨_,rfl⟩;rw[hok] at HO;have HF:Hid (VH z=if 512<m then 2 else if ok=true then 0 else 1):=JJ (by unfold VH;rw[hmm,hok]);rw[HF.out];clear h e0 hmm hok HF;by_cases hT:512<m
 ·rw[bD hT];have hT1:(512:Int)<(m:Int):=by omega
  go_enter Tryz.func50,Tryz.ntmps50;go_wp2_with fail;go_ret;exact⟨rfl,HB0.out⟩
 ·rw[bP hT];have hT1:¬(512:Int)<(m:Int):=by omega
  cases ok with
  |true=>
   rw[bD rfl];go_enter Tryz.func50,Tryz.ntmps50;go_wp2_with fail;refine(HO.out _ HB0.out).mono ?_;rintro e w1 ⟨⟨b,rfl⟩,hb1⟩;have HB1:=JJ (JL HB0.out hb1);clear hb1;go_wp2_with fail;go_ret;exact⟨rfl,HB1.out⟩
  |false=>
   rw[bP (by decide)];go_enter Tryz.func50,Tryz.ntmps50;go_wp2_with fail;refine(HO.out _ HB0.out).mono ?_;rintro e w1 ⟨⟨b,rfl⟩,hb1⟩;have HB1:=JJ (JL HB0.out hb1);clear hb1;go_wp2_with fail;go_ret;exact⟨rfl,HB1.out⟩
def Rh (lo:Nat)(w:ae)(A:aj Addr)(n c:Nat)(bs:ag au):Prop:=w.ownsRow lo 5 1 (.slice A n c) n (bs.map Extern.Stop.cell)
structure Vu (v:ah)(w:ae)(v':ah)(w':ae):Prop where
 os:w'.os=w.os
 tape:w'.tape=w.tape
 output:w'.output=w.output
 size:w.heap.size<=w'.heap.size
 block:∀k,k<w.heap.size->some k≠v.ownBlock->w'.heap[k]? =w.heap[k]?
 own:v'.ownBlock=v.ownBlock\/∃b,v'.ownBlock=some b/\w.heap.size<=b
theorem Vu.refl (v:ah)(w:ae):Vu v w v w:=⟨rfl,rfl,rfl,ay _,fun _ _ _=>rfl,.inl rfl⟩
theorem Vu.trans {v v1 v2:ah}{w w1 w2:ae}(h:Vu v w v1 w1)(k:Vu v1 w1 v2 w2):Vu v w v2 w2:=by
 refine⟨k.os.trans h.os,k.tape.trans h.tape,k.output.trans h.output,aO h.size k.size,fun b hb hv=>?_,?_⟩
 ·refine(k.block b (LK hb h.size) ?_).trans (h.block b hb hv);rcases h.own with e|⟨b1,e,hb1⟩
  ·rw[e];exact hv
  ·rw[e];intro h';injection h' with h';omega
 ·rcases k.own with e|⟨b,e,hb⟩
  ·rcases h.own with e1|⟨b1,e1,hb1⟩
   ·exact .inl (e.trans e1)
   ·exact .inr ⟨b1,e.trans e1,hb1⟩
  ·exact .inr ⟨b,e,aO h.size hb⟩
theorem Vu.below {v v':ah}{w w' w2:ae}(h:Vu v w v' w')(hb:ai w'.heap.size w' w2):Vu v w v' w2:=
 ⟨hb.os.trans h.os,hb.tape.trans h.tape,hb.output.trans h.output,aO h.size hb.size,fun k hk hv=>(hb.block k (LK hk h.size)).trans (h.block k hk hv),h.own⟩
theorem Vu.app {w w3:ae}{v v':ah}{o:Obj}(hg:(w.alloc o).grownBy w3 v.ownBlock)(hat:v'.ownBlock=v.ownBlock\/v'.ownBlock=some (w.alloc o).heap.size):Vu v w v' w3:=
 ⟨hg.os,hg.tape,hg.output,aO (by simp) hg.size,fun k hk hv=>(hg.block k (by simp;omega) hv).trans (aV w o k hk),hat.elim .inl fun e=>.inr ⟨_,e,by simp⟩⟩
theorem Vu.VL {lo:Nat}{v v':ah}{w w':ae}(h:Vu v w v' w')(hv:∀g,v.ownBlock=some g->lo<=g)(hlo:lo<=w.heap.size):ai lo w w':=
 ⟨h.os,h.tape,h.output,h.size,fun k hk=>h.block k (by omega) (fun e=>by have:=hv k e.symm;omega)⟩
def BsQ (lo:Nat)(v:ah)(w:ae)(bs:ag au)(e:Ending)(w':ae):Prop:=∃A n c,bs.length=n/\e=.returned (.slice A n c)/\Rh lo w' A n c bs/\Vu v w (.slice A n c) w'
theorem Rh.base {lo n c:Nat}{w:ae}{A:aj Addr}{bs:ag au}(h:Rh lo w A n c bs):∀g,(Value.slice A n c).ownBlock=some g->lo<=g:=fun g hg=>(dU h g hg).1
theorem Rh.below {lo n c:Nat}{w w':ae}{A:aj Addr}{bs:ag au}(h:Rh lo w A n c bs)(hb:ai w.heap.size w w'):Rh lo w' A n c bs:=
 lM (row:=none) h ⟨hb.os,hb.tape,hb.output,hb.size,fun k hk _=>hb.block k hk⟩ (by cases (Value.slice A n c).ownBlock<;>simp)
theorem Rh.lower {lo lo' n c:Nat}{w:ae}{A:aj Addr}{bs:ag au}(h:Rh lo w A n c bs)(hl:lo'<=lo):Rh lo' w A n c bs:=by
 rcases h.2 with h2|⟨g,cap,cur,h1,h2,h3⟩
 ·exact⟨h.1,.inl h2⟩
 ·exact⟨h.1,.inr ⟨g,cap,cur,h1,aO hl h2,h3⟩⟩
theorem aid (z:Int)(j:Nat)(hj:j<8):Value.int .u8 (IntKind.u64.wrap z / 2 ^ (8*j)%256)=Extern.Stop.cell (byteOf (PM z j)):=by
 rw[LH];have h:j=0\/j=1\/j=2\/j=3\/j=4\/j=5\/j=6\/j=7:=by omega
 congr 1;rw[show IntKind.u64.wrap z=z%18446744073709551616 by simp[IntKind.wrap,IntKind.bits,IntKind.signed]];rcases h with rfl|rfl|rfl|rfl|rfl|rfl|rfl|rfl<;>simp only[PM]
 ·show z%18446744073709551616 / 1%256=_;omega
 ·show z%18446744073709551616 / 256%256=_;omega
 ·show z%18446744073709551616 / 65536%256=_;omega
 ·show z%18446744073709551616 / 16777216%256=_;omega
 ·show z%18446744073709551616 / 4294967296%256=_;omega
 ·show z%18446744073709551616 / 1099511627776%256=_;omega
 ·show z%18446744073709551616 / 281474976710656%256=_;omega
 ·show z%18446744073709551616 / 72057594037927936%256=_;omega
theorem WG (x:Int):∀u∈ [Value.int .u8 x],u.oneCell'=true:=fun u hu=>by rw[aY.1 hu];rfl
def ag5 (b:Bool):Int:=if b=true then 1 else 0
def azP (lo:Nat)(v:ah)(w:ae)(bs:ag au)(z:Int)(s:Nat)(b i:ah)(wr:ae):Prop:=
 ∃(k n c:Nat) (A:aj Addr),k<=s/\b=.slice A n c/\i=.int .i64 k/\(bs++le z k).length=n/\Rh lo wr A n c (bs++le z k)/\Vu v w (.slice A n c) wr
theorem L8 (lo n c s:Nat)(A:aj Addr)(bs:ag au)(z:Int)(w:ae)(hl:bs.length=n)(hn:n<=1000000)(hs:s<=8)(hz:fits z)(hlo:lo<=w.heap.size)(hO:Rh lo w A n c bs):
  Calls Tryz.prog 52 #[.slice A n c,I z,I s] w (BsQ lo (.slice A n c) w (bs++le z s)):=by
 obtain⟨i0,hi,hz0,hz1,hz2⟩:=dN Qb;have HI:=JJ hi;have HZ0:=JJ hz0;have HZ1:=JJ hz1;have HZ2:=JJ hz2;have HO:=JJ hO;have HL:=JJ hl;have HFZ:=JJ hz;clear hi hz0 hz1 hz2 hO hl hz;go_enter Tryz.func52,Tryz.ntmps52;go_wp2_with fail
 go_loopw [0,8] (fun b i wr=>azP lo (.slice A n c) w bs z s b i wr) (fun _ i _=>s - (intOf i).toNat)
 case atStart=>exact⟨0,n,c,A,aG _,rfl,by go_num,by simpa[le] using HL.out,by simpa[le] using HO.out,Vu.refl _ _⟩
 case round=>
  obtain⟨k,n2,c2,A2,hk,rfl,rfl,hl2,ho2,hb2⟩:=hrel;have HB2:=JJ hb2;have hsz:lo<=wr.heap.size:=aO hlo hb2.size;have hn2:n2<=1000008:=by rw[<-hl2,KN,J4,HL.out];omega
  by_cases hlt:(k:Int)<(s:Int)
  ·have SY:=JJ (aid z k (by omega));have HOA:=JJ (fO ho2 (.cells #[Value.int .u8 (IntKind.u64.wrap z / 2 ^ (8*k)%256)] 5));have HL2:=JJ hl2;obtain⟨b2,arW⟩:∃b,bs++le z k=b:=⟨_,rfl⟩;rw[arW] at HOA HL2;have HBE:=JJ arW;clear hb2 ho2 hl2 arW;go_wp2_with(at_builtin;refine bK _ rfl _ _ 55 rfl lo 5 i0 (.int .u8 0) 1 1 bC HI.out HZ0.out HZ1.out HZ2.out rfl (by decide) _ n2 (b2.map Extern.Stop.cell) rfl HOA.out _ 1 1 [Value.int .u8 (IntKind.u64.wrap z / 2 ^ (8*k)%256)] rfl rfl (jk _ _ _) (WG _) (by unfold maxLen;omega) (by omega) (by simp;omega) ?_);intro v' w3 hown hg _ hat;have HW3:=JJ (HB2.out.trans (Vu.app hg (hat.imp id fun e=>e.trans (by simp))));obtain⟨A',c',rfl⟩:=LU hown;have HOW:Hid (Rh lo w3 A' (n2+1) c' (bs++le z (k+1))):=JJ (by
    unfold Rh;rw[acp,<-aH,HBE.out,bY];show World.ownsRow _ _ _ _ _ _ (_++ [Extern.Stop.cell _]);rw[<-SY.out];exact hown)
   clear hown hg hat;go_wp2_with fail;go_roundw
   case rel=>exact⟨k+1,n2+1,c',A',by omega,rfl,by go_num,by have:=HL2.out;rw[<-HBE.out] at this;rw[acp,<-aH,KN,this];rfl,HOW.out,HW3.out⟩
   case measure=>simp[intOf];omega
  ·have HKS:Hid (k=s):=JJ (by omega);have SI:=JJ ho2;have HL2:=JJ hl2;clear ho2 hl2 hb2;go_wp2_with fail;go_ret;exact⟨_,n2,_,by rw[<-HKS.out];exact HL2.out,rfl,by rw[<-HKS.out];exact SI.out,HB2.out⟩
theorem arI (b:Bool)(w:ae):Calls Tryz.prog 92 #[.bool b] w fun e w'=>e=.returned (I (ag5 b))/\w'=w:=by
 cases b
 all_goals
  go_enter Tryz.func92,Tryz.ntmps92;go_wp2_with fail;go_ret;exact⟨rfl,rfl⟩
def lrB (r:Lr):ag au:=le r.every 2++(le r.rest 2++le (ag5 r.yes) 1)
def UH (c:Cal):ag au:=le c.KI 4++(le c.JQ.length 1++(c.JQ.flatMap (le · 1)++(le (c.Lm+1) 1++(le c.rules.length 1++c.rules.flatMap lrB))))
structure C14 (c:Cal):Prop where
 ep:fits c.KI
 mo:c.JQ.length<=1000
 all:∀x∈c.JQ,fits x
 le: -1<=c.Lm/\c.Lm<=1000
 ru:c.rules.length<=1000
 rl:∀r∈c.rules,fits r.every/\fits r.rest
theorem TP {α β:Type}(f:α->ag β)(l:ag α)(k:Nat)(x:α)(hx:l[k]? =some x):(l.take (k+1)).flatMap f=(l.take k).flatMap f++f x:=by
 rw[ji,hx,eG];simp
theorem MJ {α β:Type}(f:α->ag β)(l:ag α)(s k:Nat)(h:∀x,(f x).length=s):((l.take k).flatMap f).length<=l.length*s:=by
 have e:∀m:ag α,(m.flatMap f).length=m.length*s:=by
  intro m
  induction m with
  |nil=>simp
  |cons x m ih=>rw[dI,KN,h,ih,bG,kJ,kP]
 rw[e,bn];exact nJ s (by omega)
theorem YW (r:Lr):(lrB r).length=5:=by simp[lrB,J4]
structure CB (lo:Nat)(v0:ah)(w:ae)(cs:ax ah)(bs:ag au)(A:aj Addr)(n c:Nat)(W:ae):Prop where
 row:Row W w.heap.size cs
 own:Rh lo W A n c bs
 len:bs.length=n
 keep:Vu v0 w (.slice A n c) W
 far:some w.heap.size≠(Value.slice A n c).ownBlock
theorem CB.start {lo n c:Nat}{A:aj Addr}{w:ae}{bs:ag au}(cs:ax ah)(t:TypeId)(hO:Rh lo w A n c bs)(hl:bs.length=n):CB lo (.slice A n c) w cs bs A n c (w.alloc (.cells cs t)):=
 ⟨Row.new w cs t,Rh.below hO (JM w _),hl,(Vu.refl _ w).below (JM w _),fun e=>by have:=(dU hO _ e.symm).2;omega⟩
theorem CB.next {lo n c n' c':Nat}{v0:ah}{A A':aj Addr}{w W W':ae}{cs:ax ah}{bs bs':ag au}(h:CB lo v0 w cs bs A n c W)(hO:Rh lo W' A' n' c' bs')(hl:bs'.length=n')(hk:Vu (.slice A n c) W (.slice A' n' c') W'):CB lo v0 w cs bs' A' n' c' W':=by
 have hlt:=h.row.1;refine⟨⟨LK hlt hk.size,fun i=>(bI (a:=⟨w.heap.size,i,none⟩) (hk.block _ hlt h.far)).trans (h.row.2 i)⟩,hO,hl,h.keep.trans hk,?_⟩;rcases hk.own with e|⟨b,e,hb⟩
 ·rw[e];exact h.far
 ·rw[e];intro h';injection h' with h';omega
theorem CB.low {lo n c n0 c0:Nat}{A A0:aj Addr}{w W:ae}{cs:ax ah}{bs bs0:ag au}(h:CB lo (.slice A0 n0 c0) w cs bs A n c W)(hO:Rh lo w A0 n0 c0 bs0)(hlo:lo<=w.heap.size):ai lo w W:=h.keep.VL (Rh.base hO) hlo
def adi (lo:Nat)(v0:ah)(w:ae)(cs:ax ah)(pre:Nat->ag au)(m:Nat)(b i:ah)(wr:ae):Prop:=
 ∃(k n c:Nat) (A:aj Addr),k<=m/\b=.slice A n c/\i=.int .i64 k/\CB lo v0 w cs (pre k) A n c wr
theorem afz (lo n c0:Nat)(A0:aj Addr)(bs:ag au)(c:Cal)(A R:aj Addr)(a r:Nat)(w:ae)(hl:bs.length=n)(hn:n<=900000)(hc:C14 c)(hm:Rw w lo A R c)(hlo:lo<=w.heap.size)(hO:Rh lo w A0 n c0 bs):
  Calls Tryz.prog 72 #[.slice A0 n c0,.agg (J7 c A a R r)] w (BsQ lo (.slice A0 n c0) w (bs++UH c)):=by
 obtain⟨ep,mo,lp,ru⟩:=c;obtain⟨x0,x1,x2,x3,x4,x5⟩:=hc;obtain⟨y0,y1⟩:=hm;simp only at x0 x1 x2 x3 x4 x5 y0 y1;unfold J7;simp only;obtain⟨nm,hnm⟩:∃n,mo.length=n:=⟨_,rfl⟩;obtain⟨nr,hnr⟩:∃n,ru.length=n:=⟨_,rfl⟩;have FM:=JJ (fun k=>MJ (le · 1) mo 1 k (fun _=>J4 _ _));have FR:=JJ (fun k=>MJ lrB ru 5 k YW);have HX2:=JJ x2;have Ui:=JJ x5;have HY0:=JJ y0;have HY1:=JJ y1;have Zb:=JJ hO;have HNM:=JJ hnm;have HNR:=JJ hnr;rw[hnm] at x1 FM⊢;rw[hnr] at x4 FR⊢;have HB:=JJ (CB.start #[I ep,.slice A nm a,I lp,.slice R nr r] 65 hO hl);have wl:IntKind.i64.wrap (lp+1)=lp+1:=by rw[aA];omega
 clear x2 x5 y0 y1 hO hnm hnr;go_enter Tryz.func72,Tryz.ntmps72;go_wp2_with fail;refine(L8 lo _ _ 4 _ _ ep _ HB.out.len (by have h:=HB.out.len;(try simp only[KN,J4] at h);omega) (by omega) x0 (aO hlo HB.out.keep.size) HB.out.own).mono ?_;rintro e w1 ⟨A1,n1,c1,l1,rfl,o1,k1⟩;have H1:=JJ (HB.out.next o1 l1 k1);clear l1 o1 k1;have q0:(w1).cell? ⟨w.heap.size,0,none⟩=some (I ep):=H1.out.row.2 0;have q1:(w1).cell? ⟨w.heap.size,1,none⟩=some (.slice A nm a):=H1.out.row.2 1;have q2:(w1).cell? ⟨w.heap.size,2,none⟩=some (I lp):=H1.out.row.2 2;have q3:(w1).cell? ⟨w.heap.size,3,none⟩=some (.slice R nr r):=H1.out.row.2 3;go_wp2_with fail;refine(L8 lo _ _ 1 _ _ nm _ H1.out.len (by have h:=H1.out.len;(try simp only[KN,J4] at h);omega) (by omega) ⟨by omega,by omega⟩ (aO hlo H1.out.keep.size) H1.out.own).mono ?_;rintro e w2 ⟨A2,n2,c2,l1,rfl,o1,k1⟩;have H2:=JJ (H1.out.next o1 l1 k1);clear l1 o1 k1;clear q0 q1 q2 q3;have q0:(w2).cell? ⟨w.heap.size,0,none⟩=some (I ep):=H2.out.row.2 0;have q1:(w2).cell? ⟨w.heap.size,1,none⟩=some (.slice A nm a):=H2.out.row.2 1;have q2:(w2).cell? ⟨w.heap.size,2,none⟩=some (I lp):=H2.out.row.2 2;have q3:(w2).cell? ⟨w.heap.size,3,none⟩=some (.slice R nr r):=H2.out.row.2 3;go_wp2_with fail
 go_loopw [0,5] (fun b i wr=>adi lo (.slice A0 n c0) w #[I ep,.slice A nm a,I lp,.slice R nr r] (fun k=>bs++le ep 4++le nm 1++(mo.take k).flatMap (le · 1)) nm b i wr) (fun _ i _=>nm - (intOf i).toNat)
 case atStart=>exact⟨0,n2,c2,A2,aG _,rfl,by go_num,by simpa using H2.out⟩
 case round=>
  obtain⟨k,n3,c3,A3,hk,rfl,rfl,hb3⟩:=hrel;have HB3:=JJ hb3;clear hb3 q0 q1 q2 q3;have q0:(wr).cell? ⟨w.heap.size,0,none⟩=some (I ep):=HB3.out.row.2 0;have q1:(wr).cell? ⟨w.heap.size,1,none⟩=some (.slice A nm a):=HB3.out.row.2 1;have q2:(wr).cell? ⟨w.heap.size,2,none⟩=some (I lp):=HB3.out.row.2 2;have q3:(wr).cell? ⟨w.heap.size,3,none⟩=some (.slice R nr r):=HB3.out.row.2 3;by_cases hlt:(k:Int)<(nm:Int)
  ·obtain⟨b,off,rfl,Rl,hcl⟩:=(HY0.out.keep (HB3.out.low Zb.out hlo)).there (by rw[aI,HNM.out];omega);have hx:mo[k]? =some (mo[k]'(by rw[HNM.out];omega)):=KL _;obtain⟨x,hxx⟩:∃x,mo[k]'(by rw[HNM.out];omega)=x:=⟨_,rfl⟩;rw[hxx] at hx;have v0:wr.cell? ⟨b,off+k,none⟩=some (I x):=hcl k _ (by rw[aJ,hx];rfl);have HX:=JJ hx;have hfx:=HX2.out x (LQ hx);clear hcl hx hxx;go_wp2_with fail;refine(L8 lo _ _ 1 _ _ x _ HB3.out.len (by have h:=HB3.out.len;have g:=FM.out k;(try simp only[KN,J4] at h);omega) (by omega) hfx (aO hlo HB3.out.keep.size) HB3.out.own).mono ?_;rintro e w4 ⟨A4,n4,c4,l1,rfl,o1,k1⟩;have H4:=JJ (HB3.out.next o1 l1 k1);clear l1 o1 k1;go_wp2_with fail;go_roundw
   case rel=>exact⟨k+1,n4,c4,A4,by omega,rfl,by go_num,by show CB _ _ _ _ (_++(mo.take (k+1)).flatMap (le · 1)) _ _ _ _;rw[TP _ _ _ _ HX.out,<-aH];exact H4.out⟩
   case measure=>simp[intOf];omega
  ·have hk2:k=nm:=by omega
   subst hk2;clear hlt;go_wp2_with fail;refine(L8 lo _ _ 1 _ _ (lp+1) _ HB3.out.len (by have h:=HB3.out.len;have g:=FM.out k;(try simp only[KN,J4] at h);omega) (by omega) ⟨by omega,by omega⟩ (aO hlo HB3.out.keep.size) HB3.out.own).mono ?_;rintro e w5 ⟨A5,n5,c5,l1,rfl,o1,k1⟩;have H5:=JJ (HB3.out.next o1 l1 k1);clear l1 o1 k1;clear q0 q1 q2 q3;have q0:(w5).cell? ⟨w.heap.size,0,none⟩=some (I ep):=H5.out.row.2 0;have q1:(w5).cell? ⟨w.heap.size,1,none⟩=some (.slice A k a):=H5.out.row.2 1;have q2:(w5).cell? ⟨w.heap.size,2,none⟩=some (I lp):=H5.out.row.2 2;have q3:(w5).cell? ⟨w.heap.size,3,none⟩=some (.slice R nr r):=H5.out.row.2 3;go_wp2_with fail;refine(L8 lo _ _ 1 _ _ nr _ H5.out.len (by have h:=H5.out.len;have g:=FM.out k;(try simp only[KN,J4] at h);omega) (by omega) ⟨by omega,by omega⟩ (aO hlo H5.out.keep.size) H5.out.own).mono ?_;rintro e w6 ⟨A6,n6,c6,l1,rfl,o1,k1⟩;have H6:=JJ (H5.out.next o1 l1 k1);clear l1 o1 k1;clear q0 q1 q2 q3;have q0:(w6).cell? ⟨w.heap.size,0,none⟩=some (I ep):=H6.out.row.2 0;have q1:(w6).cell? ⟨w.heap.size,1,none⟩=some (.slice A k a):=H6.out.row.2 1;have q2:(w6).cell? ⟨w.heap.size,2,none⟩=some (I lp):=H6.out.row.2 2;have q3:(w6).cell? ⟨w.heap.size,3,none⟩=some (.slice R nr r):=H6.out.row.2 3;go_wp2_with fail
   go_loopw [0,6] (fun b i wr=>adi lo (.slice A0 n c0) w #[I ep,.slice A k a,I lp,.slice R nr r] (fun j=>(bs++le ep 4++le k 1++(mo.take k).flatMap (le · 1))++le (lp+1) 1++le nr 1++(ru.take j).flatMap lrB) nr b i wr) (fun _ i _=>nr - (intOf i).toNat)
   case atStart=>exact⟨0,n6,c6,A6,aG _,rfl,by go_num,by simpa using H6.out⟩
   case round=>
    obtain⟨j,n7,c7,A7,hj,rfl,rfl,hb7⟩:=hrel;have Uf:=JJ hb7;clear hb7 q0 q1 q2 q3;have q0:(wr).cell? ⟨w.heap.size,0,none⟩=some (I ep):=Uf.out.row.2 0;have q1:(wr).cell? ⟨w.heap.size,1,none⟩=some (.slice A k a):=Uf.out.row.2 1;have q2:(wr).cell? ⟨w.heap.size,2,none⟩=some (I lp):=Uf.out.row.2 2;have q3:(wr).cell? ⟨w.heap.size,3,none⟩=some (.slice R nr r):=Uf.out.row.2 3;by_cases hlt:(j:Int)<(nr:Int)
    ·obtain⟨b,off,rfl,Rl,hcl⟩:=HY1.out.there (by rw[KW (s:=3) Lr.cells ru (fun _ _=>rfl),HNR.out];omega);have hx:ru[j]? =some (ru[j]'(by rw[HNR.out];omega)):=KL _;obtain⟨x,hxx⟩:∃x,ru[j]'(by rw[HNR.out];omega)=x:=⟨_,rfl⟩;rw[hxx] at hx;have HRC:Hid (∀i u,x.cells[i]? =some u->w.cell? ⟨b,off+j*3+i,none⟩=some u):=JJ (fun i u hu=>by rw[fE];exact hcl _ _ (by rw[flat_get (s:=3) Lr.cells ru (fun _ _=>rfl) j i x hx (by have:=(MF.1 hu).1;simpa[Lr.cells] using this)];exact hu));have HX:=JJ hx;have hfx:=Ui.out x (LQ hx);clear hcl hx hxx;have z0:(wr).cell? ⟨b,off+j*3,none⟩=some (I x.every):=((Uf.out.low Zb.out hlo).cell (p:=⟨b,off+j*3,none⟩) Rl).trans (HRC.out 0 _ rfl);have z1:(wr).cell? ⟨b,off+j*3+1,none⟩=some (I x.rest):=((Uf.out.low Zb.out hlo).cell (p:=⟨b,off+j*3+1,none⟩) Rl).trans (HRC.out 1 _ rfl);have z2:(wr).cell? ⟨b,off+j*3+2,none⟩=some (.bool x.yes):=((Uf.out.low Zb.out hlo).cell (p:=⟨b,off+j*3+2,none⟩) Rl).trans (HRC.out 2 _ rfl);go_wp2_with fail;refine(L8 lo _ _ 2 _ _ x.every _ Uf.out.len (by have h:=Uf.out.len;have g:=FM.out k;have g2:=FR.out j;(try simp only[KN,J4] at h);omega) (by omega) hfx.1 (aO hlo Uf.out.keep.size) Uf.out.own).mono ?_;rintro e w8 ⟨A8,n8,c8,l1,rfl,o1,k1⟩;have H8:=JJ (Uf.out.next o1 l1 k1);clear l1 o1 k1;clear q0 q1 q2 q3 z0 z1 z2;have q0:(w8).cell? ⟨w.heap.size,0,none⟩=some (I ep):=H8.out.row.2 0;have q1:(w8).cell? ⟨w.heap.size,1,none⟩=some (.slice A k a):=H8.out.row.2 1;have q2:(w8).cell? ⟨w.heap.size,2,none⟩=some (I lp):=H8.out.row.2 2;have q3:(w8).cell? ⟨w.heap.size,3,none⟩=some (.slice (some ⟨b,off,none⟩) nr r):=H8.out.row.2 3;have z0:(w8).cell? ⟨b,off+j*3,none⟩=some (I x.every):=((H8.out.low Zb.out hlo).cell (p:=⟨b,off+j*3,none⟩) Rl).trans (HRC.out 0 _ rfl);have z1:(w8).cell? ⟨b,off+j*3+1,none⟩=some (I x.rest):=((H8.out.low Zb.out hlo).cell (p:=⟨b,off+j*3+1,none⟩) Rl).trans (HRC.out 1 _ rfl);have z2:(w8).cell? ⟨b,off+j*3+2,none⟩=some (.bool x.yes):=((H8.out.low Zb.out hlo).cell (p:=⟨b,off+j*3+2,none⟩) Rl).trans (HRC.out 2 _ rfl);go_wp2_with fail;refine(L8 lo _ _ 2 _ _ x.rest _ H8.out.len (by have h:=H8.out.len;have g:=FM.out k;have g2:=FR.out j;(try simp only[KN,J4] at h);omega) (by omega) hfx.2 (aO hlo H8.out.keep.size) H8.out.own).mono ?_;rintro e w9 ⟨A9,n9,c9,l1,rfl,o1,k1⟩;have H9:=JJ (H8.out.next o1 l1 k1);clear l1 o1 k1;clear q0 q1 q2 q3 z0 z1 z2;have q0:(w9).cell? ⟨w.heap.size,0,none⟩=some (I ep):=H9.out.row.2 0;have q1:(w9).cell? ⟨w.heap.size,1,none⟩=some (.slice A k a):=H9.out.row.2 1;have q2:(w9).cell? ⟨w.heap.size,2,none⟩=some (I lp):=H9.out.row.2 2;have q3:(w9).cell? ⟨w.heap.size,3,none⟩=some (.slice (some ⟨b,off,none⟩) nr r):=H9.out.row.2 3;have z0:(w9).cell? ⟨b,off+j*3,none⟩=some (I x.every):=((H9.out.low Zb.out hlo).cell (p:=⟨b,off+j*3,none⟩) Rl).trans (HRC.out 0 _ rfl);have z1:(w9).cell? ⟨b,off+j*3+1,none⟩=some (I x.rest):=((H9.out.low Zb.out hlo).cell (p:=⟨b,off+j*3+1,none⟩) Rl).trans (HRC.out 1 _ rfl);have z2:(w9).cell? ⟨b,off+j*3+2,none⟩=some (.bool x.yes):=((H9.out.low Zb.out hlo).cell (p:=⟨b,off+j*3+2,none⟩) Rl).trans (HRC.out 2 _ rfl);go_wp2_with fail;refine(arI x.yes _).mono ?_;rintro e wf ⟨rfl,rfl⟩;go_wp2_with fail;refine(L8 lo _ _ 1 _ _ (ag5 x.yes) _ H9.out.len (by have h:=H9.out.len;have g:=FM.out k;have g2:=FR.out j;(try simp only[KN,J4] at h);omega) (by omega) (by unfold ag5;split<;>exact⟨by omega,by omega⟩) (aO hlo H9.out.keep.size) H9.out.own).mono ?_;rintro e w10 ⟨A10,n10,c10,l1,rfl,o1,k1⟩;have H10:=JJ (H9.out.next o1 l1 k1);clear l1 o1 k1;go_wp2_with fail;go_roundw
     case rel=>exact⟨j+1,n10,c10,A10,by omega,rfl,by go_num,by show CB _ _ _ _ (_++(ru.take (j+1)).flatMap lrB) _ _ _ _;rw[TP _ _ _ _ HX.out,<-aH];simpa[lrB,List.append_assoc] using H10.out⟩
     case measure=>simp[intOf];omega
    ·have hj2:j=nr:=by omega
     have HJ:=JJ hj2;clear hj2;go_wp2_with fail;go_ret;have hb:=Uf.out;rw[HJ.out,aU (iT HNR.out),aU (iT HNM.out)] at hb;refine⟨A7,n7,c7,?_,rfl,?_,hb.keep⟩
     ·rw[<-hb.len];simp[UH,HNM.out,HNR.out,List.append_assoc]
     ·have:=hb.own;simpa[UH,HNM.out,HNR.out,List.append_assoc] using this
def trE (t:Tr):ag au:=le t.at_ 8++le t.off 2
def yrE (y:Yr):ag au:=le y.month 1++(le y.La 1++(le y.Lh 1++(le y.minute 2++le y.off 2)))
def ac2 (z:Zn):ag au:=UH z.cal++(le z.start 2++(le z.trans.length 2++(z.trans.flatMap trE++(le z.hor 8++(le z.J6.length 1++z.J6.flatMap yrE)))))
structure Y14 (y:Yr):Prop where
 month:fits y.month
 La:fits y.La
 Lh:fits y.Lh
 minute:fits y.minute
 off:fits y.off
structure Z14 (z:Zn):Prop where
 cal:C14 z.cal
 start:fits z.start
 tl:z.trans.length<=1000
 tr:∀x∈z.trans,fits x.at_/\fits x.off
 hor:fits z.hor
 yl:z.J6.length<=1000
 yr:∀y∈z.J6,Y14 y
theorem acL (t:Tr):(trE t).length=10:=by simp[trE,J4]
theorem acY (y:Yr):(yrE y).length=7:=by simp[yrE,J4]
theorem aif (c:Cal)(h:C14 c):(UH c).length<=7000:=by
 have g:=MJ (le · 1) c.JQ 1 c.JQ.length (fun _=>J4 _ _);have g2:=MJ lrB c.rules 5 c.rules.length YW;rw[jB] at g g2;have h1:=h.mo;have h2:=h.ru;simp only[UH,KN,J4];omega
theorem CB.grow {lo n c:Nat}{v0:ah}{A:aj Addr}{w W W':ae}{cs:ax ah}{bs:ag au}(h:CB lo v0 w cs bs A n c W)(hb:ai W.heap.size W W'):CB lo v0 w cs bs A n c W':=
 ⟨h.row.keep hb,Rh.below h.own hb,h.len,h.keep.below hb,h.far⟩
theorem CB.Tc {lo n c:Nat}{v0:ah}{A:aj Addr}{w W:ae}{cs:ax ah}{bs:ag au}(h:CB lo v0 w cs bs A n c W)(b:Nat)(hb:W.heap.size<=b):some b≠(Value.slice A n c).ownBlock:=fun e=>by have:=(dU h.own _ e.symm).2;omega
def amX (b:Nat)(cs:ax ah)(v:ah)(W:ae):Prop:=Row W b cs/\some b≠v.ownBlock
theorem amX.next {b:Nat}{cs:ax ah}{v v':ah}{W W':ae}(h:amX b cs v W)(hk:Vu v W v' W'):amX b cs v' W':=by
 have hlt:=h.1.1;refine⟨⟨LK hlt hk.size,fun i=>(bI (a:=⟨b,i,none⟩) (hk.block _ hlt h.2)).trans (h.1.2 i)⟩,?_⟩;rcases hk.own with e|⟨g,e,hb⟩
 ·rw[e];exact h.2
 ·rw[e];intro h';injection h' with h';omega
theorem amq (lo n c0:Nat)(A0:aj Addr)(bs:ag au)(z:Zn)(s:Zs)(w:ae)(hl:bs.length=n)(hn:n<=800000)(hc:Z14 z)(hm:N7 w lo s z)(hlo:lo<=w.heap.size)(hO:Rh lo w A0 n c0 bs):
  Calls Tryz.prog 53 #[.slice A0 n c0,.agg (JV z s)] w (BsQ lo (.slice A0 n c0) w (bs++ac2 z)):=by
 have XB:Hid (Calls Tryz.prog 72 #[.slice A0 n c0,.agg (J7 z.cal s.A s.a s.B s.b)] (w.alloc (.cells (JV z s) 69)) (BsQ lo (.slice A0 n c0) (w.alloc (.cells (JV z s) 69)) (bs++UH z.cal))):=JJ (afz lo n c0 A0 bs z.cal s.A s.B s.a s.b _ hl (by omega) hc.cal ⟨(hm.JQ.keep ((JM w _).mono hlo)),(hm.rules.keep ((JM w _).mono hlo))⟩ (by simp;omega) (Rh.below hO (JM w _)));have hcb:=aif z.cal hc.cal;obtain⟨cb,arY⟩:∃l,UH z.cal=l:=⟨_,rfl⟩;rw[arY] at XB hcb;obtain⟨⟨ep,mo,lp,ru⟩,st,tr,ho,yr⟩:=z;obtain⟨A,a,R,r,C,cc,D,dd⟩:=s;obtain⟨_,x1,x2,x3,x4,x5,x6⟩:=hc;obtain⟨_,_,y0,y1⟩:=hm;simp only at x1 x2 x3 x4 x5 x6 y0 y1;unfold ac2;rw[arY];unfold JV J7 at XB;unfold JV;simp only at XB⊢;obtain⟨nm,hnm⟩:∃n,mo.length=n:=⟨_,rfl⟩;obtain⟨nr,hnr⟩:∃n,ru.length=n:=⟨_,rfl⟩;obtain⟨nt,hnt⟩:∃n,tr.length=n:=⟨_,rfl⟩;obtain⟨ny,hny⟩:∃n,yr.length=n:=⟨_,rfl⟩;have FM:=JJ (fun k=>MJ trE tr 10 k acL);have FR:=JJ (fun k=>MJ yrE yr 7 k acY);have Xz:=JJ x3;have HX6:=JJ x6;have HY0:=JJ y0;have HY1:=JJ y1;have Zb:=JJ hO;have HNT:=JJ hnt;have HNY:=JJ hny;rw[hnm,hnr] at XB⊢;rw[hnt] at x2 FM XB⊢;rw[hny] at x5 FR XB⊢;have HB:=JJ (CB.start #[I ep,.slice A nm a,I lp,.slice R nr r,I st,.slice C nt cc,I ho,.slice D ny dd] 69 hO hl);clear x3 x6 y0 y1 hO hnm hnr hnt hny arY;go_enter Tryz.func53,Tryz.ntmps53;go_wp2_with fail;refine XB.out.mono ?_;rintro e w0 ⟨A1,n1,c1,l1,rfl,o1,k1⟩;have H0:=JJ (HB.out.next o1 l1 k1);clear l1 o1 k1 XB;have q0:(w0).cell? ⟨w.heap.size,0,none⟩=some (I ep):=H0.out.row.2 0;have q1:(w0).cell? ⟨w.heap.size,1,none⟩=some (.slice A nm a):=H0.out.row.2 1;have q2:(w0).cell? ⟨w.heap.size,2,none⟩=some (I lp):=H0.out.row.2 2;have q3:(w0).cell? ⟨w.heap.size,3,none⟩=some (.slice R nr r):=H0.out.row.2 3;have q4:(w0).cell? ⟨w.heap.size,4,none⟩=some (I st):=H0.out.row.2 4;have q5:(w0).cell? ⟨w.heap.size,5,none⟩=some (.slice C nt cc):=H0.out.row.2 5;have q6:(w0).cell? ⟨w.heap.size,6,none⟩=some (I ho):=H0.out.row.2 6;have q7:(w0).cell? ⟨w.heap.size,7,none⟩=some (.slice D ny dd):=H0.out.row.2 7;go_wp2_with fail;refine(L8 lo _ _ 2 _ _ st _ H0.out.len (by have h:=H0.out.len;(try simp only[KN] at h);omega) (by omega) x1 (aO hlo H0.out.keep.size) H0.out.own).mono ?_;rintro e w2 ⟨A2,n2,c2,l1,rfl,o1,k1⟩;have H1:=JJ (H0.out.next o1 l1 k1);clear l1 o1 k1;clear q0 q1 q2 q3 q4 q5 q6 q7;have q0:(w2).cell? ⟨w.heap.size,0,none⟩=some (I ep):=H1.out.row.2 0;have q1:(w2).cell? ⟨w.heap.size,1,none⟩=some (.slice A nm a):=H1.out.row.2 1;have q2:(w2).cell? ⟨w.heap.size,2,none⟩=some (I lp):=H1.out.row.2 2;have q3:(w2).cell? ⟨w.heap.size,3,none⟩=some (.slice R nr r):=H1.out.row.2 3;have q4:(w2).cell? ⟨w.heap.size,4,none⟩=some (I st):=H1.out.row.2 4;have q5:(w2).cell? ⟨w.heap.size,5,none⟩=some (.slice C nt cc):=H1.out.row.2 5;have q6:(w2).cell? ⟨w.heap.size,6,none⟩=some (I ho):=H1.out.row.2 6;have q7:(w2).cell? ⟨w.heap.size,7,none⟩=some (.slice D ny dd):=H1.out.row.2 7;go_wp2_with fail;refine(L8 lo _ _ 2 _ _ nt _ H1.out.len (by have h:=H1.out.len;(try simp only[KN,J4] at h);omega) (by omega) ⟨by omega,by omega⟩ (aO hlo H1.out.keep.size) H1.out.own).mono ?_;rintro e w3 ⟨A3,n3,c3,l1,rfl,o1,k1⟩;have H2:=JJ (H1.out.next o1 l1 k1);clear l1 o1 k1;clear q0 q1 q2 q3 q4 q5 q6 q7;have q0:(w3).cell? ⟨w.heap.size,0,none⟩=some (I ep):=H2.out.row.2 0;have q1:(w3).cell? ⟨w.heap.size,1,none⟩=some (.slice A nm a):=H2.out.row.2 1;have q2:(w3).cell? ⟨w.heap.size,2,none⟩=some (I lp):=H2.out.row.2 2;have q3:(w3).cell? ⟨w.heap.size,3,none⟩=some (.slice R nr r):=H2.out.row.2 3;have q4:(w3).cell? ⟨w.heap.size,4,none⟩=some (I st):=H2.out.row.2 4;have q5:(w3).cell? ⟨w.heap.size,5,none⟩=some (.slice C nt cc):=H2.out.row.2 5;have q6:(w3).cell? ⟨w.heap.size,6,none⟩=some (I ho):=H2.out.row.2 6;have q7:(w3).cell? ⟨w.heap.size,7,none⟩=some (.slice D ny dd):=H2.out.row.2 7;go_wp2_with fail
 go_loopw [0,5] (fun b i wr=>adi lo (.slice A0 n c0) w #[I ep,.slice A nm a,I lp,.slice R nr r,I st,.slice C nt cc,I ho,.slice D ny dd] (fun k=>bs++cb++le st 2++le nt 2++(tr.take k).flatMap trE) nt b i wr) (fun _ i _=>nt - (intOf i).toNat)
 case atStart=>exact⟨0,n3,c3,A3,aG _,rfl,by go_num,by simpa using H2.out⟩
 case round=>
  obtain⟨k,n4,c4,A4,hk,rfl,rfl,hb3⟩:=hrel;have HB3:=JJ hb3;clear hb3 q0 q1 q2 q3 q4 q5 q6 q7;have q0:(wr).cell? ⟨w.heap.size,0,none⟩=some (I ep):=HB3.out.row.2 0;have q1:(wr).cell? ⟨w.heap.size,1,none⟩=some (.slice A nm a):=HB3.out.row.2 1;have q2:(wr).cell? ⟨w.heap.size,2,none⟩=some (I lp):=HB3.out.row.2 2;have q3:(wr).cell? ⟨w.heap.size,3,none⟩=some (.slice R nr r):=HB3.out.row.2 3;have q4:(wr).cell? ⟨w.heap.size,4,none⟩=some (I st):=HB3.out.row.2 4;have q5:(wr).cell? ⟨w.heap.size,5,none⟩=some (.slice C nt cc):=HB3.out.row.2 5;have q6:(wr).cell? ⟨w.heap.size,6,none⟩=some (I ho):=HB3.out.row.2 6;have q7:(wr).cell? ⟨w.heap.size,7,none⟩=some (.slice D ny dd):=HB3.out.row.2 7;by_cases hlt:(k:Int)<(nt:Int)
  ·obtain⟨b,off,rfl,Rl,hcl⟩:=HY0.out.there (by rw[KW (s:=2) Tr.cells tr (fun _ _=>rfl),HNT.out];omega);have hx:tr[k]? =some (tr[k]'(by rw[HNT.out];omega)):=KL _;obtain⟨x,hxx⟩:∃x,tr[k]'(by rw[HNT.out];omega)=x:=⟨_,rfl⟩;rw[hxx] at hx;have HRC:Hid (∀i u,x.cells[i]? =some u->w.cell? ⟨b,off+k*2+i,none⟩=some u):=JJ (fun i u hu=>by rw[fE];exact hcl _ _ (by rw[flat_get (s:=2) Tr.cells tr (fun _ _=>rfl) k i x hx (by have:=(MF.1 hu).1;simpa[Tr.cells] using this)];exact hu));have HX:=JJ hx;have hfx:=Xz.out x (LQ hx);clear hcl hx hxx;have z0:(wr).cell? ⟨b,off+k*2,none⟩=some (I x.at_):=((HB3.out.low Zb.out hlo).cell (p:=⟨b,off+k*2,none⟩) Rl).trans (HRC.out 0 _ rfl);have z1:(wr).cell? ⟨b,off+k*2+1,none⟩=some (I x.off):=((HB3.out.low Zb.out hlo).cell (p:=⟨b,off+k*2+1,none⟩) Rl).trans (HRC.out 1 _ rfl);go_wp2_with fail;refine(L8 lo _ _ 8 _ _ x.at_ _ HB3.out.len (by have h:=HB3.out.len;have g:=FM.out k;(try simp only[KN,J4] at h);omega) (by omega) hfx.1 (aO hlo HB3.out.keep.size) HB3.out.own).mono ?_;rintro e w5 ⟨A5,n5,c5,l1,rfl,o1,k1⟩;have H4:=JJ (HB3.out.next o1 l1 k1);clear l1 o1 k1;clear q0 q1 q2 q3 q4 q5 q6 q7;clear z0 z1;have q0:(w5).cell? ⟨w.heap.size,0,none⟩=some (I ep):=H4.out.row.2 0;have q1:(w5).cell? ⟨w.heap.size,1,none⟩=some (.slice A nm a):=H4.out.row.2 1;have q2:(w5).cell? ⟨w.heap.size,2,none⟩=some (I lp):=H4.out.row.2 2;have q3:(w5).cell? ⟨w.heap.size,3,none⟩=some (.slice R nr r):=H4.out.row.2 3;have q4:(w5).cell? ⟨w.heap.size,4,none⟩=some (I st):=H4.out.row.2 4;have q5:(w5).cell? ⟨w.heap.size,5,none⟩=some (.slice (some ⟨b,off,none⟩) nt cc):=H4.out.row.2 5;have q6:(w5).cell? ⟨w.heap.size,6,none⟩=some (I ho):=H4.out.row.2 6;have q7:(w5).cell? ⟨w.heap.size,7,none⟩=some (.slice D ny dd):=H4.out.row.2 7;have z0:(w5).cell? ⟨b,off+k*2,none⟩=some (I x.at_):=((H4.out.low Zb.out hlo).cell (p:=⟨b,off+k*2,none⟩) Rl).trans (HRC.out 0 _ rfl);have z1:(w5).cell? ⟨b,off+k*2+1,none⟩=some (I x.off):=((H4.out.low Zb.out hlo).cell (p:=⟨b,off+k*2+1,none⟩) Rl).trans (HRC.out 1 _ rfl);go_wp2_with fail;refine(L8 lo _ _ 2 _ _ x.off _ H4.out.len (by have h:=H4.out.len;have g:=FM.out k;(try simp only[KN,J4] at h);omega) (by omega) hfx.2 (aO hlo H4.out.keep.size) H4.out.own).mono ?_;rintro e w6 ⟨A6,n6,c6,l1,rfl,o1,k1⟩;have H5:=JJ (H4.out.next o1 l1 k1);clear l1 o1 k1;go_wp2_with fail;go_roundw
   case rel=>exact⟨k+1,n6,c6,A6,by omega,rfl,by go_num,by show CB _ _ _ _ (_++(tr.take (k+1)).flatMap trE) _ _ _ _;rw[TP _ _ _ _ HX.out,<-aH];simpa[trE,List.append_assoc] using H5.out⟩
   case measure=>simp[intOf];omega
  ·have hk2:k=nt:=by omega
   subst hk2;clear hlt;go_wp2_with fail;refine(L8 lo _ _ 8 _ _ ho _ HB3.out.len (by have h:=HB3.out.len;have g:=FM.out k;(try simp only[KN,J4] at h);omega) (by omega) x4 (aO hlo HB3.out.keep.size) HB3.out.own).mono ?_;rintro e w5 ⟨A5,n5,c5,l1,rfl,o1,k1⟩;have H5:=JJ (HB3.out.next o1 l1 k1);clear l1 o1 k1;clear q0 q1 q2 q3 q4 q5 q6 q7;have q0:(w5).cell? ⟨w.heap.size,0,none⟩=some (I ep):=H5.out.row.2 0;have q1:(w5).cell? ⟨w.heap.size,1,none⟩=some (.slice A nm a):=H5.out.row.2 1;have q2:(w5).cell? ⟨w.heap.size,2,none⟩=some (I lp):=H5.out.row.2 2;have q3:(w5).cell? ⟨w.heap.size,3,none⟩=some (.slice R nr r):=H5.out.row.2 3;have q4:(w5).cell? ⟨w.heap.size,4,none⟩=some (I st):=H5.out.row.2 4;have q5:(w5).cell? ⟨w.heap.size,5,none⟩=some (.slice C k cc):=H5.out.row.2 5;have q6:(w5).cell? ⟨w.heap.size,6,none⟩=some (I ho):=H5.out.row.2 6;have q7:(w5).cell? ⟨w.heap.size,7,none⟩=some (.slice D ny dd):=H5.out.row.2 7;go_wp2_with fail;refine(L8 lo _ _ 1 _ _ ny _ H5.out.len (by have h:=H5.out.len;have g:=FM.out k;(try simp only[KN,J4] at h);omega) (by omega) ⟨by omega,by omega⟩ (aO hlo H5.out.keep.size) H5.out.own).mono ?_;rintro e w6 ⟨A6,n6,c6,l1,rfl,o1,k1⟩;have H6:=JJ (H5.out.next o1 l1 k1);clear l1 o1 k1;clear q0 q1 q2 q3 q4 q5 q6 q7;have q0:(w6).cell? ⟨w.heap.size,0,none⟩=some (I ep):=H6.out.row.2 0;have q1:(w6).cell? ⟨w.heap.size,1,none⟩=some (.slice A nm a):=H6.out.row.2 1;have q2:(w6).cell? ⟨w.heap.size,2,none⟩=some (I lp):=H6.out.row.2 2;have q3:(w6).cell? ⟨w.heap.size,3,none⟩=some (.slice R nr r):=H6.out.row.2 3;have q4:(w6).cell? ⟨w.heap.size,4,none⟩=some (I st):=H6.out.row.2 4;have q5:(w6).cell? ⟨w.heap.size,5,none⟩=some (.slice C k cc):=H6.out.row.2 5;have q6:(w6).cell? ⟨w.heap.size,6,none⟩=some (I ho):=H6.out.row.2 6;have q7:(w6).cell? ⟨w.heap.size,7,none⟩=some (.slice D ny dd):=H6.out.row.2 7;go_wp2_with fail
   go_loopw [0,6] (fun b i wr=>adi lo (.slice A0 n c0) w #[I ep,.slice A nm a,I lp,.slice R nr r,I st,.slice C k cc,I ho,.slice D ny dd] (fun j=>(bs++cb++le st 2++le k 2++(tr.take k).flatMap trE)++le ho 8++le ny 1++(yr.take j).flatMap yrE) ny b i wr) (fun _ i _=>ny - (intOf i).toNat)
   case atStart=>exact⟨0,n6,c6,A6,aG _,rfl,by go_num,by simpa using H6.out⟩
   case round=>
    obtain⟨j,n7,c7,A7,hj,rfl,rfl,hb7⟩:=hrel;have Uf:=JJ hb7;clear hb7 q0 q1 q2 q3 q4 q5 q6 q7;have q0:(wr).cell? ⟨w.heap.size,0,none⟩=some (I ep):=Uf.out.row.2 0;have q1:(wr).cell? ⟨w.heap.size,1,none⟩=some (.slice A nm a):=Uf.out.row.2 1;have q2:(wr).cell? ⟨w.heap.size,2,none⟩=some (I lp):=Uf.out.row.2 2;have q3:(wr).cell? ⟨w.heap.size,3,none⟩=some (.slice R nr r):=Uf.out.row.2 3;have q4:(wr).cell? ⟨w.heap.size,4,none⟩=some (I st):=Uf.out.row.2 4;have q5:(wr).cell? ⟨w.heap.size,5,none⟩=some (.slice C k cc):=Uf.out.row.2 5;have q6:(wr).cell? ⟨w.heap.size,6,none⟩=some (I ho):=Uf.out.row.2 6;have q7:(wr).cell? ⟨w.heap.size,7,none⟩=some (.slice D ny dd):=Uf.out.row.2 7;by_cases hlt:(j:Int)<(ny:Int)
    ·obtain⟨b,off,rfl,Rl,hcl⟩:=HY1.out.there (by rw[KW (s:=5) Yr.cells yr (fun _ _=>rfl),HNY.out];omega);have hx:yr[j]? =some (yr[j]'(by rw[HNY.out];omega)):=KL _;obtain⟨x,hxx⟩:∃x,yr[j]'(by rw[HNY.out];omega)=x:=⟨_,rfl⟩;rw[hxx] at hx;have HRC:Hid (∀i u,x.cells[i]? =some u->w.cell? ⟨b,off+j*5+i,none⟩=some u):=JJ (fun i u hu=>by rw[fE];exact hcl _ _ (by rw[flat_get (s:=5) Yr.cells yr (fun _ _=>rfl) j i x hx (by have:=(MF.1 hu).1;simpa[Yr.cells] using this)];exact hu));have HX:=JJ hx;have hfx:=HX6.out x (LQ hx);clear hcl hx hxx;have z0:(wr).cell? ⟨b,off+j*5,none⟩=some (I x.month):=((Uf.out.low Zb.out hlo).cell (p:=⟨b,off+j*5,none⟩) Rl).trans (HRC.out 0 _ rfl);have z1:(wr).cell? ⟨b,off+j*5+1,none⟩=some (I x.La):=((Uf.out.low Zb.out hlo).cell (p:=⟨b,off+j*5+1,none⟩) Rl).trans (HRC.out 1 _ rfl);have z2:(wr).cell? ⟨b,off+j*5+2,none⟩=some (I x.Lh):=((Uf.out.low Zb.out hlo).cell (p:=⟨b,off+j*5+2,none⟩) Rl).trans (HRC.out 2 _ rfl);have z3:(wr).cell? ⟨b,off+j*5+3,none⟩=some (I x.minute):=((Uf.out.low Zb.out hlo).cell (p:=⟨b,off+j*5+3,none⟩) Rl).trans (HRC.out 3 _ rfl);have z4:(wr).cell? ⟨b,off+j*5+4,none⟩=some (I x.off):=((Uf.out.low Zb.out hlo).cell (p:=⟨b,off+j*5+4,none⟩) Rl).trans (HRC.out 4 _ rfl);go_wp2_with fail;obtain⟨W0,hW0⟩:∃W0,W0=wr.alloc (.cells #[I x.month,I x.La,I x.Lh,I x.minute,I x.off] 110):=⟨_,rfl⟩;have hbw:ai wr.heap.size wr W0:=by rw[hW0];exact JM wr _
     have H8:=JJ (Uf.out.grow hbw);have F8:Hid (amX wr.heap.size #[I x.month,I x.La,I x.Lh,I x.minute,I x.off] (.slice A7 n7 c7) W0):=JJ ⟨by rw[hW0];exact Row.new wr _ _,Uf.out.Tc _ (ay _)⟩;rw[<-hW0];refine(L8 lo _ _ 1 _ _ x.month _ H8.out.len (by have h:=H8.out.len;have g:=FM.out k;have g2:=FR.out j;(try simp only[KN,J4] at h);omega) (by omega) hfx.month (aO hlo H8.out.keep.size) H8.out.own).mono ?_;rintro e w9 ⟨A9,n9,c9,l1,rfl,o1,k1⟩;have H9:=JJ (H8.out.next o1 l1 k1);have F9:=JJ (F8.out.next k1);clear l1 o1 k1;have y0:(w9).cell? ⟨wr.heap.size,0,none⟩=some (I x.month):=F9.out.1.2 0;have y1:(w9).cell? ⟨wr.heap.size,1,none⟩=some (I x.La):=F9.out.1.2 1;have y2:(w9).cell? ⟨wr.heap.size,2,none⟩=some (I x.Lh):=F9.out.1.2 2;have y3:(w9).cell? ⟨wr.heap.size,3,none⟩=some (I x.minute):=F9.out.1.2 3;have y4:(w9).cell? ⟨wr.heap.size,4,none⟩=some (I x.off):=F9.out.1.2 4;go_wp2_with fail;refine(L8 lo _ _ 1 _ _ x.La _ H9.out.len (by have h:=H9.out.len;have g:=FM.out k;have g2:=FR.out j;(try simp only[KN,J4] at h);omega) (by omega) hfx.La (aO hlo H9.out.keep.size) H9.out.own).mono ?_;rintro e w10 ⟨A10,n10,c10,l1,rfl,o1,k1⟩;have H10:=JJ (H9.out.next o1 l1 k1);have F10:=JJ (F9.out.next k1);clear l1 o1 k1;clear y0 y1 y2 y3 y4;have y0:(w10).cell? ⟨wr.heap.size,0,none⟩=some (I x.month):=F10.out.1.2 0;have y1:(w10).cell? ⟨wr.heap.size,1,none⟩=some (I x.La):=F10.out.1.2 1;have y2:(w10).cell? ⟨wr.heap.size,2,none⟩=some (I x.Lh):=F10.out.1.2 2;have y3:(w10).cell? ⟨wr.heap.size,3,none⟩=some (I x.minute):=F10.out.1.2 3;have y4:(w10).cell? ⟨wr.heap.size,4,none⟩=some (I x.off):=F10.out.1.2 4;go_wp2_with fail;refine(L8 lo _ _ 1 _ _ x.Lh _ H10.out.len (by have h:=H10.out.len;have g:=FM.out k;have g2:=FR.out j;(try simp only[KN,J4] at h);omega) (by omega) hfx.Lh (aO hlo H10.out.keep.size) H10.out.own).mono ?_;rintro e w11 ⟨A11,n11,c11,l1,rfl,o1,k1⟩;have H11:=JJ (H10.out.next o1 l1 k1);have F11:=JJ (F10.out.next k1);clear l1 o1 k1;clear y0 y1 y2 y3 y4;have y0:(w11).cell? ⟨wr.heap.size,0,none⟩=some (I x.month):=F11.out.1.2 0;have y1:(w11).cell? ⟨wr.heap.size,1,none⟩=some (I x.La):=F11.out.1.2 1;have y2:(w11).cell? ⟨wr.heap.size,2,none⟩=some (I x.Lh):=F11.out.1.2 2;have y3:(w11).cell? ⟨wr.heap.size,3,none⟩=some (I x.minute):=F11.out.1.2 3;have y4:(w11).cell? ⟨wr.heap.size,4,none⟩=some (I x.off):=F11.out.1.2 4;go_wp2_with fail;refine(L8 lo _ _ 2 _ _ x.minute _ H11.out.len (by have h:=H11.out.len;have g:=FM.out k;have g2:=FR.out j;(try simp only[KN,J4] at h);omega) (by omega) hfx.minute (aO hlo H11.out.keep.size) H11.out.own).mono ?_;rintro e w12 ⟨A12,n12,c12,l1,rfl,o1,k1⟩;have H12:=JJ (H11.out.next o1 l1 k1);have F12:=JJ (F11.out.next k1);clear l1 o1 k1;clear y0 y1 y2 y3 y4;have y0:(w12).cell? ⟨wr.heap.size,0,none⟩=some (I x.month):=F12.out.1.2 0;have y1:(w12).cell? ⟨wr.heap.size,1,none⟩=some (I x.La):=F12.out.1.2 1;have y2:(w12).cell? ⟨wr.heap.size,2,none⟩=some (I x.Lh):=F12.out.1.2 2;have y3:(w12).cell? ⟨wr.heap.size,3,none⟩=some (I x.minute):=F12.out.1.2 3;have y4:(w12).cell? ⟨wr.heap.size,4,none⟩=some (I x.off):=F12.out.1.2 4;go_wp2_with fail;refine(L8 lo _ _ 2 _ _ x.off _ H12.out.len (by have h:=H12.out.len;have g:=FM.out k;have g2:=FR.out j;(try simp only[KN,J4] at h);omega) (by omega) hfx.off (aO hlo H12.out.keep.size) H12.out.own).mono ?_;rintro e w13 ⟨A13,n13,c13,l1,rfl,o1,k1⟩;have H13:=JJ (H12.out.next o1 l1 k1);have F13:=JJ (F12.out.next k1);clear l1 o1 k1;go_wp2_with fail;go_roundw
     case rel=>exact⟨j+1,n13,c13,A13,by omega,rfl,by go_num,by show CB _ _ _ _ (_++(yr.take (j+1)).flatMap yrE) _ _ _ _;rw[TP _ _ _ _ HX.out,<-aH];simpa[yrE,List.append_assoc] using H13.out⟩
     case measure=>simp[intOf];omega
    ·have hj2:j=ny:=by omega
     have HJ:=JJ hj2;clear hj2;go_wp2_with fail;go_ret;have hb:=Uf.out;rw[HJ.out,aU (iT HNY.out),aU (iT HNT.out)] at hb;refine⟨A7,n7,c7,?_,rfl,?_,hb.keep⟩
     ·rw[<-hb.len];simp[List.append_assoc]
     ·have:=hb.own;simpa[HNT.out,HNY.out,List.append_assoc] using this
end Go.Proofs.YtbaehbbonkljpaaGreatDoor
