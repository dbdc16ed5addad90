/- The texts Jm, Kn, Ko, in this order. -/
import Derived.Test.YtbaehbbonkljpaaGreatDoorS00
import Derived.Test.YtbaehbbonkljpaaGreatDoorS03
import Derived.Test.YtbaehbbonkljpaaGreatDoorS06
import Derived.Test.YtbaehbbonkljpaaGreatDoorS10
import Derived.Test.YtbaehbbonkljpaaGreatDoorS15
set_option maxRecDepth 10000
set_option maxHeartbeats 8000000
namespace Go.Proofs.YtbaehbbonkljpaaGreatDoor
open Go Go.RowKit
theorem Et (z:Zn) (s:Zs) (w:World) (h:iP w w.heap.size s z):Calls Tryz.prog 50 #[.agg (ay z s)] w (Gives (I (vg z)) w):=by
 have HO:Hid (∀w',Below w.heap.size w w'->Calls Tryz.prog 71 #[.agg (ay z s)] w' fun e w2=>(∃v,e= .returned (.tuple #[v, .bool (Cb z)]))/\Below w'.heap.size w' w2):=ae fun w' hb=>zopenG z s w' (h.grow hb);have HR0:=ae (Row.new w (ay z s) 69);have HB0:=ae (ag w (.cells (ay z s) 69));obtain ⟨m,hmm⟩:∃m,z.trans.length=m:=⟨_,rfl⟩;have e0:ay z s= #[I z.cal.bn, .slice s.A z.cal.au.length s.a,I z.cal.dA, .slice s.B z.cal.rules.length s.b,I z.start, .slice s.C m s.c,I z.hor, .slice s.D z.aH.length s.d]:=by unfold ay;rw [hmm]
 rw [e0] at HO HR0 HB0 ⊢;obtain ⟨ok,hok⟩:∃b,Cb z=b:=⟨_,rfl⟩;rw [hok] at HO;have HF:Hid (vg z=if 512<m then 2 else if ok=true then 0 else 1):=ae (by unfold vg;rw [hmm,hok]);rw [HF.out];clear h e0 hmm hok HF;by_cases hT:512<m
 ·rw [if_pos hT];have hT1:(512:Int)<(m:Int):=by omega
  go_enter Tryz.func50,Tryz.ntmps50;go_wp2_with fail;go_ret;exact ⟨rfl,HB0.out⟩
 ·rw [if_neg hT];have hT1:¬(512:Int)<(m:Int):=by omega
  cases ok with
  |true=>
   rw [if_pos rfl];go_enter Tryz.func50,Tryz.ntmps50;go_wp2_with fail;refine (HO.out _ HB0.out).mono ?_;rintro e w1 ⟨⟨b,rfl⟩,hb1⟩;have HB1:=ae (ah HB0.out hb1);clear hb1;go_wp2_with fail;go_ret;exact ⟨rfl,HB1.out⟩
  |false=>
   rw [if_neg (by decide)];go_enter Tryz.func50,Tryz.ntmps50;go_wp2_with fail;refine (HO.out _ HB0.out).mono ?_;rintro e w1 ⟨⟨b,rfl⟩,hb1⟩;have HB1:=ae (ah HB0.out hb1);clear hb1;go_wp2_with fail;go_ret;exact ⟨rfl,HB1.out⟩
def ou (lo:Nat) (w:World) (A:Option Addr) (n c:Nat) (bs:List UInt8):Prop:=w.ownsRow lo 5 1 (.slice A n c) n (bs.map Extern.Stop.cell)
structure uO (v:Value) (w:World) (v':Value) (w':World):Prop where
 os:w'.os=w.os
 tape:w'.tape=w.tape
 output:w'.output=w.output
 size:w.heap.size<=w'.heap.size
 block:∀k,k<w.heap.size->some k≠v.ownBlock->w'.heap[k]? =w.heap[k]?
 own:v'.ownBlock=v.ownBlock\/∃b,v'.ownBlock=some b/\w.heap.size<=b
theorem uO.refl (v:Value) (w:World):uO v w v w:=⟨rfl,rfl,rfl,Nat.le_refl _,fun _ _ _=>rfl, .inl rfl⟩
theorem uO.trans {v v1 v2:Value} {w w1 w2:World} (h:uO v w v1 w1) (k:uO v1 w1 v2 w2):uO v w v2 w2:=by
 refine ⟨k.os.trans h.os,k.tape.trans h.tape,k.output.trans h.output,Nat.le_trans h.size k.size,fun b hb hv=>?_,?_⟩
 ·refine (k.block b (dP hb h.size) ?_).trans (h.block b hb hv);rcases h.own with e|⟨b1,e,hb1⟩
  ·rw [e];exact hv
  ·rw [e];intro h';injection h' with h';omega
 ·rcases k.own with e|⟨b,e,hb⟩
  ·rcases h.own with e1|⟨b1,e1,hb1⟩
   ·exact .inl (e.trans e1)
   ·exact .inr ⟨b1,e.trans e1,hb1⟩
  ·exact .inr ⟨b,e,Nat.le_trans h.size hb⟩
theorem uO.below {v v':Value} {w w' w2:World} (h:uO v w v' w') (hb:Below w'.heap.size w' w2):uO v w v' w2:=
 ⟨hb.os.trans h.os,hb.tape.trans h.tape,hb.output.trans h.output,Nat.le_trans h.size hb.size,fun k hk hv=>(hb.block k (dP hk h.size)).trans (h.block k hk hv),h.own⟩
theorem uO.app {w w3:World} {v v':Value} {o:Obj} (hg:(w.alloc o).grownBy w3 v.ownBlock) (hat:v'.ownBlock=v.ownBlock\/v'.ownBlock=some (w.alloc o).heap.size):uO v w v' w3:=
 ⟨hg.os,hg.tape,hg.output,Nat.le_trans (by simp) hg.size,fun k hk hv=>(hg.block k (by simp;omega) hv).trans (Below.heap_alloc w o k hk),hat.elim .inl fun e=> .inr ⟨_,e,by simp⟩⟩
theorem uO.xA {lo:Nat} {v v':Value} {w w':World} (h:uO v w v' w') (hv:∀g,v.ownBlock=some g->lo<=g) (hlo:lo<=w.heap.size):Below lo w w':=
 ⟨h.os,h.tape,h.output,h.size,fun k hk=>h.block k (by omega) (fun e=>by have:=hv k e.symm;omega)⟩
def Zc (lo:Nat) (v:Value) (w:World) (bs:List UInt8) (e:Ending) (w':World):Prop:=∃A n c,bs.length=n/\e= .returned (.slice A n c)/\ou lo w' A n c bs/\uO v w (.slice A n c) w'
theorem ou.base {lo n c:Nat} {w:World} {A:Option Addr} {bs:List UInt8} (h:ou lo w A n c bs):∀g,(Value.slice A n c).ownBlock=some g->lo<=g:=fun g hg=>(World.ownsRow.lt h g hg).1
theorem ou.below {lo n c:Nat} {w w':World} {A:Option Addr} {bs:List UInt8} (h:ou lo w A n c bs) (hb:Below w.heap.size w w'):ou lo w' A n c bs:=
 World.ownsRow.kept (row:=none) h ⟨hb.os,hb.tape,hb.output,hb.size,fun k hk _=>hb.block k hk⟩ (by cases (Value.slice A n c).ownBlock<;>simp)
theorem ou.lower {lo lo' n c:Nat} {w:World} {A:Option Addr} {bs:List UInt8} (h:ou lo w A n c bs) (hl:lo'<=lo):ou lo' w A n c bs:=by
 rcases h.2 with h2|⟨g,cap,cur,h1,h2,h3⟩
 ·exact ⟨h.1, .inl h2⟩
 ·exact ⟨h.1, .inr ⟨g,cap,cur,h1,Nat.le_trans hl h2,h3⟩⟩
theorem Qa (z:Int) (j:Nat) (hj:j<8):Value.int .u8 (IntKind.u64.wrap z / 2 ^ (8*j)%256)=Extern.Stop.cell (byteOf (jW z j)):=by
 rw [fF];have h:j=0\/j=1\/j=2\/j=3\/j=4\/j=5\/j=6\/j=7:=by omega
 congr 1;rw [show IntKind.u64.wrap z=z%18446744073709551616 by simp [IntKind.wrap,IntKind.bits,IntKind.signed]];rcases h with rfl|rfl|rfl|rfl|rfl|rfl|rfl|rfl<;>simp only [jW]
 ·show z%18446744073709551616 / 1%256=_;omega
 ·show z%18446744073709551616 / 256%256=_;omega
 ·show z%18446744073709551616 / 65536%256=_;omega
 ·show z%18446744073709551616 / 16777216%256=_;omega
 ·show z%18446744073709551616 / 4294967296%256=_;omega
 ·show z%18446744073709551616 / 1099511627776%256=_;omega
 ·show z%18446744073709551616 / 281474976710656%256=_;omega
 ·show z%18446744073709551616 / 72057594037927936%256=_;omega
theorem wV (x:Int):∀u∈ [Value.int .u8 x],u.oneCell'=true:=fun u hu=>by rw [List.mem_singleton.1 hu];rfl
def Oy (b:Bool):Int:=if b=true then 1 else 0
def NRel (lo:Nat) (v:Value) (w:World) (bs:List UInt8) (z:Int) (s:Nat) (b i:Value) (wr:World):Prop:=
 ∃(k n c:Nat) (A:Option Addr),k<=s/\b= .slice A n c/\i= .int .i64 k/\(bs++le z k).length=n/\ou lo wr A n c (bs++le z k)/\uO v w (.slice A n c) wr
theorem dZ (lo n c s:Nat) (A:Option Addr) (bs:List UInt8) (z:Int) (w:World) (hl:bs.length=n) (hn:n<=1000000) (hs:s<=8) (hz:fits z) (hlo:lo<=w.heap.size) (hO:ou lo w A n c bs):
  Calls Tryz.prog 52 #[.slice A n c,I z,I s] w (Zc lo (.slice A n c) w (bs++le z s)):=by
 obtain ⟨i0,hi,hz0,hz1,hz2⟩:=info_parts lN;have HI:=ae hi;have HZ0:=ae hz0;have HZ1:=ae hz1;have HZ2:=ae hz2;have HO:=ae hO;have HL:=ae hl;have HFZ:=ae hz;clear hi hz0 hz1 hz2 hO hl hz;go_enter Tryz.func52,Tryz.ntmps52;go_wp2_with fail
 go_loopw [0,8] (fun b i wr=>NRel lo (.slice A n c) w bs z s b i wr) (fun _ i _=>s - (intOf i).toNat)
 case atStart=>exact ⟨0,n,c,A,Nat.zero_le _,rfl,by go_num,by simpa [le] using HL.out,by simpa [le] using HO.out,uO.refl _ _⟩
 case round=>
  obtain ⟨k,n2,c2,A2,hk,rfl,rfl,hl2,ho2,hb2⟩:=hrel;have HB2:=ae hb2;have hsz:lo<=wr.heap.size:=Nat.le_trans hlo hb2.size;have hn2:n2<=1000008:=by rw [<-hl2,bF,aC,HL.out];omega
  by_cases hlt:(k:Int)<(s:Int)
  ·have vk:=ae (Qa z k (by omega));have N9:=ae (World.ownsRow.alloc ho2 (.cells #[Value.int .u8 (IntKind.u64.wrap z / 2 ^ (8*k)%256)] 5));have HL2:=ae hl2;obtain ⟨b2,hbb2⟩:∃b,bs++le z k=b:=⟨_,rfl⟩;rw [hbb2] at N9 HL2;have HBE:=ae hbb2;clear hb2 ho2 hl2 hbb2;go_wp2_with (at_builtin;go_must (refine wpList_append_own_at _ rfl _ _ 55 rfl lo 5 i0 (.int .u8 0) 1 1 Tryz.underlying55 HI.out HZ0.out HZ1.out HZ2.out rfl (by decide) _ n2 (b2.map Extern.Stop.cell) rfl N9.out _ 1 1 [Value.int .u8 (IntKind.u64.wrap z / 2 ^ (8*k)%256)] rfl rfl (cell_one_new _ _ _) (wV _) (by unfold maxLen;omega) (by omega) (by simp;omega) ?_));intro v' w3 hown hg _ hat;have HW3:=ae (HB2.out.trans (uO.app hg (hat.imp id fun e=>e.trans (by simp))));obtain ⟨A',c',rfl⟩:=fD hown;have HOW:Hid (ou lo w3 A' (n2+1) c' (bs++le z (k+1))):=ae (by
    unfold ou;rw [Gw,<-List.append_assoc,HBE.out,List.map_append];show World.ownsRow _ _ _ _ _ _ (_++ [Extern.Stop.cell _]);rw [<-vk.out];exact hown)
   clear hown hg hat;go_wp2_with fail;go_roundw
   case rel=>exact ⟨k+1,n2+1,c',A',by omega,rfl,by go_num,by have:=HL2.out;rw [<-HBE.out] at this;rw [Gw,<-List.append_assoc,bF,this];rfl,HOW.out,HW3.out⟩
   case measure=>simp [intOf];omega
  ·have HKS:Hid (k=s):=ae (by omega);have rD:=ae ho2;have HL2:=ae hl2;clear ho2 hl2 hb2;go_wp2_with fail;go_ret;exact ⟨_,n2,_,by rw [<-HKS.out];exact HL2.out,rfl,by rw [<-HKS.out];exact rD.out,HB2.out⟩
theorem flag_r (b:Bool) (w:World):Calls Tryz.prog 92 #[.bool b] w fun e w'=>e= .returned (I (Oy b))/\w'=w:=by
 cases b
 all_goals
  go_enter Tryz.func92,Tryz.ntmps92;go_wp2_with fail;go_ret;exact ⟨rfl,rfl⟩
def Uo (r:Lr):List UInt8:=le r.every 2++(le r.rest 2++le (Oy r.yes) 1)
def sH (c:Cal):List UInt8:=le c.bn 4++(le c.au.length 1++(c.au.flatMap (le · 1)++(le (c.dA+1) 1++(le c.rules.length 1++c.rules.flatMap Uo))))
structure C14 (c:Cal):Prop where
 ep:fits c.bn
 mo:c.au.length<=1000
 all:∀x∈c.au,fits x
 le: -1<=c.dA/\c.dA<=1000
 ru:c.rules.length<=1000
 rl:∀r∈c.rules,fits r.every/\fits r.rest
theorem qY {α β:Type} (f:α->List β) (l:List α) (k:Nat) (x:α) (hx:l[k]? =some x):(l.take (k+1)).flatMap f=(l.take k).flatMap f++f x:=by
 rw [List.take_add_one,hx,List.flatMap_append];simp
theorem fC {α β:Type} (f:α->List β) (l:List α) (s k:Nat) (h:∀x,(f x).length=s):((l.take k).flatMap f).length<=l.length*s:=by
 have e:∀m:List α,(m.flatMap f).length=m.length*s:=by
  intro m
  induction m with
  |nil=>simp
  |cons x m ih=>rw [List.flatMap_cons,bF,h,ih,List.length_cons,Nat.succ_mul,Nat.add_comm]
 rw [e,List.length_take];exact Nat.mul_le_mul_right s (by omega)
theorem Aj (r:Lr):(Uo r).length=5:=by simp [Uo,aC]
structure CB (lo:Nat) (v0:Value) (w:World) (cs:Array Value) (bs:List UInt8) (A:Option Addr) (n c:Nat) (W:World):Prop where
 row:Row W w.heap.size cs
 own:ou lo W A n c bs
 len:bs.length=n
 keep:uO v0 w (.slice A n c) W
 far:some w.heap.size≠(Value.slice A n c).ownBlock
theorem CB.start {lo n c:Nat} {A:Option Addr} {w:World} {bs:List UInt8} (cs:Array Value) (t:TypeId) (hO:ou lo w A n c bs) (hl:bs.length=n):CB lo (.slice A n c) w cs bs A n c (w.alloc (.cells cs t)):=
 ⟨Row.new w cs t,ou.below hO (ag w _),hl,(uO.refl _ w).below (ag w _),fun e=>by have:=(World.ownsRow.lt hO _ e.symm).2;omega⟩
theorem CB.next {lo n c n' c':Nat} {v0:Value} {A A':Option Addr} {w W W':World} {cs:Array Value} {bs bs':List UInt8} (h:CB lo v0 w cs bs A n c W) (hO:ou lo W' A' n' c' bs') (hl:bs'.length=n') (hk:uO (.slice A n c) W (.slice A' n' c') W'):CB lo v0 w cs bs' A' n' c' W':=by
 have hlt:=h.row.1;refine ⟨⟨dP hlt hk.size,fun i=>(World.cell?_of_block (a:=⟨w.heap.size,i,none⟩) (hk.block _ hlt h.far)).trans (h.row.2 i)⟩,hO,hl,h.keep.trans hk,?_⟩;rcases hk.own with e|⟨b,e,hb⟩
 ·rw [e];exact h.far
 ·rw [e];intro h';injection h' with h';omega
theorem CB.low {lo n c n0 c0:Nat} {A A0:Option Addr} {w W:World} {cs:Array Value} {bs bs0:List UInt8} (h:CB lo (.slice A0 n0 c0) w cs bs A n c W) (hO:ou lo w A0 n0 c0 bs0) (hlo:lo<=w.heap.size):Below lo w W:=h.keep.xA (ou.base hO) hlo
def Ij (lo:Nat) (v0:Value) (w:World) (cs:Array Value) (pre:Nat->List UInt8) (m:Nat) (b i:Value) (wr:World):Prop:=
 ∃(k n c:Nat) (A:Option Addr),k<=m/\b= .slice A n c/\i= .int .i64 k/\CB lo v0 w cs (pre k) A n c wr
theorem LU (lo n c0:Nat) (A0:Option Addr) (bs:List UInt8) (c:Cal) (A R:Option Addr) (a r:Nat) (w:World) (hl:bs.length=n) (hn:n<=900000) (hc:C14 c) (hm:qj w lo A R c) (hlo:lo<=w.heap.size) (hO:ou lo w A0 n c0 bs):
  Calls Tryz.prog 72 #[.slice A0 n c0, .agg (aI c A a R r)] w (Zc lo (.slice A0 n c0) w (bs++sH c)):=by
 obtain ⟨ep,mo,lp,ru⟩:=c;obtain ⟨x0,x1,x2,x3,x4,x5⟩:=hc;obtain ⟨y0,y1⟩:=hm;simp only at x0 x1 x2 x3 x4 x5 y0 y1;unfold aI;simp only;obtain ⟨nm,hnm⟩:∃n,mo.length=n:=⟨_,rfl⟩;obtain ⟨nr,hnr⟩:∃n,ru.length=n:=⟨_,rfl⟩;have FM:=ae (fun k=>fC (le · 1) mo 1 k (fun _=>aC _ _));have FR:=ae (fun k=>fC Uo ru 5 k Aj);have zV:=ae x2;have yu:=ae x5;have HY0:=ae y0;have Ia:=ae y1;have AO:=ae hO;have FO:=ae hnm;have N8:=ae hnr;rw [hnm] at x1 FM ⊢;rw [hnr] at x4 FR ⊢;have HB:=ae (CB.start #[I ep, .slice A nm a,I lp, .slice R nr r] 65 hO hl);have wl:IntKind.i64.wrap (lp+1)=lp+1:=by rw [IntKind.wrap_i64];omega
 clear x2 x5 y0 y1 hO hnm hnr;go_enter Tryz.func72,Tryz.ntmps72;go_wp2_with fail;refine (dZ lo _ _ 4 _ _ ep _ HB.out.len (by have h:=HB.out.len;(try simp only [bF,aC] at h);omega) (by omega) x0 (Nat.le_trans hlo HB.out.keep.size) HB.out.own).mono ?_;rintro e w1 ⟨A1,n1,c1,l1,rfl,o1,k1⟩;have H1:=ae (HB.out.next o1 l1 k1);clear l1 o1 k1;have q0:(w1).cell? ⟨w.heap.size,0,none⟩=some (I ep):=H1.out.row.2 0;have q1:(w1).cell? ⟨w.heap.size,1,none⟩=some (.slice A nm a):=H1.out.row.2 1;have q2:(w1).cell? ⟨w.heap.size,2,none⟩=some (I lp):=H1.out.row.2 2;have q3:(w1).cell? ⟨w.heap.size,3,none⟩=some (.slice R nr r):=H1.out.row.2 3;go_wp2_with fail;refine (dZ lo _ _ 1 _ _ nm _ H1.out.len (by have h:=H1.out.len;(try simp only [bF,aC] at h);omega) (by omega) ⟨by omega,by omega⟩ (Nat.le_trans hlo H1.out.keep.size) H1.out.own).mono ?_;rintro e w2 ⟨A2,n2,c2,l1,rfl,o1,k1⟩;have H2:=ae (H1.out.next o1 l1 k1);clear l1 o1 k1;clear q0 q1 q2 q3;have q0:(w2).cell? ⟨w.heap.size,0,none⟩=some (I ep):=H2.out.row.2 0;have q1:(w2).cell? ⟨w.heap.size,1,none⟩=some (.slice A nm a):=H2.out.row.2 1;have q2:(w2).cell? ⟨w.heap.size,2,none⟩=some (I lp):=H2.out.row.2 2;have q3:(w2).cell? ⟨w.heap.size,3,none⟩=some (.slice R nr r):=H2.out.row.2 3;go_wp2_with fail
 go_loopw [0,5] (fun b i wr=>Ij lo (.slice A0 n c0) w #[I ep, .slice A nm a,I lp, .slice R nr r] (fun k=>bs++le ep 4++le nm 1++(mo.take k).flatMap (le · 1)) nm b i wr) (fun _ i _=>nm - (intOf i).toNat)
 case atStart=>exact ⟨0,n2,c2,A2,Nat.zero_le _,rfl,by go_num,by simpa using H2.out⟩
 case round=>
  obtain ⟨k,n3,c3,A3,hk,rfl,rfl,hb3⟩:=hrel;have HB3:=ae hb3;clear hb3 q0 q1 q2 q3;have q0:(wr).cell? ⟨w.heap.size,0,none⟩=some (I ep):=HB3.out.row.2 0;have q1:(wr).cell? ⟨w.heap.size,1,none⟩=some (.slice A nm a):=HB3.out.row.2 1;have q2:(wr).cell? ⟨w.heap.size,2,none⟩=some (I lp):=HB3.out.row.2 2;have q3:(wr).cell? ⟨w.heap.size,3,none⟩=some (.slice R nr r):=HB3.out.row.2 3;by_cases hlt:(k:Int)<(nm:Int)
  ·obtain ⟨b,off,rfl,nZ,hcl⟩:=(HY0.out.keep (HB3.out.low AO.out hlo)).there (by rw [List.length_map,FO.out];omega);have hx:mo[k]? =some (mo[k]'(by rw [FO.out];omega)):=bK _;obtain ⟨x,hxx⟩:∃x,mo[k]'(by rw [FO.out];omega)=x:=⟨_,rfl⟩;rw [hxx] at hx;have v0:wr.cell? ⟨b,off+k,none⟩=some (I x):=hcl k _ (by rw [List.getElem?_map,hx];rfl);have HX:=ae hx;have hfx:=zV.out x (gZ hx);clear hcl hx hxx;go_wp2_with fail;refine (dZ lo _ _ 1 _ _ x _ HB3.out.len (by have h:=HB3.out.len;have g:=FM.out k;(try simp only [bF,aC] at h);omega) (by omega) hfx (Nat.le_trans hlo HB3.out.keep.size) HB3.out.own).mono ?_;rintro e w4 ⟨A4,n4,c4,l1,rfl,o1,k1⟩;have H4:=ae (HB3.out.next o1 l1 k1);clear l1 o1 k1;go_wp2_with fail;go_roundw
   case rel=>exact ⟨k+1,n4,c4,A4,by omega,rfl,by go_num,by show CB _ _ _ _ (_++(mo.take (k+1)).flatMap (le · 1)) _ _ _ _;rw [qY _ _ _ _ HX.out,<-List.append_assoc];exact H4.out⟩
   case measure=>simp [intOf];omega
  ·have hk2:k=nm:=by omega
   subst hk2;clear hlt;go_wp2_with fail;refine (dZ lo _ _ 1 _ _ (lp+1) _ HB3.out.len (by have h:=HB3.out.len;have g:=FM.out k;(try simp only [bF,aC] at h);omega) (by omega) ⟨by omega,by omega⟩ (Nat.le_trans hlo HB3.out.keep.size) HB3.out.own).mono ?_;rintro e w5 ⟨A5,n5,c5,l1,rfl,o1,k1⟩;have H5:=ae (HB3.out.next o1 l1 k1);clear l1 o1 k1;clear q0 q1 q2 q3;have q0:(w5).cell? ⟨w.heap.size,0,none⟩=some (I ep):=H5.out.row.2 0;have q1:(w5).cell? ⟨w.heap.size,1,none⟩=some (.slice A k a):=H5.out.row.2 1;have q2:(w5).cell? ⟨w.heap.size,2,none⟩=some (I lp):=H5.out.row.2 2;have q3:(w5).cell? ⟨w.heap.size,3,none⟩=some (.slice R nr r):=H5.out.row.2 3;go_wp2_with fail;refine (dZ lo _ _ 1 _ _ nr _ H5.out.len (by have h:=H5.out.len;have g:=FM.out k;(try simp only [bF,aC] at h);omega) (by omega) ⟨by omega,by omega⟩ (Nat.le_trans hlo H5.out.keep.size) H5.out.own).mono ?_;rintro e w6 ⟨A6,n6,c6,l1,rfl,o1,k1⟩;have H6:=ae (H5.out.next o1 l1 k1);clear l1 o1 k1;clear q0 q1 q2 q3;have q0:(w6).cell? ⟨w.heap.size,0,none⟩=some (I ep):=H6.out.row.2 0;have q1:(w6).cell? ⟨w.heap.size,1,none⟩=some (.slice A k a):=H6.out.row.2 1;have q2:(w6).cell? ⟨w.heap.size,2,none⟩=some (I lp):=H6.out.row.2 2;have q3:(w6).cell? ⟨w.heap.size,3,none⟩=some (.slice R nr r):=H6.out.row.2 3;go_wp2_with fail
   go_loopw [0,6] (fun b i wr=>Ij lo (.slice A0 n c0) w #[I ep, .slice A k a,I lp, .slice R nr r] (fun j=>(bs++le ep 4++le k 1++(mo.take k).flatMap (le · 1))++le (lp+1) 1++le nr 1++(ru.take j).flatMap Uo) nr b i wr) (fun _ i _=>nr - (intOf i).toNat)
   case atStart=>exact ⟨0,n6,c6,A6,Nat.zero_le _,rfl,by go_num,by simpa using H6.out⟩
   case round=>
    obtain ⟨j,n7,c7,A7,hj,rfl,rfl,hb7⟩:=hrel;have rE:=ae hb7;clear hb7 q0 q1 q2 q3;have q0:(wr).cell? ⟨w.heap.size,0,none⟩=some (I ep):=rE.out.row.2 0;have q1:(wr).cell? ⟨w.heap.size,1,none⟩=some (.slice A k a):=rE.out.row.2 1;have q2:(wr).cell? ⟨w.heap.size,2,none⟩=some (I lp):=rE.out.row.2 2;have q3:(wr).cell? ⟨w.heap.size,3,none⟩=some (.slice R nr r):=rE.out.row.2 3;by_cases hlt:(j:Int)<(nr:Int)
    ·obtain ⟨b,off,rfl,nZ,hcl⟩:=Ia.out.there (by rw [bZ (s:=3) Lr.cells ru (fun _ _=>rfl),N8.out];omega);have hx:ru[j]? =some (ru[j]'(by rw [N8.out];omega)):=bK _;obtain ⟨x,hxx⟩:∃x,ru[j]'(by rw [N8.out];omega)=x:=⟨_,rfl⟩;rw [hxx] at hx;have EC:Hid (∀i u,x.cells[i]? =some u->w.cell? ⟨b,off+j*3+i,none⟩=some u):=ae (fun i u hu=>by rw [Nat.add_assoc];exact hcl _ _ (by rw [flat_get (s:=3) Lr.cells ru (fun _ _=>rfl) j i x hx (by have:=(gQ.1 hu).1;simpa [Lr.cells] using this)];exact hu));have HX:=ae hx;have hfx:=yu.out x (gZ hx);clear hcl hx hxx;have z0:(wr).cell? ⟨b,off+j*3,none⟩=some (I x.every):=((rE.out.low AO.out hlo).cell (p:=⟨b,off+j*3,none⟩) nZ).trans (EC.out 0 _ rfl);have z1:(wr).cell? ⟨b,off+j*3+1,none⟩=some (I x.rest):=((rE.out.low AO.out hlo).cell (p:=⟨b,off+j*3+1,none⟩) nZ).trans (EC.out 1 _ rfl);have z2:(wr).cell? ⟨b,off+j*3+2,none⟩=some (.bool x.yes):=((rE.out.low AO.out hlo).cell (p:=⟨b,off+j*3+2,none⟩) nZ).trans (EC.out 2 _ rfl);go_wp2_with fail;refine (dZ lo _ _ 2 _ _ x.every _ rE.out.len (by have h:=rE.out.len;have g:=FM.out k;have g2:=FR.out j;(try simp only [bF,aC] at h);omega) (by omega) hfx.1 (Nat.le_trans hlo rE.out.keep.size) rE.out.own).mono ?_;rintro e w8 ⟨A8,n8,c8,l1,rfl,o1,k1⟩;have H8:=ae (rE.out.next o1 l1 k1);clear l1 o1 k1;clear q0 q1 q2 q3 z0 z1 z2;have q0:(w8).cell? ⟨w.heap.size,0,none⟩=some (I ep):=H8.out.row.2 0;have q1:(w8).cell? ⟨w.heap.size,1,none⟩=some (.slice A k a):=H8.out.row.2 1;have q2:(w8).cell? ⟨w.heap.size,2,none⟩=some (I lp):=H8.out.row.2 2;have q3:(w8).cell? ⟨w.heap.size,3,none⟩=some (.slice (some ⟨b,off,none⟩) nr r):=H8.out.row.2 3;have z0:(w8).cell? ⟨b,off+j*3,none⟩=some (I x.every):=((H8.out.low AO.out hlo).cell (p:=⟨b,off+j*3,none⟩) nZ).trans (EC.out 0 _ rfl);have z1:(w8).cell? ⟨b,off+j*3+1,none⟩=some (I x.rest):=((H8.out.low AO.out hlo).cell (p:=⟨b,off+j*3+1,none⟩) nZ).trans (EC.out 1 _ rfl);have z2:(w8).cell? ⟨b,off+j*3+2,none⟩=some (.bool x.yes):=((H8.out.low AO.out hlo).cell (p:=⟨b,off+j*3+2,none⟩) nZ).trans (EC.out 2 _ rfl);go_wp2_with fail;refine (dZ lo _ _ 2 _ _ x.rest _ H8.out.len (by have h:=H8.out.len;have g:=FM.out k;have g2:=FR.out j;(try simp only [bF,aC] at h);omega) (by omega) hfx.2 (Nat.le_trans hlo H8.out.keep.size) H8.out.own).mono ?_;rintro e w9 ⟨A9,n9,c9,l1,rfl,o1,k1⟩;have H9:=ae (H8.out.next o1 l1 k1);clear l1 o1 k1;clear q0 q1 q2 q3 z0 z1 z2;have q0:(w9).cell? ⟨w.heap.size,0,none⟩=some (I ep):=H9.out.row.2 0;have q1:(w9).cell? ⟨w.heap.size,1,none⟩=some (.slice A k a):=H9.out.row.2 1;have q2:(w9).cell? ⟨w.heap.size,2,none⟩=some (I lp):=H9.out.row.2 2;have q3:(w9).cell? ⟨w.heap.size,3,none⟩=some (.slice (some ⟨b,off,none⟩) nr r):=H9.out.row.2 3;have z0:(w9).cell? ⟨b,off+j*3,none⟩=some (I x.every):=((H9.out.low AO.out hlo).cell (p:=⟨b,off+j*3,none⟩) nZ).trans (EC.out 0 _ rfl);have z1:(w9).cell? ⟨b,off+j*3+1,none⟩=some (I x.rest):=((H9.out.low AO.out hlo).cell (p:=⟨b,off+j*3+1,none⟩) nZ).trans (EC.out 1 _ rfl);have z2:(w9).cell? ⟨b,off+j*3+2,none⟩=some (.bool x.yes):=((H9.out.low AO.out hlo).cell (p:=⟨b,off+j*3+2,none⟩) nZ).trans (EC.out 2 _ rfl);go_wp2_with fail;refine (flag_r x.yes _).mono ?_;rintro e wf ⟨rfl,rfl⟩;go_wp2_with fail;refine (dZ lo _ _ 1 _ _ (Oy x.yes) _ H9.out.len (by have h:=H9.out.len;have g:=FM.out k;have g2:=FR.out j;(try simp only [bF,aC] at h);omega) (by omega) (by unfold Oy;split<;>exact ⟨by omega,by omega⟩) (Nat.le_trans hlo H9.out.keep.size) H9.out.own).mono ?_;rintro e w10 ⟨A10,n10,c10,l1,rfl,o1,k1⟩;have H10:=ae (H9.out.next o1 l1 k1);clear l1 o1 k1;go_wp2_with fail;go_roundw
     case rel=>exact ⟨j+1,n10,c10,A10,by omega,rfl,by go_num,by show CB _ _ _ _ (_++(ru.take (j+1)).flatMap Uo) _ _ _ _;rw [qY _ _ _ _ HX.out,<-List.append_assoc];simpa [Uo,List.append_assoc] using H10.out⟩
     case measure=>simp [intOf];omega
    ·have hj2:j=nr:=by omega
     have HJ:=ae hj2;clear hj2;go_wp2_with fail;go_ret;have hb:=rE.out;rw [HJ.out,List.take_of_length_le (Nat.le_of_eq N8.out),List.take_of_length_le (Nat.le_of_eq FO.out)] at hb;refine ⟨A7,n7,c7,?_,rfl,?_,hb.keep⟩
     ·rw [<-hb.len];simp [sH,FO.out,N8.out,List.append_assoc]
     ·have:=hb.own;simpa [sH,FO.out,N8.out,List.append_assoc] using this
end Go.Proofs.YtbaehbbonkljpaaGreatDoor
