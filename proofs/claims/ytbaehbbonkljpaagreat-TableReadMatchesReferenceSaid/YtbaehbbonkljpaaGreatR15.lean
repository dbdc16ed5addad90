/- The texts Jc, Jd, Qe, Qf, Qg, Ne, in this order. -/
import Derived.Test.YtbaehbbonkljpaaGreatR00
import Derived.Test.YtbaehbbonkljpaaGreatR01
import Derived.Test.YtbaehbbonkljpaaGreatR05
import Derived.Test.YtbaehbbonkljpaaGreatR09
import Derived.Test.YtbaehbbonkljpaaGreatR10
import Derived.Test.YtbaehbbonkljpaaGreatR14
set_option maxRecDepth 10000
set_option maxHeartbeats 8000000
namespace Go.Proofs.YtbaehbbonkljpaaGreat
open Go Go.RowKit
def uI (c:Cal) (y:Int) (m:Nat):Int:=(c.aj[m]?.getD 0)+(bif (m:Int)==c.aY then (bif yf c.rules y then 1 else 0) else 0)
def jS (c:Cal) (y:Int):Nat→Int
 |0=>0
 |m+1=>jS c y m+uI c y m
def uw (c:Cal) (y:Int):Int:=jS c y c.aj.length
theorem vF (c:Cal) (y:Int) (m:Nat) (hc:eH c) (hm:m<c.aj.length):1≤uI c y m∧uI c y m≤41:=by
 have h1:=hc.mo (c.aj[m]) (List.getElem_mem hm);unfold uI;rw [bZ hm,Option.getD_some];cases (m:Int)==c.aY<;>cases yf c.rules y<;>simp only [cond_true,cond_false]<;>omega
theorem qV (c:Cal) (y:Int) (hc:eH c) (k:Nat) (hk:k≤c.aj.length):(k:Int)≤jS c y k∧jS c y k≤41*(k:Int):=by
 induction k with
 |zero=>exact ⟨by show (0:Int)≤0;omega,by show (0:Int)≤41*0;omega⟩
 |succ k ih=>
  have h1:=ih (by omega);have h2:=vF c y k hc (by omega);show _≤jS c y k+uI c y k∧jS c y k+uI c y k≤_;omega
theorem lD (c:Cal) (y:Int) (hc:eH c):1≤uw c y∧uw c y≤656:=by
 have h1:=qV c y hc c.aj.length (Nat.le_refl _);have h2:=hc.ml;unfold uw;omega
theorem eH.aY {c:Cal} (hc:eH c):∀r∈c.rules,1≤r.every∧r.every≤400:=fun r hr=>(qj c.rules 1 hc.per r hr).1
theorem TJ (c:Cal) (A R:Option Addr) (a r:Nat) (S:Value) (y:Int) (m:Nat) (w:World) (hc:eH c) (h:nD w w.heap.size A R c) (hm:m<c.aj.length):Calls Tryz.prog 116 #[.agg (jK c A a R r S),I y,I ((m:Int)+1)] w (Gives (I (uI c y m)) w):=by
 have HL:=ae (fun (W:World) (hb:Below w.heap.size w W)=>leapG c A R a r S y W hc.rl hc.aY ⟨(h.aj.keep hb).more hb.size,(h.rules.keep hb).more hb.size⟩);obtain ⟨x,hx⟩:∃x,c.aj[m]? =some x:=⟨_,bZ hm⟩;have hxb:=hc.mo x (gU hx);have h16:=hc.ml;have HE:Hid (uI c y m=x+(bif (m:Int)==c.aY then (bif yf c.rules y then 1 else 0) else 0)):=ae (by unfold uI;rw [hx,Option.getD_some]);obtain ⟨lv,hlv⟩:∃b,yf c.rules y=b:=⟨_,rfl⟩;rw [hlv] at HE HL;obtain ⟨n,hn⟩:∃n,c.rules.length=n:=⟨_,rfl⟩;obtain ⟨mm,hmm⟩:∃n,c.aj.length=n:=⟨_,rfl⟩;obtain ⟨ep,lL⟩:∃n,c.aJ=n:=⟨_,rfl⟩;obtain ⟨lp,hlp⟩:∃n,c.aY=n:=⟨_,rfl⟩;have e0:jK c A a R r S= #[I ep, .slice A mm a,I lp, .slice R n r,S]:=by rw [←hn,←hmm,←lL,←hlp];rfl
 rw [hlp] at HE;rw [e0] at HL ⊢;rw [hmm] at hm h16;have hM:mm=(c.aj.map I).length:=by rw [List.length_map,hmm]
 obtain ⟨b,off,rfl,hb,hcl⟩:=h.aj.there (by omega);have f0:w.cell? ⟨b,off+m,none⟩=some (I x):=hcl m _ (by rw [List.getElem?_map,hx];rfl);have hne:¬b=w.heap.size:=by omega
 have HV:=ae (jw.start w #[I ep, .slice (some ⟨b,off,none⟩) mm a,I lp, .slice R n r,S] (204));have i0:(0:Int)≤(m:Int):=by omega
 have i1:(m:Int)<(mm:Int):=by omega
 have iw:IntKind.i64.wrap ((m:Int)+1 - 1)=(m:Int):=by rw [IntKind.wrap_i64];omega
 have iw2:(m:Int)+1 - 1=(m:Int):=by omega
 clear hc h hcl hn hmm lL hlp e0 hlv hx hM;obtain ⟨t,ht⟩:∃t,((m:Int)==lp)=t:=⟨_,rfl⟩;rw [ht] at HE;cases t with
 |true=>
  go_enter Tryz.func116,Tryz.ntmps116;go_wp2_with fail;refine (HL.out _ HV.out.up).mono ?_;rintro e w1 ⟨rfl,hb1⟩;have HW:=ae (HV.out.grow hb1);clear hb1;cases lv
  all_goals
   go_wp2_with fail;go_ret;exact ⟨by rw [HE.out];first|rfl|(rw [cond_true,cond_false,Int.add_zero];rfl),HW.out.up⟩
 |false=>
  go_enter Tryz.func116,Tryz.ntmps116;go_wp2_with fail;go_ret;exact ⟨by rw [HE.out,cond_false,Int.add_zero];rfl,HV.out.up⟩
theorem ZF (c:Cal) (A R:Option Addr) (a r:Nat) (S:Value) (y:Int) (w:World) (hc:eH c) (h:nD w w.heap.size A R c):Calls Tryz.prog 110 #[.agg (jK c A a R r S),I y] w (Gives (I (uw c y)) w):=by
 have OE:=ae (fun (m:Nat) (hm:m<c.aj.length) (W:World) (hb:Below w.heap.size w W)=>TJ c A R a r S y m W hc (h.grow hb) hm);obtain ⟨n,hn⟩:∃n,c.rules.length=n:=⟨_,rfl⟩;obtain ⟨mm,hmm⟩:∃n,c.aj.length=n:=⟨_,rfl⟩;obtain ⟨ep,lL⟩:∃n,c.aJ=n:=⟨_,rfl⟩;obtain ⟨lp,hlp⟩:∃n,c.aY=n:=⟨_,rfl⟩;have h16:=hc.ml;have JW:=ae (qV c y hc);have Vo:=ae (vF c y · hc);have HY:Hid (uw c y=jS c y mm):=ae (by unfold uw;rw [hmm]);have e0:jK c A a R r S= #[I ep, .slice A mm a,I lp, .slice R n r,S]:=by rw [←hn,←hmm,←lL,←hlp];rfl
 rw [e0] at OE ⊢;rw [hmm] at OE JW h16;simp only [hmm] at Vo;have HV:=ae (jw.start w #[I ep, .slice A mm a,I lp, .slice R n r,S] (204));have ha:(Tryz.prog.info? (204)).map (·.size)=some 5:=by kernel_rfl
 clear hc h hn hmm lL hlp e0;go_enter Tryz.func110,Tryz.ntmps110;go_wp2_with fail
 go_loopw [5,11] (fun s i wr=>∃k:Nat,k≤mm∧s=I (jS c y k)∧i=I (k:Int)∧jw w #[I ep, .slice A mm a,I lp, .slice R n r,S] wr) (fun _ i _=>mm - (intOf i).toNat)
 case atStart=>exact ⟨0,Nat.zero_le _,rfl,rfl,HV.out⟩
 case round=>
  obtain ⟨k,hk,rfl,rfl,hv⟩:=hrel;have kS:=ae hv;clear hv HV;by_cases hlt:k<mm
  ·have v0:=kS.out.row.2 0;have v1:=kS.out.row.2 1;have v2:=kS.out.row.2 2;have v3:=kS.out.row.2 3;have v4:=kS.out.row.2 4;have i0:(0:Int)≤(k:Int):=by omega
   have i1:(k:Int)<(mm:Int):=by omega
   have b1:=JW.out k hk;have b2:=Vo.out k hlt;have HC:=ae (OE.out k hlt wr kS.out.up);have EI:Hid (jS c y (k+1)=jS c y k+uI c y k):=ae rfl;obtain ⟨s,hs⟩:∃s,jS c y k=s:=⟨_,rfl⟩;obtain ⟨q,hq⟩:∃s,uI c y k=s:=⟨_,rfl⟩;rw [hs,hq] at EI;rw [hq] at HC b2;rw [hs] at b1 ⊢;have sw:IntKind.i64.wrap (s+q)=s+q:=by rw [IntKind.wrap_i64];omega
   clear hs hq;go_wp2_with fail;refine HC.out.mono ?_;rintro e w1 ⟨rfl,hb1⟩;have jk:=ae (kS.out.grow hb1);clear hb1 kS v0 v1 v2 v3 v4 HC;go_wp2_with fail;go_roundw
   case rel=>exact ⟨k+1,by omega,by rw [EI.out],by go_num,jk.out⟩
   case measure=>simp [intOf];omega
  ·have hkn:k=mm:=by omega
   have hlt':¬(k:Int)<(mm:Int):=by omega
   have HF:Hid (uw c y=jS c y k):=ae (by rw [HY.out,hkn]);clear hlt hkn;go_wp2_with fail;go_ret;exact ⟨by rw [HF.out];rfl,kS.out.up⟩
theorem PG (c:Cal) (A R:Option Addr) (a r:Nat) (y:Int) (m:Nat) (w:World) (hc:eH c) (h:nD w w.heap.size A R c) (hm:m<c.aj.length):Calls Tryz.prog 108 #[.agg (aH c A a R r),I y,I ((m:Int)+1)] w (Gives (I (uI c y m)) w):=by
 have OE:=ae (fun (W:World) (hb:Below w.heap.size w W)=>TJ c A R a r (.slice none 0 0) y m W hc (h.grow hb) hm);have jJ:=ae (fun (W:World) (hb:Below w.heap.size w W)=>nJ c A R a r W (h.grow hb));obtain ⟨n,hn⟩:∃n,c.rules.length=n:=⟨_,rfl⟩;obtain ⟨mm,hmm⟩:∃n,c.aj.length=n:=⟨_,rfl⟩;obtain ⟨ep,lL⟩:∃n,c.aJ=n:=⟨_,rfl⟩;obtain ⟨lp,hlp⟩:∃n,c.aY=n:=⟨_,rfl⟩;have h16:=hc.ml;have e1:aH c A a R r= #[I ep, .slice A mm a,I lp, .slice R n r]:=by rw [←hn,←hmm,←lL,←hlp];rfl
 have e2:∀S,jK c A a R r S= #[I ep, .slice A mm a,I lp, .slice R n r,S]:=fun S=>by rw [←hn,←hmm,←lL,←hlp];rfl
 have HV:=ae (jw.start w #[I ep, .slice A mm a,I lp, .slice R n r] 50);obtain ⟨q,hq⟩:∃q,uI c y m=q:=⟨_,rfl⟩;rw [hq,e2] at OE;rw [oG hc,e1] at jJ;rw [e1];rw [hq];rw [hmm] at hm;have p1:¬(m:Int)+1<1:=by omega
 have p2:¬(mm:Int)<(m:Int)+1:=by omega
 clear hc h hn hmm lL hlp e1 e2 hq hm;go_enter Tryz.func108,Tryz.ntmps108;go_wp2_with fail;refine (jJ.out _ HV.out.up).mono ?_;rintro e w1 ⟨rfl,hb1⟩;have kS:=ae (HV.out.grow hb1);have v0:=kS.out.row.2 0;have v1:=kS.out.row.2 1;have v2:=kS.out.row.2 2;have v3:=kS.out.row.2 3;clear hb1 jJ HV;go_wp2_with fail;refine (OE.out _ kS.out.up).mono ?_;rintro e w2 ⟨rfl,hb2⟩;have jk:=ae (kS.out.grow hb2);clear hb2 OE kS v0 v1 v2 v3;go_wp2_with fail;go_ret;exact ⟨rfl,jk.out.up⟩
theorem UW (c:Cal) (A R:Option Addr) (a r:Nat) (y:Int) (w:World) (hc:eH c) (h:nD w w.heap.size A R c):Calls Tryz.prog 92 #[.agg (aH c A a R r),I y] w (Gives (I (uw c y)) w):=by
 have OE:=ae (fun (W:World) (hb:Below w.heap.size w W)=>ZF c A R a r (.slice none 0 0) y W hc (h.grow hb));have jJ:=ae (fun (W:World) (hb:Below w.heap.size w W)=>nJ c A R a r W (h.grow hb));obtain ⟨n,hn⟩:∃n,c.rules.length=n:=⟨_,rfl⟩;obtain ⟨mm,hmm⟩:∃n,c.aj.length=n:=⟨_,rfl⟩;obtain ⟨ep,lL⟩:∃n,c.aJ=n:=⟨_,rfl⟩;obtain ⟨lp,hlp⟩:∃n,c.aY=n:=⟨_,rfl⟩;have h16:=hc.ml;have e1:aH c A a R r= #[I ep, .slice A mm a,I lp, .slice R n r]:=by rw [←hn,←hmm,←lL,←hlp];rfl
 have e2:∀S,jK c A a R r S= #[I ep, .slice A mm a,I lp, .slice R n r,S]:=fun S=>by rw [←hn,←hmm,←lL,←hlp];rfl
 have HV:=ae (jw.start w #[I ep, .slice A mm a,I lp, .slice R n r] 50);obtain ⟨q,hq⟩:∃q,uw c y=q:=⟨_,rfl⟩;rw [hq,e2] at OE;rw [oG hc,e1] at jJ;rw [e1];rw [hq];clear hc h hn hmm lL hlp e1 e2 hq h16;go_enter Tryz.func92,Tryz.ntmps92;go_wp2_with fail;refine (jJ.out _ HV.out.up).mono ?_;rintro e w1 ⟨rfl,hb1⟩;have kS:=ae (HV.out.grow hb1);have v0:=kS.out.row.2 0;have v1:=kS.out.row.2 1;have v2:=kS.out.row.2 2;have v3:=kS.out.row.2 3;clear hb1 jJ HV;go_wp2_with fail;refine (OE.out _ kS.out.up).mono ?_;rintro e w2 ⟨rfl,hb2⟩;have jk:=ae (kS.out.grow hb2);clear hb2 OE kS v0 v1 v2 v3;go_wp2_with fail;go_ret;exact ⟨rfl,jk.out.up⟩
section
variable {P:Program} {ops:Array Oper} {o:Oper} {a:Act} {w:World} {K:Act→World→Prop} {Q:Exit→Act→World→Prop} {E:Prop}
theorem jg (hgd:o.guard=none) (t:TypeId) (ho:o.op= .alloc t) (cells:Array Value) (hz:(P.info? t).map (fun i=>(i.zero,i.size))=some (some (.agg cells),cells.size))
  (h:K (a.put o.dst (.pointer (some ⟨w.heap.size,0,none⟩))) (w.alloc (.cells cells t))):if Region.wanted o (yielded ops a.tmps)=true then Oper.wp P o a w K Q else E:=by
 have hw:Region.wanted o (yielded ops a.tmps)=true:=by simp [Region.wanted,hgd]
 rw [if_pos hw];unfold Oper.wp execOp;simp only [ho,Sem.run_bind,kC w t (.agg cells) _ hz,Result.andThen_ok];exact h
theorem jh (hgd:o.guard=none) (ty:TypeId) (x y:Operand) (ho:o.op= .store ty x y) (g:Nat) (cells:Array Value) (hx:a.eval x= .pointer (some ⟨g,0,none⟩)) (hy:a.eval y= .agg cells)
  (t:TypeId) (old:Array Value) (hg:w.heap[g]? =some (.cells old t (0,0))) (hi:(P.info? ty).map (·.size)=some cells.size) (hold:old.size=cells.size) (h1:cells.all (·.oneCell')=true)
  (h:K (a.put o.dst undef) (w.setRow g cells)):if Region.wanted o (yielded ops a.tmps)=true then Oper.wp P o a w K Q else E:=by
 have hw:Region.wanted o (yielded ops a.tmps)=true:=by simp [Region.wanted,hgd]
 rw [if_pos hw];exact wp_store_row ty x y ho g cells hx hy t old hg hi hold h1 h
end
theorem bW (w:World) (t:TypeId) (cs:Array Value) (l:List Value) (h:cs.toList=l):∀j u,l[j]? =some u→(w.alloc (.cells cs t)).cell? ((⟨w.heap.size,0,none⟩:Addr).add j)=some u:=by
 intro j u hu;rw [addr_add,cell_of_row _ _ j _ _ _ (heap_alloc_last w _),←Array.getElem?_toList,h];exact hu
theorem own_below {w w':World} {base e size n:Nat} {v:Value} {xs:List Value} (h:w.ownsRow base e size v n xs) (hb:Below w.heap.size w w'):w'.ownsRow base e size v n xs:=
 World.ownsRow.kept (row:=none) h ⟨hb.os,hb.tape,hb.output,hb.size,fun k hk _=>hb.block k hk⟩ (by cases v.ownBlock<;>simp)
theorem UO {P:Program} {ops:Array Oper} {Q:Exit→Act→World→Prop} {md:Region.Mode} {S:World→Prop} {i:Nat} {oi:Oper} {v:Value} {d:Tmp} {fuel:Nat} {listed:Array Bool} {a:Act} {w:World} (hi:ops[i]? =some oi) (hd:oi.dst=some d)
  (hs:Region.noSelect ops=true) (hf:Region.free md ops listed i=true) (hr:(Region.ready md ops listed).contains i=true)
  (hQ:∀c a w,Q (.panic c) (a.put oi.dst v) w→Q (.panic c) a w) (hy:YieldsIf P ops S oi v a) (hS:S w)
  (h:wpAnyH P md ops Q S fuel (listed.setIfInBounds i true) (a.put (some d) v) w):wpAnyH P md ops Q S (fuel+1) listed a w:=
 wpAnyH_take hi hs hf hr hQ hy hS (by rw [hd];exact h)
theorem bP {P:Program} {ops:Array Oper} {S:World→Prop} {op:Oper} {a:Act} (hw:Region.wanted op (yielded ops a.tmps)=true) (t:TypeId) (parts:Array (Nat×Operand)) (ho:op.op= .build t parts) (cells:Array Value)
  (hb:P.built t (parts.map fun (i,x)=>(i,a.eval x)).toList=some cells):YieldsIf P ops S op (.agg cells) a:=
 .inl ⟨hw,fun w _=>by
  unfold execOp;simp only [ho,Sem.run_bind,run_build w t _ cells hb,Result.andThen_ok];rfl⟩
theorem nV (W:World) (o:Obj):(W.alloc o).heap.size=W.heap.size+1:=by simp
theorem AV.oO {b:Nat} {t:TypeId} {cs:Array Value} {W:World} (h:AV b t cs W) (ds:Array Value):AV b t ds (W.setRow b ds):=⟨setRow_heap _ _ _ _ _ _ h.var⟩
theorem AV.qO {b c:Nat} {t:TypeId} {cs:Array Value} {W:World} (h:AV b t cs W) (hn:b≠c) (ds:Array Value):AV b t cs (W.setRow c ds):=⟨(setRow_other _ _ b _ hn).trans h.var⟩
theorem AV.kz {b:Nat} {t:TypeId} {cs:Array Value} {W:World} (h:AV b t cs W):oL W b cs:=⟨h.lt,h.cell⟩
structure rE (w:World) (cc:List Value) (vb k c:Nat) (A:Option Addr) (ss:List Int) (W:World):Prop where
 lo:Below w.heap.size w W
 it:AV w.heap.size 50 cc.toArray W
 r:AV (w.heap.size+1) 204 #[I 0, .slice none 0 0,I 0, .slice none 0 0, .slice none 0 0] W
 ge:w.heap.size+2≤vb
 var:AV vb 204 (cc++ [Value.slice A k c]).toArray W
 own:W.ownsRow (w.heap.size+2) 3 1 (.slice A k c) k (ss.map I)
 ne:some vb≠(Value.slice A k c).ownBlock
section
variable {w W W':World} {cc:List Value} {vb k c:Nat} {A:Option Addr} {ss:List Int}
theorem rE.grow (h:rE w cc vb k c A ss W) (hb:Below W.heap.size W W'):rE w cc vb k c A ss W':=⟨ai h.lo hb,h.it.below hb,h.r.below hb,h.ge,h.var.below hb,own_below h.own hb,h.ne⟩
theorem rE.drew (h:rE w cc vb k c A ss W):rE w cc vb k c A ss W.drew:=h.grow ((Below.refl _ W).drew)
theorem rE.there (h:rE w cc vb (k+1) c A ss W):∃g,A=some ⟨g,0,none⟩∧w.heap.size+2≤g∧g<W.heap.size∧k+1≤c∧∀(j:Nat) (s:Int),ss[j]? =some s→W.cell? ⟨g,j,none⟩=some (I s):=by
 rcases h.own.2 with ⟨_,hn⟩|⟨g,cap,cur,hv,hg,hh,hc,_,_,ht⟩
 ·omega
 ·injection hv with h1 h2 h3;refine ⟨g,h1,hg,(bK.1 hh).1,by omega,fun j s hs=>?_⟩;rw [cell_of_row W g j _ _ _ hh,←Array.getElem?_toList];have h4:(ss.map I)[j]? =some (I s):=by rw [List.getElem?_map,hs];rfl
  rw [←ht] at h4;rw [List.getElem?_take] at h4;split at h4
  ·exact h4
  ·cases h4
theorem rE.add {Wb w6:World} {gg cap:Nat} {s:Int} (h:rE w cc vb k c A ss W) (h4:cc.length=4) (Fb:Wb=W.alloc (.cells #[I s] 3))
  (hown:w6.ownsRow (w.heap.size+2) 3 1 (.slice (Option.some ⟨gg,0,none⟩) (k+1) cap) (k+1) (ss.map I++ [I s])) (hg:Wb.grownBy w6 (Value.slice A k c).ownBlock) (hat:(Value.slice A k c).ownBlock=Option.some gg∨gg=Wb.heap.size):
  rE w cc vb (k+1) cap (Option.some ⟨gg,0,none⟩) (ss++ [s]) (w6.setCell ⟨vb,4,none⟩ (.slice (Option.some ⟨gg,0,none⟩) (k+1) cap)):=by
 have hsb:Wb.heap.size=W.heap.size+1:=by rw [Fb];simp
 have hlt:=h.var.lt;have hle:=h.lo.size;have hrl:=h.r.lt;have hbl:∀b,b<W.heap.size→Option.some b≠(Value.slice A k c).ownBlock→w6.heap[b]? =W.heap[b]? :=fun b hb hn=>
  (hg.block b (by omega) hn).trans (by rw [Fb];exact Below.heap_alloc W _ b hb)
 have hlow:∀b,b<w.heap.size+2→Option.some b≠(Value.slice A k c).ownBlock:=dZ h.own;have hset:∀b,b≠vb→(w6.setCell ⟨vb,4,none⟩ (.slice (Option.some ⟨gg,0,none⟩) (k+1) cap)).heap[b]? =w6.heap[b]? :=fun b hb=>heap_setCell_other w6 ⟨vb,4,none⟩ b _ hb;have hge:=h.ge;have hne:vb≠gg:=fun e=>by
  rcases hat with e3|e3
  ·exact h.ne (by rw [e];exact e3.symm)
  ·omega
 have h1:Below w.heap.size w Wb:=by rw [Fb];exact ai h.lo (ag W _)
 have hob:Wb.ownsRow (w.heap.size+2) 3 1 (.slice A k c) k (ss.map I):=by rw [Fb];exact own_below h.own (ag W _)
 have hv6:AV vb (204) (cc++ [Value.slice A k c]).toArray w6:=⟨(hbl _ hlt h.ne).trans h.var.var⟩;have hup:Below w.heap.size w w6:=dm h1 (aK hob (by omega)) h1.size hg;refine ⟨hup.setCell (p:=⟨vb,4,none⟩) (by show w.heap.size≤vb;omega) _,⟨(hset _ (by omega)).trans ((hbl _ (by omega) (hlow _ (by omega))).trans h.it.var)⟩,⟨(hset _ (by omega)).trans ((hbl _ (by omega) (hlow _ (by omega))).trans h.r.var)⟩,hge,?_,?_,fun e=>?_⟩
 ·have h2:=hv6.put 4 (.slice (Option.some ⟨gg,0,none⟩) (k+1) cap);have e:(cc++ [Value.slice A k c]).toArray.setIfInBounds 4 (.slice (Option.some ⟨gg,0,none⟩) (k+1) cap)=(cc++ [Value.slice (Option.some ⟨gg,0,none⟩) (k+1) cap]).toArray:=by
   match cc,h4 with
   | [a,b,c,d],_=>rfl
  rw [e] at h2;exact h2
 ·rw [List.map_append];exact bY (p:=⟨vb,4,none⟩) hown (fun e=>hne (by simpa [Value.ownBlock] using e))
 ·have:vb=gg:=by simpa [Value.ownBlock] using e
  exact hne this
end
section
variable {P:Program} {ops:Array Oper} {o:Oper} {a:Act} {w:World} {K:Act→World→Prop} {Q:Exit→Act→World→Prop} {E:Prop}
theorem gV (hgd:o.guard=none) (ty:TypeId) (x:Operand) (ho:o.op= .load ty x) (b off:Nat) (hx:a.eval x= .pointer (some ⟨b,off,none⟩)) (cs:List Value) (d:TypeDesc) (hr:w.rangeAt b off cs)
  (hu:P.underlying ty=some d) (hd:d.isRow=true) (hi:(P.info? ty).map (·.size)=some cs.length) (h:K (a.put o.dst (.agg cs.toArray)) w):if Region.wanted o (yielded ops a.tmps)=true then Oper.wp P o a w K Q else E:=by
 have hw:Region.wanted o (yielded ops a.tmps)=true:=by simp [Region.wanted,hgd]
 rw [if_pos hw];exact wp_load_mid ty x ho b off hx cs d hr hu hd hi h
end
theorem memo {G:Prop} {T:World→Prop} {C:World→Prop} (f:(∀W,C W→T W)→G) (h:∀W,C W→T W):G:=f h
theorem PE (n:Nat) (hn:n≤1000) (W:World):(Instr.makeSlice 47 (.int .i64 1) (.int .i64 ((n:Int)+1))).run Tryz.prog W= .ok (.slice (some ⟨W.heap.size,0,none⟩) 1 (n+1)) (W.alloc (.cells (Array.replicate (n+1) (I 0)) 3)):=by
 obtain ⟨i0,hi,hz0,hz1,hz2⟩:=info_parts sN;have h:=run_makeSlice (P:=Tryz.prog) (w:=W) 47 3 i0 (.int .i64 0) Tryz.underlying47 hi hz0 .i64 .i64 1 ((n:Int)+1) (by omega) (by omega) (by rw [hz1];omega) (by rw [hz2];omega) (by omega);rw [hz1] at h;have e:madeCells (Value.int .i64 0).cells ((((n:Int)+1).toNat)*1)=Array.replicate (n+1) (I 0):=by
  apply Array.ext';simp [madeCells,Value.cells,Nat.mod_one];apply List.ext_getElem
  ·simp
  ·intro j h1 h2;simp
 rw [e] at h;rw [h];congr 2
end Go.Proofs.YtbaehbbonkljpaaGreat
