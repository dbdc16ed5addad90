/- The texts Nc, Nd, Dq, Qe, Qf, Qg, in this order. -/
import Derived.Test.YtdibbemgpikgjaaGreatDoorY00
import Derived.Test.YtdibbemgpikgjaaGreatDoorY01
import Derived.Test.YtdibbemgpikgjaaGreatDoorY05
import Derived.Test.YtdibbemgpikgjaaGreatDoorY12
set_option maxRecDepth 10000
set_option maxHeartbeats 8000000
namespace Go.Proofs.YtdibbemgpikgjaaGreatDoor
open Go Go.RowKit
attribute [local go_sem] jw aG
theorem TS (c:Cal) (A R:Option Addr) (a r:Nat) (S:Value) (y m:Int) (w:World) (hc:gW c) (h:nX w w.heap.size A R c) (hm:m=1∨m=2):Calls Tryz.prog 127 #[.agg (jw c A a R r S),I y,I m] w (Gives (I (dn c y m)) w):=by
 have HL:=ae (fun (W:World) (hb:Below w.heap.size w W)=>leapA c A R a r S y W hc ((h.az.keep hb).more hb.size |> fun h1=>⟨h1,(h.rules.keep hb).more hb.size⟩));obtain ⟨n,hn⟩:∃n,c.rules.length=n:=⟨_,rfl⟩;have hMF:=ae (show dn c y m=dn c y m from rfl);obtain ⟨lv,hlv⟩:∃b,pW c y=b:=⟨_,rfl⟩;rw [hlv] at HL;obtain ⟨ep,m0,m1,lp,rs,rfl,b1,b2,b3,b4,hrs⟩:=hc.form;simp only at hn;obtain ⟨b,off,rfl,hb,hcl⟩:=h.az.there (by show 0<2;omega);have f0:w.cell? ⟨b,off,none⟩=some (I m0):=hcl 0 _ rfl;have f1:w.cell? ⟨b,off+1,none⟩=some (I m1):=hcl 1 _ rfl;have hne:¬b=w.heap.size:=by omega
 have e0:(jw ⟨ep,[m0,m1],lp,rs⟩ (some ⟨b,off,none⟩) a R r S)= #[I ep, .slice (some ⟨b,off,none⟩) 2 a,I lp, .slice R n r,S]:=by rw [←hn];rfl
 rw [e0] at HL ⊢;have HV:=ae (jW.start w #[I ep, .slice (some ⟨b,off,none⟩) 2 a,I lp, .slice R n r,S] (219));have Yb:=ae hlv;clear hc h hcl hn hrs e0 hlv hMF;rcases hm with rfl|rfl
 ·by_cases hl:lp=0
  ·subst hl;have HE:Hid (dn ⟨ep,[m0,m1],0,rs⟩ y 1=m0+(if lv=true then 1 else 0)):=ae (by
    unfold dn;rw [Yb.out];cases lv<;>rfl)
   go_enter Tryz.func127,Tryz.ntmps127;go_wp2_with fail;refine (HL.out _ HV.out.up).mono ?_;rintro e w1 ⟨rfl,hb1⟩;have HW:=ae (HV.out.grow hb1);clear hb1;cases lv
   ·go_wp2_with fail;go_ret;exact ⟨by rw [HE.out];first|rfl|(rw [if_neg (by decide),Int.add_zero];rfl),HW.out.up⟩
   ·go_wp2_with fail;go_ret;exact ⟨by rw [HE.out];first|rfl|(rw [if_neg (by decide),Int.add_zero];rfl),HW.out.up⟩
  ·have hl2:¬(0:Int)=lp:=fun e=>hl e.symm;have HE:Hid (dn ⟨ep,[m0,m1],lp,rs⟩ y 1=m0):=ae (by
    unfold dn;rw [if_neg (fun h=>hl h.1.symm)];show m0+0=m0;omega)
   go_enter Tryz.func127,Tryz.ntmps127;go_wp2_with fail;go_ret;exact ⟨by rw [HE.out];rfl,HV.out.up⟩
 ·by_cases hl:lp=1
  ·subst hl;have HE:Hid (dn ⟨ep,[m0,m1],1,rs⟩ y 2=m1+(if lv=true then 1 else 0)):=ae (by
    unfold dn;rw [Yb.out];cases lv<;>rfl)
   go_enter Tryz.func127,Tryz.ntmps127;go_wp2_with fail;refine (HL.out _ HV.out.up).mono ?_;rintro e w1 ⟨rfl,hb1⟩;have HW:=ae (HV.out.grow hb1);clear hb1;cases lv
   ·go_wp2_with fail;go_ret;exact ⟨by rw [HE.out];first|rfl|(rw [if_neg (by decide),Int.add_zero];rfl),HW.out.up⟩
   ·go_wp2_with fail;go_ret;exact ⟨by rw [HE.out];first|rfl|(rw [if_neg (by decide),Int.add_zero];rfl),HW.out.up⟩
  ·have hl2:¬(1:Int)=lp:=fun e=>hl e.symm;have HE:Hid (dn ⟨ep,[m0,m1],lp,rs⟩ y 2=m1):=ae (by
    unfold dn;rw [if_neg (fun h=>hl h.1.symm)];show m1+0=m1;omega)
   go_enter Tryz.func127,Tryz.ntmps127;go_wp2_with fail;go_ret;exact ⟨by rw [HE.out];rfl,HV.out.up⟩
theorem UF (c:Cal) (y:Int) (hc:gW c):dn c y 1+dn c y 2=dI c y:=by
 obtain ⟨ep,m0,m1,lp,rs,rfl,b1,b2,b3,b4,hrs⟩:=hc.form;obtain ⟨lv,hlv⟩:∃b,pW ⟨ep,[m0,m1],lp,rs⟩ y=b:=⟨_,rfl⟩;have hl:lv=true→lp=0∨lp=1:=fun h=>by
  rcases hrs with rfl|⟨q,yy,rfl,q1,q2,q3⟩
  ·rw [←hlv] at h;cases h
  ·omega
 unfold dn dI;rw [hlv];cases lv
 ·show (m0+(if (1:Int) - 1=lp∧false=true then 1 else 0))+(m1+(if (2:Int) - 1=lp∧false=true then 1 else 0))=(m0+m1)+0;rw [if_neg (fun h=>nomatch h.2),if_neg (fun h=>nomatch h.2)];omega
 ·show (m0+(if (1:Int) - 1=lp∧true=true then 1 else 0))+(m1+(if (2:Int) - 1=lp∧true=true then 1 else 0))=(m0+m1)+1;rcases hl rfl with rfl|rfl
  ·rw [if_pos ⟨rfl,rfl⟩,if_neg (fun h=>by have:=h.1;omega)];omega
  ·rw [if_neg (fun h=>by have:=h.1;omega),if_pos ⟨rfl,rfl⟩];omega
theorem YN (c:Cal) (A R:Option Addr) (a r:Nat) (S:Value) (y:Int) (w:World) (hc:gW c) (h:nX w w.heap.size A R c):Calls Tryz.prog 121 #[.agg (jw c A a R r S),I y] w (Gives (I (dI c y)) w):=by
 have Rf:=ae (fun (m:Int) (hm:m=1∨m=2) (W:World) (hb:Below w.heap.size w W)=>TS c A R a r S y m W hc (h.grow hb) hm);have Zt:=ae (UF c y hc);have q1b:=ku c y 1 hc (.inl rfl);have q2b:=ku c y 2 hc (.inr rfl);obtain ⟨n,hn⟩:∃n,c.rules.length=n:=⟨_,rfl⟩;have H1:=ae (Rf.out 1 (.inl rfl));have H2:=ae (Rf.out 2 (.inr rfl));obtain ⟨q1,hq1⟩:∃q,dn c y 1=q:=⟨_,rfl⟩;obtain ⟨q2,hq2⟩:∃q,dn c y 2=q:=⟨_,rfl⟩;rw [hq1] at H1 Zt q1b;rw [hq2] at H2 Zt q2b;obtain ⟨ep,m0,m1,lp,rs,rfl,b1,b2,b3,b4,hrs⟩:=hc.form;simp only at hn;have e0:(jw ⟨ep,[m0,m1],lp,rs⟩ A a R r S)= #[I ep, .slice A 2 a,I lp, .slice R n r,S]:=by rw [←hn];rfl
 rw [e0] at H1 H2 ⊢;have HV:=ae (jW.start w #[I ep, .slice A 2 a,I lp, .slice R n r,S] (219));have ha:(Tryz.prog.info? (219)).map (·.size)=some 5:=by kernel_rfl
 clear hc h hn hrs e0 hq1 hq2 Rf b1 b2 b3 b4;go_enter Tryz.func121,Tryz.ntmps121;go_wp2_with fail;refine wp_loop_rounds 3 ?_;rw [rounds_succ];go_wp2_with fail;refine (H1.out _ HV.out.up).mono ?_;rintro e w1 ⟨rfl,hb1⟩;have pJ:=ae (HV.out.grow hb1);have v0:=pJ.out.row.2 0;have v1:=pJ.out.row.2 1;have v2:=pJ.out.row.2 2;have v3:=pJ.out.row.2 3;have v4:=pJ.out.row.2 4;clear hb1 H1 HV;go_wp2_with fail;rw [rounds_succ];go_wp2_with fail;refine (H2.out _ pJ.out.up).mono ?_;rintro e w2 ⟨rfl,hb2⟩;have nJ:=ae (pJ.out.grow hb2);clear hb2 H2 pJ v0 v1 v2 v3 v4;go_wp2_with fail;rw [rounds_succ];go_wp2_with fail;go_ret;exact ⟨by rw [←Zt.out];rfl,nJ.out.up⟩
end Go.Proofs.YtdibbemgpikgjaaGreatDoor
namespace Go.Proofs.YtdibbemgpikgjaaGreatDoor
open Go Go.RowKit
theorem IZ (c:Cal) (A R:Option Addr) (a r:Nat) (y m:Int) (w:World) (hc:gW c) (h:nX w w.heap.size A R c) (hm:m=1∨m=2):Calls Tryz.prog 119 #[.agg (aG c A a R r),I y,I m] w (Gives (I (dn c y m)) w):=by
 have Rf:=ae (fun (W:World) (hb:Below w.heap.size w W)=>TS c A R a r (.slice none 0 0) y m W hc (h.grow hb) hm);have iP:=ae (fun (W:World) (hb:Below w.heap.size w W)=>nZ c A R a r W hc (h.grow hb));obtain ⟨n,hn⟩:∃n,c.rules.length=n:=⟨_,rfl⟩;obtain ⟨ep,m0,m1,lp,rs,rfl,b1,b2,b3,b4,hrs⟩:=hc.form;simp only at hn;have e1:aG ⟨ep,[m0,m1],lp,rs⟩ A a R r= #[I ep, .slice A 2 a,I lp, .slice R n r]:=by rw [←hn];rfl
 have e2:∀S,jw ⟨ep,[m0,m1],lp,rs⟩ A a R r S= #[I ep, .slice A 2 a,I lp, .slice R n r,S]:=fun S=>by rw [←hn];rfl
 have HV:=ae (jW.start w #[I ep, .slice A 2 a,I lp, .slice R n r] 63);obtain ⟨q,hq⟩:∃q,dn ⟨ep,[m0,m1],lp,rs⟩ y m=q:=⟨_,rfl⟩;rw [hq,e2] at Rf;rw [e1] at iP ⊢;rw [hq];have p1:¬m<1:=by omega
 have p2:¬(2:Int)<m:=by omega
 clear hc h hn hrs e1 e2 hq b1 b2 b3 b4 hm;go_enter Tryz.func119,Tryz.ntmps119;go_wp2_with fail;refine (iP.out _ HV.out.up).mono ?_;rintro e w1 ⟨rfl,hb1⟩;have pJ:=ae (HV.out.grow hb1);have v0:=pJ.out.row.2 0;have v1:=pJ.out.row.2 1;have v2:=pJ.out.row.2 2;have v3:=pJ.out.row.2 3;clear hb1 iP HV;go_wp2_with fail;refine (Rf.out _ pJ.out.up).mono ?_;rintro e w2 ⟨rfl,hb2⟩;have nJ:=ae (pJ.out.grow hb2);clear hb2 Rf pJ v0 v1 v2 v3;go_wp2_with fail;go_ret;exact ⟨rfl,nJ.out.up⟩
theorem XD (c:Cal) (A R:Option Addr) (a r:Nat) (y:Int) (w:World) (hc:gW c) (h:nX w w.heap.size A R c):Calls Tryz.prog 105 #[.agg (aG c A a R r),I y] w (Gives (I (dI c y)) w):=by
 have Rf:=ae (fun (W:World) (hb:Below w.heap.size w W)=>YN c A R a r (.slice none 0 0) y W hc (h.grow hb));have iP:=ae (fun (W:World) (hb:Below w.heap.size w W)=>nZ c A R a r W hc (h.grow hb));obtain ⟨n,hn⟩:∃n,c.rules.length=n:=⟨_,rfl⟩;obtain ⟨ep,m0,m1,lp,rs,rfl,b1,b2,b3,b4,hrs⟩:=hc.form;simp only at hn;have e1:aG ⟨ep,[m0,m1],lp,rs⟩ A a R r= #[I ep, .slice A 2 a,I lp, .slice R n r]:=by rw [←hn];rfl
 have e2:∀S,jw ⟨ep,[m0,m1],lp,rs⟩ A a R r S= #[I ep, .slice A 2 a,I lp, .slice R n r,S]:=fun S=>by rw [←hn];rfl
 have HV:=ae (jW.start w #[I ep, .slice A 2 a,I lp, .slice R n r] 63);obtain ⟨q,hq⟩:∃q,dI ⟨ep,[m0,m1],lp,rs⟩ y=q:=⟨_,rfl⟩;rw [hq,e2] at Rf;rw [e1] at iP ⊢;rw [hq];clear hc h hn hrs e1 e2 hq b1 b2 b3 b4;go_enter Tryz.func105,Tryz.ntmps105;go_wp2_with fail;refine (iP.out _ HV.out.up).mono ?_;rintro e w1 ⟨rfl,hb1⟩;have pJ:=ae (HV.out.grow hb1);have v0:=pJ.out.row.2 0;have v1:=pJ.out.row.2 1;have v2:=pJ.out.row.2 2;have v3:=pJ.out.row.2 3;clear hb1 iP HV;go_wp2_with fail;refine (Rf.out _ pJ.out.up).mono ?_;rintro e w2 ⟨rfl,hb2⟩;have nJ:=ae (pJ.out.grow hb2);clear hb2 Rf pJ v0 v1 v2 v3;go_wp2_with fail;go_ret;exact ⟨rfl,nJ.out.up⟩
def kX (x s:Int):Int:=bits BinOp.or IntKind.u32 (x*2 ^ s.toNat%4294967296) (x / 2 ^ (32 - s).toNat)
def au (zs:List Int):Array Value:=(zs.map fun z=>Value.int .u32 z).toArray
theorem aV (zs:List Int):(au zs).size=zs.length:=by simp [au]
theorem bY (zs:List Int) (i:Nat) (h:i<zs.length):(au zs)[i]? =some (.int .u32 (zs[i]?.getD 0)):=by
 simp [au,h]
theorem rF (zs:List Int) (i:Nat) (z:Int):(au zs).setIfInBounds i (.int .u32 z)=au (zs.set i z):=by
 simp [au,List.map_set]
theorem bJ (zs:List Int):(au zs).all (·.oneCell')=true:=by
 rw [Array.all_eq_true_iff_forall_mem];intro v hv;simp [au] at hv;obtain ⟨z,_,rfl⟩:=hv;rfl
section
variable {P:Program} {ops:Array Oper} {Q:Exit→Act→World→Prop} {a:Act} {w:World} {rest:List Oper} {o:Oper}
theorem aH (hg:o.guard=none) (t:TypeId) (ho:o.op= .alloc t) (cells:Array Value) (hz:(P.info? t).map (fun i=>(i.zero,i.size))=some (some (.agg cells),cells.size))
  (h:wpList P ops Q rest (a.put o.dst (.pointer (some ⟨w.heap.size,0,none⟩))) (w.alloc (.cells cells t))):wpList P ops Q (o::rest) a w:=by
 refine wpList_plain hg fun K hK=>?_;unfold Oper.wp execOp;simp only [ho,Sem.run_bind,ji w t (.agg cells) _ hz,Result.andThen_ok];exact hK _ _ h
end
def fD (w:World) (b:Nat) (cs:Array Value):Prop:=b<w.heap.size∧∀i,w.cell? ⟨b,i,none⟩=cs[i]?
section
variable {P:Program} {ops:Array Oper} {Q:Exit→Act→World→Prop} {a:Act} {w:World} {rest:List Oper} {o:Oper}
theorem aT (hw:Region.wanted o (yielded ops a.tmps)=true) (ty:TypeId) (x:Operand) (ho:o.op= .load ty x) (g:Nat) (hx:a.eval x= .pointer (some ⟨g,0,none⟩)) (cs:Array Value) (hr:fD w g cs)
  (d:TypeDesc) (hu:P.underlying ty=some d) (hd:d.isRow=true) (hi:(P.info? ty).map (·.size)=some cs.size)
  (h:wpList P ops Q rest (a.put o.dst (.agg cs)) w):wpList P ops Q (o::rest) a w:=by
 unfold wpList;rw [if_pos hw];have hc:w.rangeAt g 0 cs.toList:=fun j v hv=>by rw [Nat.zero_add,hr.2 j];simpa using hv
 refine .inl (wp_load_mid ty x ho g 0 hx cs.toList d hc hu hd (by rw [hi];simp) ?_);simpa using h
end
theorem aB {B g:Nat} {w0 w:World} (hb:Below B w0 w) (hBg:B≤g) (cs:Array Value):Below B w0 (w.setRow g cs):=
 hb.trans ⟨rfl,rfl,rfl,by simp [World.setRow],fun k hk=>setRow_other w g k cs (by omega)⟩
structure AV (b:Nat) (t:TypeId) (cs:Array Value) (W:World):Prop where
 var:W.heap[b]? =some (.cells cs t (0,0))
section
variable {b g:Nat} {t:TypeId} {cs:Array Value} {W W':World}
theorem AV.lt (h:AV b t cs W):b<W.heap.size:=(bT.1 h.var).1
theorem AV.cell (h:AV b t cs W):∀i,W.cell? ⟨b,i,none⟩=cs[i]? :=fun i=>cell_of_row W _ i _ _ _ h.var
theorem AV.dZ (h:AV b t cs W):∀i,W.frozen? ⟨b,i,none⟩=false:=fun i=>frozen_of_row W _ i _ _ h.var
theorem AV.below (h:AV b t cs W) (hb:Below W.heap.size W W'):AV b t cs W':=⟨(hb.block _ h.lt).trans h.var⟩
theorem AV.put (h:AV b t cs W) (o:Nat) (v:Value):AV b t (cs.setIfInBounds o v) (W.setCell ⟨b,o,none⟩ v):=⟨heap_setCell_same W _ o _ _ _ h.var⟩
theorem AV.far (h:AV b t cs W) (hn:b≠g) (o:Nat) (v:Value):AV b t cs (W.setCell ⟨g,o,none⟩ v):=⟨(heap_setCell_other W _ b v hn).trans h.var⟩
theorem AV.drew (h:AV b t cs W):AV b t cs W.drew:=⟨h.var⟩
theorem AV.new (W:World) (cs:Array Value) (t:TypeId):AV W.heap.size t cs (W.alloc (.cells cs t)):=⟨heap_alloc_last W _⟩
end
theorem iR:(Tryz.prog.info? 170).map (fun i=>(i.zero,i.size))=some (some (.agg (au (List.replicate 64 0))),(au (List.replicate 64 0)).size):=by kernel_rfl
section
variable {P:Program} {ops:Array Oper} {o:Oper} {a:Act} {w:World} {K:Act→World→Prop} {Q:Exit→Act→World→Prop} {E:Prop}
theorem jd (hgd:o.guard=none) (t:TypeId) (ho:o.op= .alloc t) (cells:Array Value) (hz:(P.info? t).map (fun i=>(i.zero,i.size))=some (some (.agg cells),cells.size))
  (h:K (a.put o.dst (.pointer (some ⟨w.heap.size,0,none⟩))) (w.alloc (.cells cells t))):if Region.wanted o (yielded ops a.tmps)=true then Oper.wp P o a w K Q else E:=by
 have hw:Region.wanted o (yielded ops a.tmps)=true:=by simp [Region.wanted,hgd]
 rw [if_pos hw];unfold Oper.wp execOp;simp only [ho,Sem.run_bind,ji w t (.agg cells) _ hz,Result.andThen_ok];exact h
theorem je (hgd:o.guard=none) (ty:TypeId) (x y:Operand) (ho:o.op= .store ty x y) (g:Nat) (cells:Array Value) (hx:a.eval x= .pointer (some ⟨g,0,none⟩)) (hy:a.eval y= .agg cells)
  (t:TypeId) (old:Array Value) (hg:w.heap[g]? =some (.cells old t (0,0))) (hi:(P.info? ty).map (·.size)=some cells.size) (hold:old.size=cells.size) (h1:cells.all (·.oneCell')=true)
  (h:K (a.put o.dst undef) (w.setRow g cells)):if Region.wanted o (yielded ops a.tmps)=true then Oper.wp P o a w K Q else E:=by
 have hw:Region.wanted o (yielded ops a.tmps)=true:=by simp [Region.wanted,hgd]
 rw [if_pos hw];exact wp_store_row ty x y ho g cells hx hy t old hg hi hold h1 h
end
theorem dA (w:World) (t:TypeId) (cs:Array Value) (l:List Value) (h:cs.toList=l):∀j u,l[j]? =some u→(w.alloc (.cells cs t)).cell? ((⟨w.heap.size,0,none⟩:Addr).add j)=some u:=by
 intro j u hu;rw [addr_add,cell_of_row _ _ j _ _ _ (heap_alloc_last w _),←Array.getElem?_toList,h];exact hu
theorem own_below {w w':World} {base e size n:Nat} {v:Value} {xs:List Value} (h:w.ownsRow base e size v n xs) (hb:Below w.heap.size w w'):w'.ownsRow base e size v n xs:=
 World.ownsRow.kept (row:=none) h ⟨hb.os,hb.tape,hb.output,hb.size,fun k hk _=>hb.block k hk⟩ (by cases v.ownBlock<;>simp)
theorem UD {P:Program} {ops:Array Oper} {Q:Exit→Act→World→Prop} {md:Region.Mode} {S:World→Prop} {i:Nat} {oi:Oper} {v:Value} {d:Tmp} {fuel:Nat} {listed:Array Bool} {a:Act} {w:World} (hi:ops[i]? =some oi) (hd:oi.dst=some d)
  (hs:Region.noSelect ops=true) (hf:Region.free md ops listed i=true) (hr:(Region.ready md ops listed).contains i=true)
  (hQ:∀c a w,Q (.panic c) (a.put oi.dst v) w→Q (.panic c) a w) (hy:YieldsIf P ops S oi v a) (hS:S w)
  (h:wpAnyH P md ops Q S fuel (listed.setIfInBounds i true) (a.put (some d) v) w):wpAnyH P md ops Q S (fuel+1) listed a w:=
 wpAnyH_take hi hs hf hr hQ hy hS (by rw [hd];exact h)
theorem bV {P:Program} {ops:Array Oper} {S:World→Prop} {op:Oper} {a:Act} (hw:Region.wanted op (yielded ops a.tmps)=true) (t:TypeId) (parts:Array (Nat×Operand)) (ho:op.op= .build t parts) (cells:Array Value)
  (hb:P.built t (parts.map fun (i,x)=>(i,a.eval x)).toList=some cells):YieldsIf P ops S op (.agg cells) a:=
 .inl ⟨hw,fun w _=>by
  unfold execOp;simp only [ho,Sem.run_bind,run_build w t _ cells hb,Result.andThen_ok];rfl⟩
theorem oL (W:World) (o:Obj):(W.alloc o).heap.size=W.heap.size+1:=by simp
theorem AV.oZ {b:Nat} {t:TypeId} {cs:Array Value} {W:World} (h:AV b t cs W) (ds:Array Value):AV b t ds (W.setRow b ds):=⟨setRow_heap _ _ _ _ _ _ h.var⟩
theorem AV.rP {b c:Nat} {t:TypeId} {cs:Array Value} {W:World} (h:AV b t cs W) (hn:b≠c) (ds:Array Value):AV b t cs (W.setRow c ds):=⟨(setRow_other _ _ b _ hn).trans h.var⟩
theorem AV.iY {b:Nat} {t:TypeId} {cs:Array Value} {W:World} (h:AV b t cs W):fD W b cs:=⟨h.lt,h.cell⟩
end Go.Proofs.YtdibbemgpikgjaaGreatDoor
