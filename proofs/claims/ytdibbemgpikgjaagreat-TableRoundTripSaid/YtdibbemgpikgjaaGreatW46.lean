/- The texts Lva, in this order. -/
import Derived.Test.YtdibbemgpikgjaaGreatW00
import Derived.ChangeArms
import Derived.DataReads
import Derived.Deep.Slices
import Derived.OpenShut
import Derived.Test.YtdibbemgpikgjaaGreatW24
set_option maxRecDepth 10000
set_option maxHeartbeats 8000000
namespace Go.Proofs.YtdibbemgpikgjaaGreat
open Go Go.RowKit
set_option maxRecDepth 100000
section
variable {H:Type} {enc:TypeId×Value→H} {W:World} {fuel:Nat} {cs:List Value} {x:DataW H×List MemPlace}
theorem Df (h:DataW.trod enc Tryz.prog W 0 (fun _=>true) true fuel 5 cs=some x):∃b:UInt8,cs= [Extern.Stop.cell b]:=by
 obtain ⟨n,rfl,_,hw⟩:=DataW.trod_int Tryz.underlying5 h;have hb:=bounds_u8 hw;exact ⟨byteOf n,by rw [fE,Int.emod_eq_of_lt hb.1 (by omega)]⟩
theorem Xo {α:Type} (f:α→Value) (l:List Value) (h:∀(i:Nat) (v:Value),l[i]? =some v→∃a,v=f a):∃us:List α,us.length=l.length∧l=us.map f:=by
 induction l with
 |nil=>exact ⟨[],rfl,rfl⟩
 |cons v l ih=>
  obtain ⟨a,rfl⟩:=h 0 v rfl;obtain ⟨us,h1,h2⟩:=ih (fun i v hv=>h (i+1) v (by simpa using hv));exact ⟨a::us,by rw [List.length_cons,List.length_cons,h1],by rw [List.map_cons,←h2]⟩
theorem MX {t:TypeId} {n:Nat} (ht:Tryz.prog.underlying t=some (.array n 5)) (hl:Tryz.prog.cellsOf t=n) (h:DataW.trod enc Tryz.prog W 0 (fun _=>true) true fuel t cs=some x):∃bs:List UInt8,bs.length=n∧cs=bs.map Extern.Stop.cell:=by
 obtain ⟨xs,m,_,_,hlen,hxl,hi⟩:=DataW.trod_array ht h;have h1:Tryz.prog.cellsOf 5=1:=by kernel_rfl
 rw [hl] at hlen;obtain ⟨bs,hb,e⟩:=Xo Extern.Stop.cell cs (fun i v hv=>by
  have hil:=(iP.1 hv).1;have h2:=hi i (by omega);rw [h1,Nat.mul_one,dK (by omega)] at h2;obtain ⟨b,hb⟩:=Df h2;refine ⟨b,?_⟩;have h3:((cs.drop i).take 1)[0]? =some v:=by rw [List.getElem?_take_of_lt (by omega),List.getElem?_drop,Nat.add_zero];exact hv
  rw [hb] at h3;injection h3 with h3;exact h3.symm)
 exact ⟨bs,by omega,e⟩
theorem Dc {α:Type} [Inhabited α] (s:Nat) (f:α→List Value) (G:α→Prop) {t e:TypeId} (ht:Tryz.prog.underlying t=some (.slice e)) (hs:Tryz.prog.cellsOf e=s) (h0:0<s) (hop:∀n cs' y,DataW.trod enc Tryz.prog W 0 (fun _=>true) true n e cs'=some y→∃v,cs'=f v∧G v) (h:DataW.trod enc Tryz.prog W 0 (fun _=>true) true fuel t cs=some x):
  ∃(A:Option Addr) (len cap:Nat) (vs:List α),cs= [.slice A len cap]∧vs.length=len∧len≤cap∧cap≤9223372036854775807∧aB W W.heap.size A (vs.flatMap f)∧∀v∈vs,G v:=by
 rcases Go.Deep.open_slice ht h with ⟨rfl,_⟩|⟨a,len,cap,m,n,D,Pl,rfl,_,hl,hm,hmm,_,hi⟩
 ·exact ⟨none,0,0,[],rfl,rfl,Nat.le_refl _,Nat.zero_le _, .inl rfl,fun _ h=>nomatch h⟩
 ·have hml:m=cap:=by simpa using hmm
  obtain ⟨V,hV⟩:=Go.Deep.choose_lt (α:=α) (p:=fun i v=>G v∧(f v).length=s∧∀j,j<s→W.cell? ((a.add (i*s)).add j)=(f v)[j]?) (n:=len) (fun i hi'=>by
   obtain ⟨cs',h1,h2⟩:=hi i (by omega);obtain ⟨v,rfl,hg⟩:=hop _ _ _ h2;obtain ⟨_,hlen,hc⟩:=World.cells?_some h1;rw [hs] at hlen hc;exact ⟨v,hg,hlen,hc⟩)
  have hall:∀v∈(List.range len).map V,(f v).length=s:=fun v hv=>by
   obtain ⟨i,hi2,rfl⟩:=List.mem_map.1 hv;exact (hV i (List.mem_range.1 hi2)).2.1
  refine ⟨some a,len,cap,(List.range len).map V,rfl,by simp,hl,by unfold maxLen at hm;omega,?_,fun v hv=>?_⟩
  ·by_cases h00:len=0
   ·subst h00;exact .inl rfl
   ·obtain ⟨b,o,sp⟩:=a;obtain ⟨u0,hc0⟩:∃u,W.cell? (((⟨b,o,sp⟩:Addr).add (0*s)).add 0)=some u:=⟨_,((hV 0 (by omega)).2.2 0 h0).trans (dK (by rw [(hV 0 (by omega)).2.1];exact h0))⟩;have hspot:sp=none:=by simpa [Addr.add] using World.cell?_spot hc0
    subst hspot;rw [Addr.add_mid,Addr.add_mid] at hc0;have hb:b<W.heap.size:=by
     apply Classical.byContradiction;intro hn;have h2:W.heap[b]? =none:=Array.getElem?_eq_none (by omega);simp [World.cell?,h2] at hc0
    refine .inr ⟨b,o,rfl,hb,fun j u hu=>?_⟩;have hjl:=(iP.1 hu).1;rw [dP f _ hall,List.length_map,List.length_range] at hjl;have hk:j / s<len:=Nat.div_lt_of_lt_mul (by rw [Nat.mul_comm];exact hjl);have hr:j%s<s:=Nat.mod_lt _ h0;have hjj:j / s*s+j%s=j:=by rw [Nat.mul_comm];exact Nat.div_add_mod j s
    have hg:=flat_get f _ hall (j / s) (j%s) (V (j / s)) (by rw [List.getElem?_map,List.getElem?_range hk];rfl) hr;rw [hjj] at hg;have hc:=(hV (j / s) hk).2.2 (j%s) hr;rw [Addr.add_mid,Addr.add_mid,Nat.add_assoc,hjj] at hc;rw [hc,←hg];exact hu
  ·obtain ⟨i,hi2,rfl⟩:=List.mem_map.1 hv;exact (hV i (List.mem_range.1 hi2)).1
theorem JG (h:DataW.trod enc Tryz.prog W 0 (fun _=>true) true fuel 22 cs=some x):∃(A:Option Addr) (cap:Nat) (bs:List UInt8),cs= [.slice A bs.length cap]∧bs.length≤9223372036854775807∧aB W W.heap.size A (bs.map Extern.Stop.cell):=by
 obtain ⟨A,len,cap,vs,rfl,rfl,h1,h2,h3,_⟩:=Dc (α:=UInt8) 1 (fun b=> [Extern.Stop.cell b]) (fun _=>True) Tryz.underlying22 (by kernel_rfl) (by omega) (fun n cs' y h=>by
  obtain ⟨b,e⟩:=Df h;exact ⟨b,e,trivial⟩) h
 exact ⟨A,cap,vs,rfl,by omega,by rw [List.map_eq_flatMap];exact h3⟩
instance:Inhabited Ej:=⟨⟨⟨0,[],[],0,0,0,0,0,0,0,0,0,0,false⟩,none,none,0,0⟩⟩
instance:Inhabited IZ:=⟨⟨none,0,[],0⟩⟩
instance:Inhabited oQ:=⟨⟨0,[],none,0,[]⟩⟩
theorem op_rw (h:DataW.trod enc Tryz.prog W 0 (fun _=>true) true fuel 126 cs=some x):∃v:Ej,cs=v.cells∧Gq W W.heap.size v:=by
 obtain ⟨xs,n,_,_,hlen,hxl,hf⟩:=DataW.trod_struct Tryz.underlying126 h;have k14:Tryz.prog.cellsOf 126=14:=by kernel_rfl
 have k1:Tryz.prog.cellsOf 5=1:=by kernel_rfl
 have kb:Tryz.prog.cellsOf 4=1:=by kernel_rfl
 have ks:Tryz.prog.cellsOf 22=1:=by kernel_rfl
 have k8:Tryz.prog.cellsOf 124=8:=by kernel_rfl
 have k4:Tryz.prog.cellsOf 123=4:=by kernel_rfl
 rw [k14] at hlen
 match cs,hlen,xs,hxl with
 | [c0,c1,c2,c3,c4,c5,c6,c7,c8,c9,c10,c11,c12,c13],_,[y0,y1,y2,y3,y4,y5,y6],_=>
  have g0:DataW.trod enc Tryz.prog W 0 (fun _=>true) true n 5 [c0]=some y0:=by simpa [k1] using hf 0 _ rfl
  have g1:DataW.trod enc Tryz.prog W 0 (fun _=>true) true n 22 [c1]=some y1:=by simpa [ks] using hf 1 _ rfl
  have g2:DataW.trod enc Tryz.prog W 0 (fun _=>true) true n 22 [c2]=some y2:=by simpa [ks] using hf 2 _ rfl
  have g3:DataW.trod enc Tryz.prog W 0 (fun _=>true) true n 5 [c3]=some y3:=by simpa [k1] using hf 3 _ rfl
  have g4:DataW.trod enc Tryz.prog W 0 (fun _=>true) true n 124 [c4,c5,c6,c7,c8,c9,c10,c11]=some y4:=by simpa [k8] using hf 4 _ rfl
  have g5:DataW.trod enc Tryz.prog W 0 (fun _=>true) true n 5 [c12]=some y5:=by simpa [k1] using hf 5 _ rfl
  have g6:DataW.trod enc Tryz.prog W 0 (fun _=>true) true n 4 [c13]=some y6:=by simpa [kb] using hf 6 _ rfl
  obtain ⟨b0,e0⟩:=Df g0;obtain ⟨G,gc,gs,e1,hg1,hg2⟩:=JG g1;obtain ⟨O,oc,os,e2,ho1,ho2⟩:=JG g2;obtain ⟨b3,e3⟩:=Df g3;obtain ⟨zs,m,_,_,_,hzl,hz⟩:=DataW.trod_array Tryz.underlying124 g4;have z0:=hz 0 (by omega);have z1:=hz 1 (by omega);rw [k4,dK (by omega)] at z0 z1;obtain ⟨a,ha1,ha⟩:=MX Tryz.underlying123 k4 z0;obtain ⟨a',ha1',ha'⟩:=MX Tryz.underlying123 k4 z1;obtain ⟨b5,e5⟩:=Df g5;obtain ⟨b6,e6,_⟩:=DataW.trod_bool Tryz.underlying4 g6
  match a,ha1,a',ha1' with
  | [a0,a1,a2,a3],_,[a4,a5,a6,a7],_=>
   simp only [Nat.zero_mul,List.drop_zero,List.take_succ_cons,List.take_zero,List.map_cons,List.map_nil,List.cons.injEq,and_true] at ha;simp only [Nat.one_mul,List.drop_succ_cons,List.drop_zero,List.take_succ_cons,List.take_zero,List.map_cons,List.map_nil,List.cons.injEq,and_true] at ha';simp only [List.cons.injEq,and_true] at e0 e1 e2 e3 e5 e6;obtain ⟨h4,h5,h6,h7⟩:=ha;obtain ⟨h8,h9,h10,h11⟩:=ha';refine ⟨⟨⟨b0,gs,os,b3,a0,a1,a2,a3,a4,a5,a6,a7,b5,b6⟩,G,O,gc,oc⟩,?_,⟨hg1,ho1,hg2,ho2⟩⟩;rw [e0,e1,e2,e3,h4,h5,h6,h7,h8,h9,h10,h11,e5,e6];rfl
theorem op_it (h:DataW.trod enc Tryz.prog W 0 (fun _=>true) true fuel 80 cs=some x):∃v:IZ,cs=v.cells.toList∧Ei W W.heap.size v:=by
 obtain ⟨xs,n,_,_,hlen,hxl,hf⟩:=DataW.trod_struct Tryz.underlying80 h;have k2:Tryz.prog.cellsOf 80=2:=by kernel_rfl
 have k1:Tryz.prog.cellsOf 5=1:=by kernel_rfl
 have ks:Tryz.prog.cellsOf 78=1:=by kernel_rfl
 rw [k2] at hlen
 match cs,hlen,xs,hxl with
 | [c0,c1],_,[y0,y1],_=>
  have g0:DataW.trod enc Tryz.prog W 0 (fun _=>true) true n 78 [c0]=some y0:=by simpa [ks] using hf 0 _ rfl
  have g1:DataW.trod enc Tryz.prog W 0 (fun _=>true) true n 5 [c1]=some y1:=by simpa [k1] using hf 1 _ rfl
  obtain ⟨A,len,cap,vs,e0,rfl,h1,h2,h3,h4⟩:=Dc 14 Ej.cells (Gq W W.heap.size) Tryz.underlying78 (by kernel_rfl) (by omega) (fun n cs' y h=>op_rw h) g0;obtain ⟨b1,e1⟩:=Df g1;simp only [List.cons.injEq,and_true] at e0 e1;refine ⟨⟨A,cap,vs,b1⟩,?_,⟨by show vs.length≤_;omega,h3,h4⟩⟩;rw [e0,e1];rfl
theorem op_raw (h:DataW.trod enc Tryz.prog W 0 (fun _=>true) true fuel 27 cs=some x):∃v:oQ,cs=v.cells∧vM W W.heap.size v:=by
 obtain ⟨xs,n,_,_,hlen,hxl,hf⟩:=DataW.trod_struct Tryz.underlying27 h;have k34:Tryz.prog.cellsOf 27=34:=by kernel_rfl
 have k1:Tryz.prog.cellsOf 5=1:=by kernel_rfl
 have k32:Tryz.prog.cellsOf 24=32:=by kernel_rfl
 have ks:Tryz.prog.cellsOf 25=1:=by kernel_rfl
 rw [k34] at hlen
 match xs,hxl with
 | [y0,y1,y2],_=>
  have g0:DataW.trod enc Tryz.prog W 0 (fun _=>true) true n 5 (cs.take 1)=some y0:=by simpa [k1] using hf 0 _ rfl
  have g1:DataW.trod enc Tryz.prog W 0 (fun _=>true) true n 24 ((cs.drop 1).take 32)=some y1:=by simpa [k32] using hf 1 _ rfl
  have g2:DataW.trod enc Tryz.prog W 0 (fun _=>true) true n 25 ((cs.drop 33).take 1)=some y2:=by simpa [ks] using hf 2 _ rfl
  obtain ⟨b0,e0⟩:=Df g0;obtain ⟨key,hk,e1⟩:=MX Tryz.underlying24 k32 g1;obtain ⟨A,len,cap,vs,e2,rfl,h1,h2,h3,h4⟩:=Dc 2 (fun v:IZ=>v.cells.toList) (Ei W W.heap.size) Tryz.underlying25 (by kernel_rfl) (by omega) (fun n cs' y h=>op_it h) g2;refine ⟨⟨b0,key,A,cap,vs⟩,?_,⟨hk,by show vs.length≤_;omega,h3,h4⟩⟩;have d1:cs=cs.take 1++cs.drop 1:=(List.take_append_drop 1 cs).symm;have d2:cs.drop 1=(cs.drop 1).take 32++cs.drop 33:=by
   have:=(List.take_append_drop 32 (cs.drop 1)).symm;rw [List.drop_drop] at this;exact this
  have d3:cs.drop 33=(cs.drop 33).take 1:=(List.take_of_length_le (by rw [List.length_drop];omega)).symm;rw [d1,d2,d3,e0,e1,e2];rfl
end
end Go.Proofs.YtdibbemgpikgjaaGreat
