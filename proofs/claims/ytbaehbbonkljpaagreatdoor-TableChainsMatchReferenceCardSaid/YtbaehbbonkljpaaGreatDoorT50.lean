/- The texts Lva, Wj, in this order. -/
import Derived.ChangeArms
import Derived.DataReads
import Derived.Deep.Slices
import Derived.OpenShut
import Derived.Test.YtbaehbbonkljpaaGreatDoorT40
set_option maxRecDepth 10000
set_option maxHeartbeats 8000000
namespace Go.Proofs.YtbaehbbonkljpaaGreatDoor
open Go Go.RowKit
section
set_option maxRecDepth 100000
section
variable {H:Type}{enc:TypeId×ah->H}{W:ae}{fuel:Nat}{cs:ag ah}{x:DataW H×ag MemPlace}
theorem ZY (h:DataW.trod enc Tryz.prog W 0 (fun _=>true) true fuel 5 cs=some x):∃b:au,cs= [Extern.Stop.cell b]:=by
 obtain⟨n,rfl,_,hw⟩:=nV gW h;have hb:=bounds_u8 hw;exact⟨byteOf n,by rw[LH,Int.emod_eq_of_lt hb.1 (by omega)]⟩
theorem an7 {α:Type}(f:α->ah)(l:ag ah)(h:∀(i:Nat) (v:ah),l[i]? =some v->∃a,v=f a):∃us:ag α,us.length=l.length/\l=us.map f:=by
 induction l with
 |nil=>exact⟨[],rfl,rfl⟩
 |cons v l ih=>
  obtain⟨a,rfl⟩:=h 0 v rfl;obtain⟨us,h1,h2⟩:=ih (fun i v hv=>h (i+1) v (by simpa using hv));exact⟨a::us,by rw[bG,bG,h1],by rw[fF,<-h2]⟩
theorem XO {t:TypeId}{n:Nat}(ht:Tryz.prog.underlying t=some (.array n 5))(hl:Tryz.prog.cellsOf t=n)(h:DataW.trod enc Tryz.prog W 0 (fun _=>true) true fuel t cs=some x):∃bs:ag au,bs.length=n/\cs=bs.map Extern.Stop.cell:=by
 obtain⟨xs,m,_,_,hlen,hxl,hi⟩:=mJ ht h;have h1:Tryz.prog.cellsOf 5=1:=by kernel_rfl
 rw[hl] at hlen;obtain⟨bs,hb,e⟩:=an7 Extern.Stop.cell cs (fun i v hv=>by
  have hil:=(MF.1 hv).1;have h2:=hi i (by omega);rw[h1,fA,KL (by omega)] at h2;obtain⟨b,hb⟩:=ZY h2;refine⟨b,?_⟩;have h3:((cs.drop i).take 1)[0]? =some v:=by rw[dK (by omega),jL,jX];exact hv
  rw[hb] at h3;injection h3 with h3;exact h3.symm)
 exact⟨bs,by omega,e⟩
theorem Q3 {α:Type}[Inhabited α] (s:Nat)(f:α->ag ah)(G:α->Prop){t e:TypeId}(ht:Tryz.prog.underlying t=some (.slice e))(hs:Tryz.prog.cellsOf e=s)(h0:0<s)(hop:∀n cs' y,DataW.trod enc Tryz.prog W 0 (fun _=>true) true n e cs'=some y->∃v,cs'=f v/\G v)(h:DataW.trod enc Tryz.prog W 0 (fun _=>true) true fuel t cs=some x):
  ∃(A:aj Addr) (len cap:Nat) (vs:ag α),cs= [.slice A len cap]/\vs.length=len/\len<=cap/\cap<=9223372036854775807/\JS W W.heap.size A (vs.flatMap f)/\∀v∈vs,G v:=by
 rcases Go.Deep.open_slice ht h with ⟨rfl,_⟩|⟨a,len,cap,m,n,D,Pl,rfl,_,hl,hm,hmm,_,hi⟩
 ·exact⟨none,0,0,[],rfl,rfl,ay _,aG _,.inl rfl,fun _ h=>nomatch h⟩
 ·have hml:m=cap:=by simpa using hmm
  obtain⟨V,hV⟩:=Go.Deep.choose_lt (α:=α) (p:=fun i v=>G v/\(f v).length=s/\∀j,j<s->W.cell? ((a.add (i*s)).add j)=(f v)[j]?) (n:=len) (fun i hi'=>by
   obtain⟨cs',h1,h2⟩:=hi i (by omega);obtain⟨v,rfl,hg⟩:=hop _ _ _ h2;obtain⟨_,hlen,hc⟩:=World.cells?_some h1;rw[hs] at hlen hc;exact⟨v,hg,hlen,hc⟩)
  have hall:∀v∈(List.range len).map V,(f v).length=s:=fun v hv=>by
   obtain⟨i,hi2,rfl⟩:=fJ.1 hv;exact(hV i (iU.1 hi2)).2.1
  refine⟨some a,len,cap,(List.range len).map V,rfl,by simp,hl,by unfold maxLen at hm;omega,?_,fun v hv=>?_⟩
  ·by_cases h00:len=0
   ·subst h00;exact .inl rfl
   ·obtain⟨b,o,sp⟩:=a;obtain⟨u0,hc0⟩:∃u,W.cell? (((⟨b,o,sp⟩:Addr).add (0*s)).add 0)=some u:=⟨_,((hV 0 (by omega)).2.2 0 h0).trans (KL (by rw[(hV 0 (by omega)).2.1];exact h0))⟩;have hspot:sp=none:=by simpa[Addr.add] using World.cell?_spot hc0
    subst hspot;rw[jb,jb] at hc0;have hb:b<W.heap.size:=by
     apply fZ;intro hn;have h2:W.heap[b]? =none:=iI (by omega);simp[World.cell?,h2] at hc0
    refine .inr ⟨b,o,rfl,hb,fun j u hu=>?_⟩;have hjl:=(MF.1 hu).1;rw[KW f _ hall,aI,List.length_range] at hjl;have hk:j / s<len:=Nat.div_lt_of_lt_mul (by rw[Nat.mul_comm];exact hjl);have hr:j%s<s:=jE _ h0;have hjj:j / s*s+j%s=j:=by rw[Nat.mul_comm];exact Nat.div_add_mod j s
    have hg:=flat_get f _ hall (j / s) (j%s) (V (j / s)) (by rw[aJ,List.getElem?_range hk];rfl) hr;rw[hjj] at hg;have hc:=(hV (j / s) hk).2.2 (j%s) hr;rw[jb,jb,fE,hjj] at hc;rw[hc,<-hg];exact hu
  ·obtain⟨i,hi2,rfl⟩:=fJ.1 hv;exact(hV i (iU.1 hi2)).1
theorem ad4 (h:DataW.trod enc Tryz.prog W 0 (fun _=>true) true fuel 55 cs=some x):∃(A:aj Addr) (cap:Nat) (bs:ag au),cs= [.slice A bs.length cap]/\bs.length<=9223372036854775807/\JS W W.heap.size A (bs.map Extern.Stop.cell):=by
 obtain⟨A,len,cap,vs,rfl,rfl,h1,h2,h3,_⟩:=Q3 (α:=au) 1 (fun b=> [Extern.Stop.cell b]) (fun _=>True) bC (by kernel_rfl) (by omega) (fun n cs' y h=>by
  obtain⟨b,e⟩:=ZY h;exact⟨b,e,trivial⟩) h
 exact⟨A,cap,vs,rfl,by omega,by rw[oz];exact h3⟩
instance:Inhabited RwV:=⟨⟨⟨0,[],[],0,0,0,0,0,0,0,0,0,0,false⟩,none,none,0,0⟩⟩
instance:Inhabited ItV:=⟨⟨none,0,[],0⟩⟩
instance:Inhabited OB:=⟨⟨0,[],none,0,[]⟩⟩
theorem axi (h:DataW.trod enc Tryz.prog W 0 (fun _=>true) true fuel 85 cs=some x):∃v:RwV,cs=v.cells/\ab4 W W.heap.size v:=by
 obtain⟨xs,n,_,_,hlen,hxl,hf⟩:=gB Tryz.underlying85 h;have k14:Tryz.prog.cellsOf 85=14:=by kernel_rfl
 have k1:Tryz.prog.cellsOf 5=1:=by kernel_rfl
 have kb:Tryz.prog.cellsOf 4=1:=by kernel_rfl
 have ks:Tryz.prog.cellsOf 55=1:=by kernel_rfl
 have k8:Tryz.prog.cellsOf 83=8:=by kernel_rfl
 have k4:Tryz.prog.cellsOf 82=4:=by kernel_rfl
 rw[k14] at hlen
 match cs,hlen,xs,hxl with
 | [c0,c1,c2,c3,c4,c5,c6,c7,c8,c9,c10,c11,c12,c13],_,[y0,y1,y2,y3,y4,y5,y6],_=>
  have g0:DataW.trod enc Tryz.prog W 0 (fun _=>true) true n 5 [c0]=some y0:=by simpa[k1] using hf 0 _ rfl
  have g1:DataW.trod enc Tryz.prog W 0 (fun _=>true) true n 55 [c1]=some y1:=by simpa[ks] using hf 1 _ rfl
  have g2:DataW.trod enc Tryz.prog W 0 (fun _=>true) true n 55 [c2]=some y2:=by simpa[ks] using hf 2 _ rfl
  have g3:DataW.trod enc Tryz.prog W 0 (fun _=>true) true n 5 [c3]=some y3:=by simpa[k1] using hf 3 _ rfl
  have g4:DataW.trod enc Tryz.prog W 0 (fun _=>true) true n 83 [c4,c5,c6,c7,c8,c9,c10,c11]=some y4:=by simpa[k8] using hf 4 _ rfl
  have g5:DataW.trod enc Tryz.prog W 0 (fun _=>true) true n 5 [c12]=some y5:=by simpa[k1] using hf 5 _ rfl
  have g6:DataW.trod enc Tryz.prog W 0 (fun _=>true) true n 4 [c13]=some y6:=by simpa[kb] using hf 6 _ rfl
  obtain⟨b0,e0⟩:=ZY g0;obtain⟨G,gc,gs,e1,hg1,hg2⟩:=ad4 g1;obtain⟨O,oc,os,e2,ho1,ho2⟩:=ad4 g2;obtain⟨b3,e3⟩:=ZY g3;obtain⟨zs,m,_,_,_,hzl,hz⟩:=mJ Tryz.underlying83 g4;have z0:=hz 0 (by omega);have z1:=hz 1 (by omega);rw[k4,KL (by omega)] at z0 z1;obtain⟨a,ha1,ha⟩:=XO Tryz.underlying82 k4 z0;obtain⟨a',aAc,ha'⟩:=XO Tryz.underlying82 k4 z1;obtain⟨b5,e5⟩:=ZY g5;obtain⟨b6,e6,_⟩:=DataW.trod_bool je g6
  match a,ha1,a',aAc with
  | [a0,a1,a2,a3],_,[a4,a5,a6,a7],_=>
   simp only[gU,kR,jr,lS,fF,iR,gm,kz] at ha;simp only[Nat.one_mul,jZ,kR,jr,lS,fF,iR,gm,kz] at ha';simp only[gm,kz] at e0 e1 e2 e3 e5 e6;obtain⟨h4,h5,h6,h7⟩:=ha;obtain⟨h8,h9,h10,h11⟩:=ha';refine⟨⟨⟨b0,gs,os,b3,a0,a1,a2,a3,a4,a5,a6,a7,b5,b6⟩,G,O,gc,oc⟩,?_,⟨hg1,ho1,hg2,ho2⟩⟩;rw[e0,e1,e2,e3,h4,h5,h6,h7,h8,h9,h10,h11,e5,e6];rfl
theorem axg (h:DataW.trod enc Tryz.prog W 0 (fun _=>true) true fuel 48 cs=some x):∃v:ItV,cs=v.cells.toList/\Zk W W.heap.size v:=by
 obtain⟨xs,n,_,_,hlen,hxl,hf⟩:=gB Tryz.underlying48 h;have k2:Tryz.prog.cellsOf 48=2:=by kernel_rfl
 have k1:Tryz.prog.cellsOf 5=1:=by kernel_rfl
 have ks:Tryz.prog.cellsOf 46=1:=by kernel_rfl
 rw[k2] at hlen
 match cs,hlen,xs,hxl with
 | [c0,c1],_,[y0,y1],_=>
  have g0:DataW.trod enc Tryz.prog W 0 (fun _=>true) true n 46 [c0]=some y0:=by simpa[ks] using hf 0 _ rfl
  have g1:DataW.trod enc Tryz.prog W 0 (fun _=>true) true n 5 [c1]=some y1:=by simpa[k1] using hf 1 _ rfl
  obtain⟨A,len,cap,vs,e0,rfl,h1,h2,h3,h4⟩:=Q3 14 RwV.cells (ab4 W W.heap.size) Tryz.underlying46 (by kernel_rfl) (by omega) (fun n cs' y h=>axi h) g0;obtain⟨b1,e1⟩:=ZY g1;simp only[gm,kz] at e0 e1;refine⟨⟨A,cap,vs,b1⟩,?_,⟨by show vs.length<=_;omega,h3,h4⟩⟩;rw[e0,e1];rfl
theorem asG (h:DataW.trod enc Tryz.prog W 0 (fun _=>true) true fuel 29 cs=some x):∃v:OB,cs=v.cells/\VT W W.heap.size v:=by
 obtain⟨xs,n,_,_,hlen,hxl,hf⟩:=gB lX h;have k34:Tryz.prog.cellsOf 29=34:=by kernel_rfl
 have k1:Tryz.prog.cellsOf 5=1:=by kernel_rfl
 have k32:Tryz.prog.cellsOf 24=32:=by kernel_rfl
 have ks:Tryz.prog.cellsOf 27=1:=by kernel_rfl
 rw[k34] at hlen
 match xs,hxl with
 | [y0,y1,y2],_=>
  have g0:DataW.trod enc Tryz.prog W 0 (fun _=>true) true n 5 (cs.take 1)=some y0:=by simpa[k1] using hf 0 _ rfl
  have g1:DataW.trod enc Tryz.prog W 0 (fun _=>true) true n 24 ((cs.drop 1).take 32)=some y1:=by simpa[k32] using hf 1 _ rfl
  have g2:DataW.trod enc Tryz.prog W 0 (fun _=>true) true n 27 ((cs.drop 33).take 1)=some y2:=by simpa[ks] using hf 2 _ rfl
  obtain⟨b0,e0⟩:=ZY g0;obtain⟨key,hk,e1⟩:=XO aK k32 g1;obtain⟨A,len,cap,vs,e2,rfl,h1,h2,h3,h4⟩:=Q3 2 (fun v:ItV=>v.cells.toList) (Zk W W.heap.size) Tryz.underlying27 (by kernel_rfl) (by omega) (fun n cs' y h=>axg h) g2;refine⟨⟨b0,key,A,cap,vs⟩,?_,⟨hk,by show vs.length<=_;omega,h3,h4⟩⟩;have d1:cs=cs.take 1++cs.drop 1:=(dR 1 cs).symm;have d2:cs.drop 1=(cs.drop 1).take 32++cs.drop 33:=by
   have:=(dR 32 (cs.drop 1)).symm;rw[kT] at this;exact this
  have d3:cs.drop 33=(cs.drop 33).take 1:=(aU (by rw[iH];omega)).symm;rw[d1,d2,d3,e0,e1,e2];rfl
end
end
section
set_option maxRecDepth 100000
section
variable {H:Type}{enc:TypeId×ah->H}{W:ae}{fuel:Nat}{cs:ag ah}{x:DataW H×ag MemPlace}
theorem Po (h:DataW.trod enc Tryz.prog W 0 (fun _=>true) true fuel 3 cs=some x):∃z:Int,cs= [I z]:=by
 obtain⟨n,e,_,_⟩:=nV jC h;exact⟨n,e⟩
instance:Inhabited Lr:=⟨⟨0,0,false⟩⟩
instance:Inhabited Tr:=⟨⟨0,0⟩⟩
instance:Inhabited Yr:=⟨⟨0,0,0,0,0⟩⟩
instance:Inhabited L9:=⟨⟨⟨⟨#[]⟩,⟨⟨0,[],0,[]⟩,0,[],0,[]⟩⟩,⟨none,0,none,0,none,0,none,0⟩⟩⟩
theorem aog (h:DataW.trod enc Tryz.prog W 0 (fun _=>true) true fuel 62 cs=some x):∃(A:aj Addr) (cap:Nat) (vs:ag Int),cs= [.slice A vs.length cap]/\JS W W.heap.size A (vs.flatMap (fun z:Int=> [I z])):=by
 obtain⟨A,len,cap,vs,rfl,rfl,_,_,h3,_⟩:=Q3 (α:=Int) 1 (fun z:Int=> [I z]) (fun _=>True) iW (by kernel_rfl) (by omega) (fun n cs' y h=>by
  obtain⟨v,e⟩:=Po h;exact⟨v,e,trivial⟩) h
 exact⟨A,cap,vs,rfl,h3⟩
theorem axh (h:DataW.trod enc Tryz.prog W 0 (fun _=>true) true fuel 118 cs=some x):∃v:Lr,cs=v.cells:=by
 obtain⟨xs,n,_,_,hlen,hxl,hf⟩:=gB Tryz.underlying118 h;have kk:Tryz.prog.cellsOf 118=3:=by kernel_rfl
 have k_0:Tryz.prog.cellsOf 3=1:=by kernel_rfl
 have k_1:Tryz.prog.cellsOf 4=1:=by kernel_rfl
 rw[kk] at hlen
 match cs,hlen,xs,hxl with
 | [c0,c1,c2],_,[y0,y1,y2],_=>
  have g0:DataW.trod enc Tryz.prog W 0 (fun _=>true) true n 3 [c0]=some y0:=by simpa[k_0] using hf 0 _ rfl
  have g1:DataW.trod enc Tryz.prog W 0 (fun _=>true) true n 3 [c1]=some y1:=by simpa[k_0] using hf 1 _ rfl
  have g2:DataW.trod enc Tryz.prog W 0 (fun _=>true) true n 4 [c2]=some y2:=by simpa[k_1] using hf 2 _ rfl
  obtain⟨z0,e0⟩:=Po g0;obtain⟨z1,e1⟩:=Po g1;obtain⟨b2,e2,_⟩:=DataW.trod_bool je g2;simp only[gm,kz] at e0 e1 e2;exact⟨⟨z0,z1,b2⟩,by rw[e0,e1,e2];rfl⟩
theorem asF (h:DataW.trod enc Tryz.prog W 0 (fun _=>true) true fuel 63 cs=some x):∃(A:aj Addr) (cap:Nat) (vs:ag Lr),cs= [.slice A vs.length cap]/\JS W W.heap.size A (vs.flatMap Lr.cells):=by
 obtain⟨A,len,cap,vs,rfl,rfl,_,_,h3,_⟩:=Q3 (α:=Lr) 3 Lr.cells (fun _=>True) kK (by kernel_rfl) (by omega) (fun n cs' y h=>by
  obtain⟨v,e⟩:=axh h;exact⟨v,e,trivial⟩) h
 exact⟨A,cap,vs,rfl,h3⟩
theorem axj (h:DataW.trod enc Tryz.prog W 0 (fun _=>true) true fuel 108 cs=some x):∃v:Tr,cs=v.cells:=by
 obtain⟨xs,n,_,_,hlen,hxl,hf⟩:=gB jK h;have kk:Tryz.prog.cellsOf 108=2:=by kernel_rfl
 have k_0:Tryz.prog.cellsOf 3=1:=by kernel_rfl
 rw[kk] at hlen
 match cs,hlen,xs,hxl with
 | [c0,c1],_,[y0,y1],_=>
  have g0:DataW.trod enc Tryz.prog W 0 (fun _=>true) true n 3 [c0]=some y0:=by simpa[k_0] using hf 0 _ rfl
  have g1:DataW.trod enc Tryz.prog W 0 (fun _=>true) true n 3 [c1]=some y1:=by simpa[k_0] using hf 1 _ rfl
  obtain⟨z0,e0⟩:=Po g0;obtain⟨z1,e1⟩:=Po g1;simp only[gm,kz] at e0 e1;exact⟨⟨z0,z1⟩,by rw[e0,e1];rfl⟩
theorem asJ (h:DataW.trod enc Tryz.prog W 0 (fun _=>true) true fuel 66 cs=some x):∃(A:aj Addr) (cap:Nat) (vs:ag Tr),cs= [.slice A vs.length cap]/\JS W W.heap.size A (vs.flatMap Tr.cells):=by
 obtain⟨A,len,cap,vs,rfl,rfl,_,_,h3,_⟩:=Q3 (α:=Tr) 2 Tr.cells (fun _=>True) fQ (by kernel_rfl) (by omega) (fun n cs' y h=>by
  obtain⟨v,e⟩:=axj h;exact⟨v,e,trivial⟩) h
 exact⟨A,cap,vs,rfl,h3⟩
theorem axk (h:DataW.trod enc Tryz.prog W 0 (fun _=>true) true fuel 110 cs=some x):∃v:Yr,cs=v.cells:=by
 obtain⟨xs,n,_,_,hlen,hxl,hf⟩:=gB Tryz.underlying110 h;have kk:Tryz.prog.cellsOf 110=5:=by kernel_rfl
 have k_0:Tryz.prog.cellsOf 3=1:=by kernel_rfl
 rw[kk] at hlen
 match cs,hlen,xs,hxl with
 | [c0,c1,c2,c3,c4],_,[y0,y1,y2,y3,y4],_=>
  have g0:DataW.trod enc Tryz.prog W 0 (fun _=>true) true n 3 [c0]=some y0:=by simpa[k_0] using hf 0 _ rfl
  have g1:DataW.trod enc Tryz.prog W 0 (fun _=>true) true n 3 [c1]=some y1:=by simpa[k_0] using hf 1 _ rfl
  have g2:DataW.trod enc Tryz.prog W 0 (fun _=>true) true n 3 [c2]=some y2:=by simpa[k_0] using hf 2 _ rfl
  have g3:DataW.trod enc Tryz.prog W 0 (fun _=>true) true n 3 [c3]=some y3:=by simpa[k_0] using hf 3 _ rfl
  have g4:DataW.trod enc Tryz.prog W 0 (fun _=>true) true n 3 [c4]=some y4:=by simpa[k_0] using hf 4 _ rfl
  obtain⟨z0,e0⟩:=Po g0;obtain⟨z1,e1⟩:=Po g1;obtain⟨z2,e2⟩:=Po g2;obtain⟨z3,e3⟩:=Po g3;obtain⟨z4,e4⟩:=Po g4;simp only[gm,kz] at e0 e1 e2 e3 e4;exact⟨⟨z0,z1,z2,z3,z4⟩,by rw[e0,e1,e2,e3,e4];rfl⟩
theorem asK (h:DataW.trod enc Tryz.prog W 0 (fun _=>true) true fuel 67 cs=some x):∃(A:aj Addr) (cap:Nat) (vs:ag Yr),cs= [.slice A vs.length cap]/\JS W W.heap.size A (vs.flatMap Yr.cells):=by
 obtain⟨A,len,cap,vs,rfl,rfl,_,_,h3,_⟩:=Q3 (α:=Yr) 5 Yr.cells (fun _=>True) jm (by kernel_rfl) (by omega) (fun n cs' y h=>by
  obtain⟨v,e⟩:=axk h;exact⟨v,e,trivial⟩) h
 exact⟨A,cap,vs,rfl,h3⟩
theorem asE (h:DataW.trod enc Tryz.prog W 0 (fun _=>true) true fuel 65 cs=some x):∃(c:Cal) (A:aj Addr) (a:Nat) (B:aj Addr) (b:Nat),cs= [I c.KI,.slice A c.JQ.length a,I c.Lm,.slice B c.rules.length b]/\JS W W.heap.size A (c.JQ.map I)/\JS W W.heap.size B (c.rules.flatMap Lr.cells):=by
 obtain⟨xs,n,_,_,hlen,hxl,hf⟩:=gB Tryz.underlying65 h;have kk:Tryz.prog.cellsOf 65=4:=by kernel_rfl
 have k_0:Tryz.prog.cellsOf 3=1:=by kernel_rfl
 have k_1:Tryz.prog.cellsOf 62=1:=by kernel_rfl
 have k_2:Tryz.prog.cellsOf 63=1:=by kernel_rfl
 rw[kk] at hlen
 match cs,hlen,xs,hxl with
 | [c0,c1,c2,c3],_,[y0,y1,y2,y3],_=>
  have g0:DataW.trod enc Tryz.prog W 0 (fun _=>true) true n 3 [c0]=some y0:=by simpa[k_0] using hf 0 _ rfl
  have g1:DataW.trod enc Tryz.prog W 0 (fun _=>true) true n 62 [c1]=some y1:=by simpa[k_1] using hf 1 _ rfl
  have g2:DataW.trod enc Tryz.prog W 0 (fun _=>true) true n 3 [c2]=some y2:=by simpa[k_0] using hf 2 _ rfl
  have g3:DataW.trod enc Tryz.prog W 0 (fun _=>true) true n 63 [c3]=some y3:=by simpa[k_2] using hf 3 _ rfl
  obtain⟨z0,e0⟩:=Po g0;obtain⟨A1,cap1,vs1,e1,hc1⟩:=aog g1;obtain⟨z2,e2⟩:=Po g2;obtain⟨A3,cap3,vs3,e3,hc3⟩:=asF g3;simp only[gm,kz] at e0 e1 e2 e3;exact⟨⟨z0,vs1,z2,vs3⟩,A1,cap1,A3,cap3,by rw[e0,e1,e2,e3],by rw[oz];exact hc1,hc3⟩
theorem aoh (h:DataW.trod enc Tryz.prog W 0 (fun _=>true) true fuel 69 cs=some x):∃(z:Zn) (s:Zs),cs=(JV z s).toList/\N7 W W.heap.size s z:=by
 obtain⟨xs,n,_,_,hlen,hxl,hf⟩:=gB cu h;have kk:Tryz.prog.cellsOf 69=8:=by kernel_rfl
 have k_0:Tryz.prog.cellsOf 65=4:=by kernel_rfl
 have k_1:Tryz.prog.cellsOf 3=1:=by kernel_rfl
 have k_2:Tryz.prog.cellsOf 66=1:=by kernel_rfl
 have k_3:Tryz.prog.cellsOf 67=1:=by kernel_rfl
 rw[kk] at hlen
 match cs,hlen,xs,hxl with
 | [c0,c1,c2,c3,c4,c5,c6,c7],_,[y0,y1,y2,y3,y4],_=>
  have g0:DataW.trod enc Tryz.prog W 0 (fun _=>true) true n 65 [c0,c1,c2,c3]=some y0:=by simpa[k_0] using hf 0 _ rfl
  have g1:DataW.trod enc Tryz.prog W 0 (fun _=>true) true n 3 [c4]=some y1:=by simpa[k_1] using hf 1 _ rfl
  have g2:DataW.trod enc Tryz.prog W 0 (fun _=>true) true n 66 [c5]=some y2:=by simpa[k_2] using hf 2 _ rfl
  have g3:DataW.trod enc Tryz.prog W 0 (fun _=>true) true n 3 [c6]=some y3:=by simpa[k_1] using hf 3 _ rfl
  have g4:DataW.trod enc Tryz.prog W 0 (fun _=>true) true n 67 [c7]=some y4:=by simpa[k_3] using hf 4 _ rfl
  obtain⟨cl,CA,ca,CB,cb,e0,hca,hcb⟩:=asE g0;obtain⟨z1,e1⟩:=Po g1;obtain⟨A2,cap2,vs2,e2,hc2⟩:=asJ g2;obtain⟨z3,e3⟩:=Po g3;obtain⟨A4,cap4,vs4,e4,hc4⟩:=asK g4;simp only[gm,kz] at e0 e1 e2 e3 e4;obtain⟨f0,f1,f2,f3⟩:=e0;exact⟨⟨cl,z1,vs2,z3,vs4⟩,⟨CA,ca,CB,cb,A2,cap2,A4,cap4⟩,by rw[f0,f1,f2,f3,e1,e2,e3,e4];rfl,⟨hca,hcb,hc2,hc4⟩⟩
theorem asH (h:DataW.trod enc Tryz.prog W 0 (fun _=>true) true fuel 9 cs=some x):∃s:ByteArray,cs= [.string s]:=by
 obtain⟨s,e,_⟩:=DataW.trod_string gV h;exact⟨s,e⟩
theorem axl (h:DataW.trod enc Tryz.prog W 0 (fun _=>true) true fuel 76 cs=some x):∃v:L9,cs=v.cells.toList/\N7 W W.heap.size v.s v.e.z:=by
 obtain⟨xs,n,_,_,hlen,hxl,hf⟩:=gB lT h;have kk:Tryz.prog.cellsOf 76=9:=by kernel_rfl
 have k_0:Tryz.prog.cellsOf 9=1:=by kernel_rfl
 have k_1:Tryz.prog.cellsOf 69=8:=by kernel_rfl
 rw[kk] at hlen
 match cs,hlen,xs,hxl with
 | [c0,c1,c2,c3,c4,c5,c6,c7,c8],_,[y0,y1],_=>
  have g0:DataW.trod enc Tryz.prog W 0 (fun _=>true) true n 9 [c0]=some y0:=by simpa[k_0] using hf 0 _ rfl
  have g1:DataW.trod enc Tryz.prog W 0 (fun _=>true) true n 69 [c1,c2,c3,c4,c5,c6,c7,c8]=some y1:=by simpa[k_1] using hf 1 _ rfl
  obtain⟨nm,e0⟩:=asH g0;obtain⟨z,s,e1,hz⟩:=aoh g1;simp only[gm,kz] at e0;refine⟨⟨⟨nm,z⟩,s⟩,?_,hz⟩;rw[e0,e1];rfl
theorem asI (h:DataW.trod enc Tryz.prog W 0 (fun _=>true) true fuel 26 cs=some x):∃v:Kv,cs=(JK v.t (.slice v.A v.zs.length v.c)).toList/\Ld W W.heap.size v:=by
 obtain⟨xs,n,_,_,hlen,hxl,hf⟩:=gB az h;have k68:Tryz.prog.cellsOf 26=68:=by kernel_rfl
 have k1:Tryz.prog.cellsOf 3=1:=by kernel_rfl
 have k32:Tryz.prog.cellsOf 24=32:=by kernel_rfl
 have ks:Tryz.prog.cellsOf 22=1:=by kernel_rfl
 rw[k68] at hlen
 match xs,hxl with
 | [y0,y1,y2,y3,y4,y5],_=>
  have g0:DataW.trod enc Tryz.prog W 0 (fun _=>true) true n 3 (cs.take 1)=some y0:=by simpa[k1] using hf 0 _ rfl
  have g1:DataW.trod enc Tryz.prog W 0 (fun _=>true) true n 3 ((cs.drop 1).take 1)=some y1:=by simpa[k1] using hf 1 _ rfl
  have g2:DataW.trod enc Tryz.prog W 0 (fun _=>true) true n 3 ((cs.drop 2).take 1)=some y2:=by simpa[k1] using hf 2 _ rfl
  have g3:DataW.trod enc Tryz.prog W 0 (fun _=>true) true n 22 ((cs.drop 3).take 1)=some y3:=by simpa[k1,ks] using hf 3 _ rfl
  have g4:DataW.trod enc Tryz.prog W 0 (fun _=>true) true n 24 ((cs.drop 4).take 32)=some y4:=by simpa[k1,ks,k32] using hf 4 _ rfl
  have g5:DataW.trod enc Tryz.prog W 0 (fun _=>true) true n 24 ((cs.drop 36).take 32)=some y5:=by simpa[k1,ks,k32] using hf 5 _ rfl
  obtain⟨z0,e0⟩:=Po g0;obtain⟨z1,e1⟩:=Po g1;obtain⟨z2,e2⟩:=Po g2;obtain⟨A,len,cap,vs,e3,rfl,_,_,h3,h4⟩:=Q3 9 (fun v:L9=>v.cells.toList) (fun v=>N7 W W.heap.size v.s v.e.z) iY (by kernel_rfl) (by omega) (fun n cs' y h=>axl h) g3;obtain⟨pv,hp,e4⟩:=XO aK k32 g4;obtain⟨mc,hm,e5⟩:=XO aK k32 g5;refine⟨⟨⟨z0,z1,z2,pv,mc,vs.map (·.e)⟩,A,cap,vs⟩,?_,⟨rfl,hp,hm,⟨h3,h4⟩⟩⟩;have d5:cs.drop 36=(cs.drop 36).take 32:=(aU (by rw[iH];omega)).symm;have d4:cs.drop 4=(cs.drop 4).take 32++cs.drop 36:=by
   have h:=(dR 32 (cs.drop 4)).symm
   rwa [kT] at h
  have d3:cs.drop 3=(cs.drop 3).take 1++cs.drop 4:=by
   have h:=(dR 1 (cs.drop 3)).symm
   rwa [kT] at h
  have d2:cs.drop 2=(cs.drop 2).take 1++cs.drop 3:=by
   have h:=(dR 1 (cs.drop 2)).symm
   rwa [kT] at h
  have d1:cs.drop 1=(cs.drop 1).take 1++cs.drop 2:=by
   have h:=(dR 1 (cs.drop 1)).symm
   rwa [kT] at h
  have d0:cs=cs.take 1++cs.drop 1:=(dR 1 cs).symm;rw[d0,d1,d2,d3,d4,d5,e0,e1,e2,e3,e4,e5];simp[JK,MW,JO]
end
end
end Go.Proofs.YtbaehbbonkljpaaGreatDoor
