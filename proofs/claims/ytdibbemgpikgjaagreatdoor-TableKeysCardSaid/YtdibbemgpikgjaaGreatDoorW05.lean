/- The texts Pk, Ka, Back, Pe, Qb, in this order. -/
import Derived.Test.YtdibbemgpikgjaaGreatDoorW00
import Derived.Laws.Cover3
import Derived.MapKept
import Derived.Test.YtdibbemgpikgjaaGreatDoorW01
import Derived.Test.YtdibbemgpikgjaaGreatDoorW03
import Derived.Test.YtdibbemgpikgjaaGreatDoorW04
set_option maxRecDepth 10000
set_option maxHeartbeats 8000000
namespace Go.Proofs.YtdibbemgpikgjaaGreatDoor
open Go Go.RowKit
structure gW (c:Cal):Prop where
 ep:0≤c.aY∧c.aY≤100
 mo:c.az.length=2
 all:∀x∈c.az,6≤x∧x≤8
 le: -1≤c.dP∧c.dP<2
 ru:c.rules.length≤1
 nl:c.dP= -1→c.rules.length=0
 rl:∀r∈c.rules,r.every=2∧0≤r.rest∧r.rest<2
structure oq (w:World) (B:Nat) (A:Option Addr) (R:Option Addr) (c:Cal):Prop where
 az:aA w B A (c.az.map I)
 rules:aA w B R (c.rules.flatMap Lr.cells)
theorem oq.grow {w w':World} {A R:Option Addr} {c:Cal} (h:oq w w.heap.size A R c) (hb:Below w.heap.size w w'):oq w' w'.heap.size A R c:=⟨h.az.grow hb,h.rules.grow hb⟩
theorem XV (w:World):Calls Tryz.prog 94 #[I 1,I 2] w fun e w'=>e= .returned (I 1)∧w'=w:=by
 go_enter Tryz.func94,Tryz.ntmps94;go_wp2_with fail
 go_loopw [0,1] (fun a b wr=>wr=w∧((a=I 1∧b=I 2)∨(a=I 2∧b=I 1)∨(a=I 1∧b=I 0))) (fun _ b _=>(intOf b).toNat)
 case atStart=>exact ⟨rfl, .inl ⟨rfl,rfl⟩⟩
 case round=>
  obtain ⟨rfl,⟨rfl,rfl⟩|⟨rfl,rfl⟩|⟨rfl,rfl⟩⟩:=hrel
  ·go_wp2_with fail;go_roundw
   case rel=>exact ⟨by first|trivial|rfl, .inr (.inl ⟨by first|trivial|rfl,by first|trivial|rfl⟩)⟩
   case measure=>simp [intOf]
  ·go_wp2_with fail;go_roundw
   case rel=>exact ⟨by first|trivial|rfl, .inr (.inr ⟨by first|trivial|rfl,by first|trivial|rfl⟩)⟩
   case measure=>simp [intOf]
  ·go_wp2_with fail;go_ret;exact ⟨rfl,rfl⟩
structure jX (w:World) (cs:Array Value) (W:World):Prop where
 row:Row W w.heap.size cs
 up:Below w.heap.size w W
theorem jX.grow {w W W':World} {cs:Array Value} (h:jX w cs W) (hb:Below W.heap.size W W'):jX w cs W':=⟨h.row.keep hb,ah h.up hb⟩
theorem jX.start (w:World) (cs:Array Value) (t:TypeId):jX w cs (w.alloc (.cells cs t)):=⟨Row.new w cs t,ag w _⟩
theorem gW.form {c:Cal} (hc:gW c):∃ep m0 m1 lp rs,c=⟨ep,[m0,m1],lp,rs⟩∧(0≤ep∧ep≤100)∧(6≤m0∧m0≤8)∧(6≤m1∧m1≤8)∧(-1≤lp∧lp<2)∧(rs= []∨∃q y,rs= [⟨2,q,y⟩]∧0≤q∧q<2∧lp≠ -1):=by
 obtain ⟨ep,mo,lp,rs⟩:=c;obtain ⟨h1,h2,h3,h4,h5,h6,h7⟩:=hc;simp only at h1 h2 h3 h4 h5 h6 h7
 match mo,h2 with
 | [m0,m1],_=>
  refine ⟨ep,m0,m1,lp,rs,rfl,h1,h3 m0 (by simp),h3 m1 (by simp),h4,?_⟩
  match rs,h5 with
  | [],_=>exact .inl rfl
  | [⟨e,q,y⟩],_=>
   obtain ⟨z1,z2,z3⟩:=h7 ⟨e,q,y⟩ (by simp);simp only at z1 z2 z3;subst z1;exact .inr ⟨q,y,rfl,z2,z3,fun e=>by have:=h6 e;simp at this⟩
theorem oq.two {w W:World} {A R:Option Addr} {ep m0 m1 lp:Int} {rs:List Lr} (h:oq w w.heap.size A R ⟨ep,[m0,m1],lp,rs⟩) (hb:Below w.heap.size w W):∃b off,A=some ⟨b,off,none⟩∧W.cell? ⟨b,off,none⟩=some (I m0)∧W.cell? ⟨b,off+1,none⟩=some (I m1):=by
 obtain ⟨b,off,e,hb1,hcl⟩:=h.az.there (by simp);exact ⟨b,off,e,(hb.cell (p:=⟨b,off,none⟩) hb1).trans (hcl 0 _ rfl),(hb.cell (p:=⟨b,off+1,none⟩) hb1).trans (hcl 1 _ rfl)⟩
theorem oq.one {w W:World} {A R:Option Addr} {ep m0 m1 lp q:Int} {y:Bool} (h:oq w w.heap.size A R ⟨ep,[m0,m1],lp,[⟨2,q,y⟩]⟩) (hb:Below w.heap.size w W):∃b off,R=some ⟨b,off,none⟩∧W.cell? ⟨b,off,none⟩=some (I 2)∧W.cell? ⟨b,off+1,none⟩=some (I q)∧W.cell? ⟨b,off+2,none⟩=some (.bool y):=by
 obtain ⟨b,off,e,hb1,hcl⟩:=h.rules.there (by simp [Lr.cells]);exact ⟨b,off,e,(hb.cell (p:=⟨b,off,none⟩) hb1).trans (hcl 0 _ rfl),(hb.cell (p:=⟨b,off+1,none⟩) hb1).trans (hcl 1 _ rfl),(hb.cell (p:=⟨b,off+2,none⟩) hb1).trans (hcl 2 _ rfl)⟩
theorem jb (c:Cal) (A R:Option Addr) (a r:Nat) (w:World) (hc:gW c) (h:oq w w.heap.size A R c):Calls Tryz.prog 76 #[.agg (aF c A a R r)] w (Gives (.bool true) w):=by
 obtain ⟨ep,m0,m1,lp,rs,rfl,⟨b1,b1'⟩,⟨b2,b2'⟩,⟨b3,b3'⟩,⟨b4,b4'⟩,hrs⟩:=hc.form;have HH:=ae h;clear hc h;unfold aF;simp only;have q5:¬ep<0:=by omega
 have q6:¬(1048576:Int)<ep:=by omega
 have q7:¬lp< -1:=by omega
 have q8:¬(2:Int)≤lp:=by omega
 have y1:¬m0<1:=by omega
 have y2:¬(40:Int)<m0:=by omega
 have y3:¬m1<1:=by omega
 have y4:¬(40:Int)<m1:=by omega
 clear b1 b1' b2 b2' b3 b3' b4 b4';rcases hrs with rfl|⟨q,yy,rfl,q1,q2,q3⟩
 ·have HV:=ae (jX.start w #[I ep, .slice A 2 a,I lp, .slice R 0 r] 63);have hl:(lp== -1)=true∨(lp== -1)=false:=by cases (lp== -1)<;>simp
  rcases hl with hl|hl
  all_goals
   go_enter Tryz.func76,Tryz.ntmps76;go_wp2_with fail;generalize w.alloc (.cells #[I ep, .slice A 2 a,I lp, .slice R 0 r] 63)=W0 at HV ⊢;obtain ⟨b,off,rfl,c0,c1⟩:=HH.out.two HV.out.up;have v1:W0.cell? ⟨w.heap.size,1,none⟩=some (.slice (some ⟨b,off,none⟩) 2 a):=HV.out.row.2 1;have v3:W0.cell? ⟨w.heap.size,3,none⟩=some (.slice R 0 r):=HV.out.row.2 3
   go_rounds 3
   go_rounds 1
   go_ret;exact ⟨rfl,HV.out.up⟩
 ·have HV:=ae (jX.start w #[I ep, .slice A 2 a,I lp, .slice R 1 r] 63);have hl:(lp== -1)=false:=by simp [q3]
  have q4:¬(2:Int)≤q:=by omega
  have q1':¬q<0:=by omega
  clear q1 q2 q3;go_enter Tryz.func76,Tryz.ntmps76;go_wp2_with fail;generalize w.alloc (.cells #[I ep, .slice A 2 a,I lp, .slice R 1 r] 63)=W0 at HV ⊢;obtain ⟨b,off,rfl,c0,c1⟩:=HH.out.two HV.out.up;obtain ⟨bb,V7,rfl,d0,d1,d2⟩:=HH.out.one HV.out.up;have v1:W0.cell? ⟨w.heap.size,1,none⟩=some (.slice (some ⟨b,off,none⟩) 2 a):=HV.out.row.2 1;have v3:W0.cell? ⟨w.heap.size,3,none⟩=some (.slice (some ⟨bb,V7,none⟩) 1 r):=HV.out.row.2 3
  go_rounds 3
  clear v1 c0 c1;have hlt0:w.heap.size<W0.heap.size:=HV.out.row.1;refine wp_loop_rounds 2 ?_;rw [rounds_succ];go_wp2_with fail
  go_region_law (go_simp;go_at_call 94;refine (XV _).mono ?_;rintro e w6 ⟨rfl,rfl⟩)
  all_goals
   go_wp2_with fail;rw [rounds_succ];go_wp2_with fail;go_ret;exact ⟨rfl,(HV.out.grow (ag W0 _)).up.drew⟩
theorem Rq (a b:Int) (h:0≤a):a.tmod b=a%b:=Int.tmod_eq_emod_of_nonneg h
theorem Tc (a b:Int) (w:World) (hb:0<b) (hb2:b≤1000000000) (ha:0≤a):
  Calls Tryz.prog 125 #[I a,I b] w fun e w'=>e= .returned (I (a%b))∧w'=w:=by
 have he:=Rq a b ha;have h0:=Int.emod_nonneg a (show b≠0 by omega);have h1:=Int.emod_lt_of_pos a hb;obtain ⟨q,hq⟩:∃q,a%b=q:=⟨_,rfl⟩;rw [hq] at he h0 h1 ⊢;have hb0:b≠0:=by omega
 have hb1:b≠ -1:=by omega
 have h2:¬q<0:=by omega
 clear hq;go_enter Tryz.func125,Tryz.ntmps125
 go_wp2
 go_ret;exact ⟨rfl,rfl⟩
def qc (c:Cal) (y:Int):Bool:=match c.rules with| []=>false|r::_=>(y%2==r.rest)&&r.yes
def oD (c:Cal):Int:=(c.az[0]?.getD 0)+(c.az[1]?.getD 0)
def dB (c:Cal) (y m:Int):Int:=(c.az[(m - 1).toNat]?.getD 0)+(if m - 1=c.dP∧qc c y=true then 1 else 0)
def dG (c:Cal) (y:Int):Int:=oD c+(if qc c y=true then 1 else 0)
def rM (c:Cal):Int:=match c.rules with| []=>1|_::_=>2
def rJ (c:Cal):Int:=match c.rules with| []=>dG c 1|_::_=>dG c 1+dG c 2
theorem IK (c:Cal) (A R:Option Addr) (a r:Nat) (y:Int) (w:World) (hc:gW c) (h:oq w w.heap.size A R c) (hy:0≤y):Calls Tryz.prog 114 #[.agg (aF c A a R r),I y] w (Gives (.bool (qc c y)) w):=by
 obtain ⟨ep,m0,m1,lp,rs,rfl,b1,b2,b3,b4,hrs⟩:=hc.form;rcases hrs with rfl|⟨q,yy,rfl,q1,q2,_⟩
 ·have iC:Hid (∀W,Below w.heap.size w W→Calls Tryz.prog 76 #[.agg #[I ep, .slice A 2 a,I lp, .slice R 0 r]] W (Gives (.bool true) W)):=ae fun W hb=>jb ⟨ep,[m0,m1],lp,[]⟩ A R a r W hc (h.grow hb);have HH:=ae h;have HV:=ae (jX.start w #[I ep, .slice A 2 a,I lp, .slice R 0 r] 63);clear hc h;show Calls Tryz.prog _ #[.agg #[I ep, .slice A 2 a,I lp, .slice R 0 r],I y] w _;go_enter Tryz.func114,Tryz.ntmps114;go_wp2_with fail;refine (iC.out _ HV.out.up).mono ?_;rintro e w1 ⟨rfl,hb1⟩;have HW:=ae (HV.out.grow hb1);have v3:w1.cell? ⟨w.heap.size,3,none⟩=some (.slice R 0 r):=HW.out.row.2 3;clear hb1 HV iC;go_wp2_with fail
  go_rounds 1
  go_ret;exact ⟨rfl,HW.out.up⟩
 ·have iC:Hid (∀W,Below w.heap.size w W→Calls Tryz.prog 76 #[.agg #[I ep, .slice A 2 a,I lp, .slice R 1 r]] W (Gives (.bool true) W)):=ae fun W hb=>jb ⟨ep,[m0,m1],lp,[⟨2,q,yy⟩]⟩ A R a r W hc (h.grow hb);have HH:=ae h;have HV:=ae (jX.start w #[I ep, .slice A 2 a,I lp, .slice R 1 r] 63);clear hc h;show Calls Tryz.prog _ #[.agg #[I ep, .slice A 2 a,I lp, .slice R 1 r],I y] w _;go_enter Tryz.func114,Tryz.ntmps114;go_wp2_with fail;refine (iC.out _ HV.out.up).mono ?_;rintro e w1 ⟨rfl,hb1⟩;have HW:=ae (HV.out.grow hb1);have v3:w1.cell? ⟨w.heap.size,3,none⟩=some (.slice R 1 r):=HW.out.row.2 3;clear hb1 HV iC;obtain ⟨b,off,rfl,d0,d1,d2⟩:=HH.out.one HW.out.up;have Yz:=ae (fun W=>Tc y 2 W (by omega) (by omega) hy);have HQ:=ae (Below.refl w1.heap.size w1);clear hy;go_wp2_with fail;clear q1 q2 b1 b2 b3 b4;refine wp_loop_rounds 2 ?_;rw [rounds_succ];go_wp2_with fail;go_quiet (first|(go_at_call 125;refine Calls.quiet_of_same (Yz.out _)));obtain ⟨t,ht⟩:∃t,(y%2==q)=t:=⟨_,rfl⟩;have HT:=ae ht;cases t
  ·go_wp2_with fail;rw [rounds_succ];clear ht;go_wp2_with fail;go_ret;exact ⟨by simp [qc,HT.out],ah HW.out.up (below_drewN' _ _)⟩
  ·go_wp2_with fail;rw [rounds_succ];clear ht;go_wp2_with fail;go_ret;exact ⟨by simp [qc,HT.out],ah HW.out.up (below_drewN' _ _)⟩
theorem KO (c:Cal) (A R:Option Addr) (a r:Nat) (w:World) (hc:gW c) (h:oq w w.heap.size A R c):Calls Tryz.prog 115 #[.agg (aF c A a R r)] w (Gives (I (oD c)) w):=by
 obtain ⟨ep,m0,m1,lp,rs,rfl,b1,b2,b3,b4,_⟩:=hc.form;have HH:=ae h;clear hc h;unfold aF;simp only;have HV:=ae (jX.start w #[I ep, .slice A 2 a,I lp, .slice R rs.length r] 63);obtain ⟨n,hn⟩:∃n,rs.length=n:=⟨_,rfl⟩;rw [hn] at HV ⊢;clear hn;go_enter Tryz.func115,Tryz.ntmps115;go_wp2_with fail;generalize w.alloc (.cells #[I ep, .slice A 2 a,I lp, .slice R n r] 63)=W0 at HV ⊢;obtain ⟨b,off,rfl,c0,c1⟩:=HH.out.two HV.out.up;have v1:W0.cell? ⟨w.heap.size,1,none⟩=some (.slice (some ⟨b,off,none⟩) 2 a):=HV.out.row.2 1
 go_rounds 3
 go_ret;exact ⟨rfl,HV.out.up⟩
theorem C9 (c:Cal) (A R:Option Addr) (a r:Nat) (y:Int) (w:World) (hc:gW c) (h:oq w w.heap.size A R c) (hy:0≤y):Calls Tryz.prog 97 #[.agg (aF c A a R r),I y] w (Gives (I (dG c y)) w):=by
 have iC:Hid (∀W,Below w.heap.size w W→Calls Tryz.prog 76 #[.agg (aF c A a R r)] W (Gives (.bool true) W)):=ae fun W hb=>jb _ A R a r W hc (h.grow hb);have G9:Hid (∀W,Below w.heap.size w W→Calls Tryz.prog 114 #[.agg (aF c A a R r),I y] W (Gives (.bool (qc c y)) W)):=ae fun W hb=>IK _ A R a r y W hc (h.grow hb) hy;have HCM:Hid (∀W,Below w.heap.size w W→Calls Tryz.prog 115 #[.agg (aF c A a R r)] W (Gives (I (oD c)) W)):=ae fun W hb=>KO _ A R a r W hc (h.grow hb);have hcm:0≤oD c∧oD c≤100:=by
  obtain ⟨ep,m0,m1,lp,rs,rfl,b1,b2,b3,b4,_⟩:=hc.form;simp only [oD,List.getElem?_cons_zero,List.getElem?_cons_succ,Option.getD_some];omega
 unfold dG;obtain ⟨u,hu⟩:∃u,qc c y=u:=⟨_,rfl⟩;obtain ⟨q,hq⟩:∃q,oD c=q:=⟨_,rfl⟩;rw [hu] at G9 ⊢;rw [hq] at HCM hcm ⊢;obtain ⟨ep,lp,A',R',n,m,hcs⟩:∃ep lp,∃A' R':Option Addr,∃n m:Nat,aF c A a R r= #[I ep, .slice A' n a,I lp, .slice R' m r]:=⟨_,_,_,_,_,_,rfl⟩;rw [hcs] at iC G9 HCM ⊢;obtain ⟨V,hV⟩:∃V,(q+(if u=true then 1 else 0))=V:=⟨_,rfl⟩;rw [hV];have XI:=ae hV;clear hV;clear hcs hu hq hc h hy;have HV:=ae (jX.start w #[I ep, .slice A' n a,I lp, .slice R' m r] 63);go_enter Tryz.func97,Tryz.ntmps97;go_wp2_with fail;refine (iC.out _ HV.out.up).mono ?_;rintro e w1 ⟨rfl,hb1⟩;have HW:=ae (HV.out.grow hb1);have v0:w1.cell? ⟨w.heap.size,0,none⟩=some (I ep):=HW.out.row.2 0;have v1:w1.cell? ⟨w.heap.size,1,none⟩=some (.slice A' n a):=HW.out.row.2 1;have v2:w1.cell? ⟨w.heap.size,2,none⟩=some (I lp):=HW.out.row.2 2;have v3:w1.cell? ⟨w.heap.size,3,none⟩=some (.slice R' m r):=HW.out.row.2 3;clear hb1 HV iC;go_wp2_with fail;clear v0 v1 v2 v3;refine (G9.out _ HW.out.up).mono ?_;rintro e w2 ⟨rfl,hb1⟩;have HW2:=ae (HW.out.grow hb1);have v0:w2.cell? ⟨w.heap.size,0,none⟩=some (I ep):=HW2.out.row.2 0;have v1:w2.cell? ⟨w.heap.size,1,none⟩=some (.slice A' n a):=HW2.out.row.2 1;have v2:w2.cell? ⟨w.heap.size,2,none⟩=some (I lp):=HW2.out.row.2 2;have v3:w2.cell? ⟨w.heap.size,3,none⟩=some (.slice R' m r):=HW2.out.row.2 3;clear hb1 G9 HW;cases u
 all_goals
  go_wp2_with fail;refine (HCM.out _ HW2.out.up).mono ?_;rintro e w3 ⟨rfl,hb3⟩;have HB3:=ae (ah HW2.out.up hb3);clear hb3 v0 v1 v2 v3;go_wp2_with fail;go_ret;exact ⟨by rw [←XI.out];simp,HB3.out⟩
theorem EE (c:Cal) (A R:Option Addr) (a r:Nat) (y m:Int) (w:World) (hc:gW c) (h:oq w w.heap.size A R c) (hy:0≤y) (hm:m=1∨m=2):Calls Tryz.prog 113 #[.agg (aF c A a R r),I y,I m] w (Gives (I (dB c y m)) w):=by
 have iC:Hid (∀W,Below w.heap.size w W→Calls Tryz.prog 76 #[.agg (aF c A a R r)] W (Gives (.bool true) W)):=ae fun W hb=>jb _ A R a r W hc (h.grow hb);have G9:Hid (∀W,Below w.heap.size w W→Calls Tryz.prog 114 #[.agg (aF c A a R r),I y] W (Gives (.bool (qc c y)) W)):=ae fun W hb=>IK _ A R a r y W hc (h.grow hb) hy;obtain ⟨ep,m0,m1,lp,rs,rfl,b1,⟨b2,b2'⟩,⟨b3,b3'⟩,_,_⟩:=hc.form;obtain ⟨V,hV⟩:∃V,dB ⟨ep,[m0,m1],lp,rs⟩ y m=V:=⟨_,rfl⟩;obtain ⟨u,hu⟩:∃u,qc ⟨ep,[m0,m1],lp,rs⟩ y=u:=⟨_,rfl⟩;obtain ⟨n,hn⟩:∃n,rs.length=n:=⟨_,rfl⟩;rw [hV];rw [hu] at G9;unfold aF at iC G9 ⊢;simp only [hn,List.length_cons,List.length_nil,Nat.zero_add,Nat.reduceAdd] at iC G9 ⊢;have XI:=ae hV;have HU:=ae hu;have HH:=ae h;have HV:=ae (jX.start w #[I ep, .slice A 2 a,I lp, .slice R n r] 63);clear hV hu hn h hc hy b1;rcases hm with rfl|rfl
 ·by_cases hl:lp=0
  ·subst hl;go_enter Tryz.func113,Tryz.ntmps113;go_wp2_with fail;refine (iC.out _ HV.out.up).mono ?_;rintro e w1 ⟨rfl,hb1⟩;have HW:=ae (HV.out.grow hb1);obtain ⟨b,off,rfl,c0,c1⟩:=HH.out.two HW.out.up;have v0:w1.cell? ⟨w.heap.size,0,none⟩=some (I ep):=HW.out.row.2 0;have v1:w1.cell? ⟨w.heap.size,1,none⟩=some (.slice (some ⟨b,off,none⟩) 2 a):=HW.out.row.2 1;have v2:w1.cell? ⟨w.heap.size,2,none⟩=some (I 0):=HW.out.row.2 2;have v3:w1.cell? ⟨w.heap.size,3,none⟩=some (.slice R n r):=HW.out.row.2 3;clear hb1;go_wp2_with fail;clear v0 v1 v2 v3 c0 c1;refine (G9.out _ HW.out.up).mono ?_;rintro e w2 ⟨rfl,hb1⟩;have HW2:=ae (HW.out.grow hb1);obtain ⟨b',off',e',c0,c1⟩:=HH.out.two HW2.out.up;injection e' with e';injection e' with e1 e2;subst e1 e2;have v1:w2.cell? ⟨w.heap.size,1,none⟩=some (.slice (some ⟨b,off,none⟩) 2 a):=HW2.out.row.2 1;clear hb1;cases u
   all_goals
    go_wp2_with fail;go_ret;exact ⟨by rw [←XI.out];simp [dB,HU.out],HW2.out.up⟩
  ·have HL:=ae hl;have hl1:((0:Int)==lp)=false:=by simp;omega
   go_enter Tryz.func113,Tryz.ntmps113;go_wp2_with fail;refine (iC.out _ HV.out.up).mono ?_;rintro e w1 ⟨rfl,hb1⟩;have HW:=ae (HV.out.grow hb1);obtain ⟨b,off,rfl,c0,c1⟩:=HH.out.two HW.out.up;have v0:w1.cell? ⟨w.heap.size,0,none⟩=some (I ep):=HW.out.row.2 0;have v1:w1.cell? ⟨w.heap.size,1,none⟩=some (.slice (some ⟨b,off,none⟩) 2 a):=HW.out.row.2 1;have v2:w1.cell? ⟨w.heap.size,2,none⟩=some (I lp):=HW.out.row.2 2;have v3:w1.cell? ⟨w.heap.size,3,none⟩=some (.slice R n r):=HW.out.row.2 3;clear hb1;clear hl;go_wp2_with fail;go_ret;exact ⟨by rw [←XI.out];simp [dB];have:=HL.out;omega,HW.out.up⟩
 ·by_cases hl:lp=1
  ·subst hl;go_enter Tryz.func113,Tryz.ntmps113;go_wp2_with fail;refine (iC.out _ HV.out.up).mono ?_;rintro e w1 ⟨rfl,hb1⟩;have HW:=ae (HV.out.grow hb1);obtain ⟨b,off,rfl,c0,c1⟩:=HH.out.two HW.out.up;have v0:w1.cell? ⟨w.heap.size,0,none⟩=some (I ep):=HW.out.row.2 0;have v1:w1.cell? ⟨w.heap.size,1,none⟩=some (.slice (some ⟨b,off,none⟩) 2 a):=HW.out.row.2 1;have v2:w1.cell? ⟨w.heap.size,2,none⟩=some (I 1):=HW.out.row.2 2;have v3:w1.cell? ⟨w.heap.size,3,none⟩=some (.slice R n r):=HW.out.row.2 3;clear hb1;go_wp2_with fail;clear v0 v1 v2 v3 c0 c1;refine (G9.out _ HW.out.up).mono ?_;rintro e w2 ⟨rfl,hb1⟩;have HW2:=ae (HW.out.grow hb1);obtain ⟨b',off',e',c0,c1⟩:=HH.out.two HW2.out.up;injection e' with e';injection e' with e1 e2;subst e1 e2;have v1:w2.cell? ⟨w.heap.size,1,none⟩=some (.slice (some ⟨b,off,none⟩) 2 a):=HW2.out.row.2 1;clear hb1;cases u
   all_goals
    go_wp2_with fail;go_ret;exact ⟨by rw [←XI.out];simp [dB,HU.out],HW2.out.up⟩
  ·have HL:=ae hl;have hl1:((1:Int)==lp)=false:=by simp;omega
   go_enter Tryz.func113,Tryz.ntmps113;go_wp2_with fail;refine (iC.out _ HV.out.up).mono ?_;rintro e w1 ⟨rfl,hb1⟩;have HW:=ae (HV.out.grow hb1);obtain ⟨b,off,rfl,c0,c1⟩:=HH.out.two HW.out.up;have v0:w1.cell? ⟨w.heap.size,0,none⟩=some (I ep):=HW.out.row.2 0;have v1:w1.cell? ⟨w.heap.size,1,none⟩=some (.slice (some ⟨b,off,none⟩) 2 a):=HW.out.row.2 1;have v2:w1.cell? ⟨w.heap.size,2,none⟩=some (I lp):=HW.out.row.2 2;have v3:w1.cell? ⟨w.heap.size,3,none⟩=some (.slice R n r):=HW.out.row.2 3;clear hb1;clear hl;go_wp2_with fail;go_ret;exact ⟨by rw [←XI.out];simp [dB];have:=HL.out;omega,HW.out.up⟩
theorem jv (c:Cal) (y:Int) (hc:gW c):0≤dG c y∧dG c y≤100:=by
 obtain ⟨ep,m0,m1,lp,rs,rfl,b1,b2,b3,b4,_⟩:=hc.form;simp only [dG,oD,List.getElem?_cons_zero,List.getElem?_cons_succ,Option.getD_some];split<;>omega
theorem Vx (c:Cal) (A R:Option Addr) (a r:Nat) (w:World) (hc:gW c) (h:oq w w.heap.size A R c):Calls Tryz.prog 98 #[.agg (aF c A a R r)] w (Gives (.tuple #[I (rM c),I (rJ c), .int .i64 0]) w):=by
 have iC:Hid (∀W,Below w.heap.size w W→Calls Tryz.prog 76 #[.agg (aF c A a R r)] W (Gives (.bool true) W)):=ae fun W hb=>jb _ A R a r W hc (h.grow hb);have QN:Hid (∀W,Below w.heap.size w W→Calls Tryz.prog 97 #[.agg (aF c A a R r),I 1] W (Gives (I (dG c 1)) W)):=ae fun W hb=>C9 _ A R a r 1 W hc (h.grow hb) (by omega);have U7:Hid (∀W,Below w.heap.size w W→Calls Tryz.prog 97 #[.agg (aF c A a R r),I 2] W (Gives (I (dG c 2)) W)):=ae fun W hb=>C9 _ A R a r 2 W hc (h.grow hb) (by omega);have hy1:=jv c 1 hc;have hy2:=jv c 2 hc;unfold rJ;obtain ⟨u1,hu1⟩:∃u,dG c 1=u:=⟨_,rfl⟩;obtain ⟨u2,hu2⟩:∃u,dG c 2=u:=⟨_,rfl⟩;rw [hu1,hu2];rw [hu1] at QN hy1;rw [hu2] at U7 hy2;clear hu1 hu2;obtain ⟨ep,m0,m1,lp,rs,rfl,b1,⟨b2,b2'⟩,⟨b3,b3'⟩,_,hrs⟩:=hc.form;have HH:=ae h;clear h hc b1 b2 b2' b3 b3';rcases hrs with rfl|⟨q,yy,rfl,_,_,_⟩
 ·unfold aF at iC QN U7 ⊢;simp only [List.length_cons,List.length_nil,Nat.zero_add,Nat.reduceAdd] at iC QN U7 ⊢;have HV:=ae (jX.start w #[I ep, .slice A 2 a,I lp, .slice R 0 r] 63);go_enter Tryz.func98,Tryz.ntmps98;go_wp2_with fail;refine (iC.out _ HV.out.up).mono ?_;rintro e w1 ⟨rfl,hb1⟩;have HW:=ae (HV.out.grow hb1);have v0:w1.cell? ⟨w.heap.size,0,none⟩=some (I ep):=HW.out.row.2 0;have v1:w1.cell? ⟨w.heap.size,1,none⟩=some (.slice A 2 a):=HW.out.row.2 1;have v2:w1.cell? ⟨w.heap.size,2,none⟩=some (I lp):=HW.out.row.2 2;have v3:w1.cell? ⟨w.heap.size,3,none⟩=some (.slice R 0 r):=HW.out.row.2 3;clear hb1;go_wp2_with fail;refine wp_loop_rounds 1 ?_;rw [rounds_succ];go_wp2_with fail;refine wp_loop_rounds 2 ?_;rw [rounds_succ];go_wp2_with fail;refine (QN.out _ HW.out.up).mono ?_;rintro e w2 ⟨rfl,hb2⟩;have HW2:=ae (HW.out.grow hb2);clear hb2 v0 v1 v2 v3;go_wp2_with fail;rw [rounds_succ];go_wp2_with fail
  go_ret3
  exact ⟨by simp [rM],HW2.out.up⟩
 ·unfold aF at iC QN U7 ⊢;simp only [List.length_cons,List.length_nil,Nat.zero_add,Nat.reduceAdd] at iC QN U7 ⊢;have HV:=ae (jX.start w #[I ep, .slice A 2 a,I lp, .slice R 1 r] 63);go_enter Tryz.func98,Tryz.ntmps98;go_wp2_with fail;refine (iC.out _ HV.out.up).mono ?_;rintro e w1 ⟨rfl,hb1⟩;have HW:=ae (HV.out.grow hb1);have v0:w1.cell? ⟨w.heap.size,0,none⟩=some (I ep):=HW.out.row.2 0;have v1:w1.cell? ⟨w.heap.size,1,none⟩=some (.slice A 2 a):=HW.out.row.2 1;have v2:w1.cell? ⟨w.heap.size,2,none⟩=some (I lp):=HW.out.row.2 2;have v3:w1.cell? ⟨w.heap.size,3,none⟩=some (.slice R 1 r):=HW.out.row.2 3;obtain ⟨b,off,rfl,d0,d1,d2⟩:=HH.out.one HW.out.up;clear hb1;go_wp2_with fail;refine wp_loop_rounds 2 ?_;rw [rounds_succ];go_wp2_with fail;go_quiet (first|(go_at_call 94;refine Calls.quiet_of_same (XV _)));go_wp2_with fail;rw [rounds_succ];go_wp2_with fail;refine wp_loop_rounds 3 ?_;rw [rounds_succ];go_wp2_with fail;have HD:=ae (ah HW.out.up (below_drewN' w1 nq));refine (QN.out _ HD.out).mono ?_;rintro e w2 ⟨rfl,hb2⟩;have HW2:=ae ((HW.out.grow (below_drewN' w1 nq)).grow hb2);clear hb2 v0 v1 v2 v3 d0 d1 d2 HW HD;have v0:w2.cell? ⟨w.heap.size,0,none⟩=some (I ep):=HW2.out.row.2 0;have v1:w2.cell? ⟨w.heap.size,1,none⟩=some (.slice A 2 a):=HW2.out.row.2 1;have v2:w2.cell? ⟨w.heap.size,2,none⟩=some (I lp):=HW2.out.row.2 2;have v3:w2.cell? ⟨w.heap.size,3,none⟩=some (.slice (some ⟨b,off,none⟩) 1 r):=HW2.out.row.2 3;go_wp2_with fail;rw [rounds_succ];go_wp2_with fail;refine (U7.out _ HW2.out.up).mono ?_;rintro e w3 ⟨rfl,hb2⟩;have HW3:=ae (HW2.out.grow hb2);clear hb2 v0 v1 v2 v3;go_wp2_with fail;rw [rounds_succ];go_wp2_with fail
  go_ret3
  exact ⟨by simp [rM],HW3.out.up⟩
end Go.Proofs.YtdibbemgpikgjaaGreatDoor
namespace Go.Proofs.YtdibbemgpikgjaaGreatDoor
open Go Go.RowKit Go.Shelf
attribute [local go_sem] Oper.semAt_some
def upto {α:Type} (f:Nat→α) (k:Nat):List α:=(List.range k).map f
theorem upto_succ {α:Type} (f:Nat→α) (k:Nat):upto f (k+1)=upto f k++ [f k]:=by simp [upto,List.range_succ]
theorem upto_length {α:Type} (f:Nat→α) (k:Nat):(upto f k).length=k:=by simp [upto]
def bk (bs:List UInt8) (k:Nat):Nat×UInt8:=(bs.length - 1 - k,bs[bs.length - 1 - k]?.getD 0)
structure BK (n₀ Bs:Nat) (A B:World):Prop where
 lo:Below n₀ A B
 box:B.cell? ⟨Bs,0,none⟩=A.cell? ⟨Bs,0,none⟩
theorem BK.refl (n₀ Bs:Nat) (A:World):BK n₀ Bs A A:=⟨Below.refl _ _,rfl⟩
theorem BK.trans {n₀ Bs:Nat} {A B C:World} (h:BK n₀ Bs A B) (k:BK n₀ Bs B C):BK n₀ Bs A C:=⟨h.lo.trans k.lo,k.box.trans h.box⟩
theorem Zk {n₀ Bs:Nat} {w:World} (hn:n₀≤w.heap.size) (hB:Bs<w.heap.size) (W:World) (l:Nat) (o o':Obj) (hl:w.heap.size≤l) (h:W.heap[l]? =some o) (hc:o.isCells=false) (hk:o.isWalk=false):BK n₀ Bs W (W.putObj l o'):=
 ⟨belowK_b hn W l o o' hl h hc hk,(belowK_b (n₀:=Bs+1) hB W l o o' hl h hc hk).cell (p:=⟨Bs,0,none⟩) (Nat.lt_succ_self _)⟩
theorem QZ (F:Fence) (n:Nat) (h7:F.fn 181) (hro:F.round=none) (hn:1≤n) (l Bs n₀ b off cap:Nat) (bs:List UInt8) (hreach:bs.length≤140737488351232) (hb:b<n₀) (J Jx:List (Nat×UInt8)→World→Prop)
  (hY:∀pre x W,J pre W→pre.length<bs.length→YieldAt F (n - 1) Tryz.prog l #[.int .i64 (x.1:Int),Extern.Stop.cell x.2] W fun e W'=>
   (e= .returned (.bool true)∧J (pre++ [x]) W'∧BK n₀ Bs W W')∨(e= .returned (.bool false)∧Jx (pre++ [x]) W'))
  (W:World) (hBs:W.cell? ⟨Bs,0,none⟩=some (.slice (some ⟨b,off,none⟩) bs.length cap)) (hc:∀j,j<bs.length→W.cell? ⟨b,off+j,none⟩=some (Extern.Stop.cell (bs[j]?.getD 0))) (h0:J [] W):
  CallsIn F n Tryz.prog 181 #[.func (.yield l) #[] #[], .pointer (some ⟨Bs,0,none⟩)] W fun e W'=>(∃v,e= .returned v)∧
   ((∃ys,ys=upto (bk bs) bs.length∧J ys W')∨(∃pre,(∃k,k≤bs.length∧pre=upto (bk bs) k)∧Jx pre W')):=by
 refine callsIn_of_wp Tryz.func181 rfl h7 ?_ hro;simp only [Tryz.ntmps181,List.size_toArray,List.length_cons,List.length_nil,Nat.reduceAdd,Nat.reduceSub,Array.replicate_succ,Array.replicate_zero,List.push_toArray,List.append_toArray,List.nil_append,List.cons_append]
 gi_wp2
 gi_loopw [3] (fun i wr=>∃k:Nat,k≤bs.length∧i= .int .i64 ((bs.length:Int) - 1 - k)∧J (upto (bk bs) k) wr∧BK n₀ Bs W wr)
  (fun i _=>((intOf i)+1).toNat)
 case atStart=>exact ⟨0,Nat.zero_le _,by go_num,h0,BK.refl _ _ _⟩
 case round=>
  obtain ⟨k,hk,rfl,hJs,hnx⟩:=hrel;by_cases hlt:k<bs.length
  ·obtain ⟨m,hm⟩:∃m:Nat,m=bs.length - 1 - k:=⟨_,rfl⟩;have Sj:(bs.length:Int) - 1 - k=(m:Int):=by omega
   have hml:m<bs.length:=by omega
   have hx:bk bs k=(m,bs[m]?.getD 0):=by unfold bk;rw [←hm]
   obtain ⟨x,hxx⟩:∃x,bs[m]?.getD 0=x:=⟨_,rfl⟩;rw [hxx] at hx;have hcx:wr.cell? ⟨b,off+m,none⟩=some (Extern.Stop.cell x):=by rw [←hxx];exact (hnx.lo.cell (p:=⟨b,off+m,none⟩) hb).trans (hc m hml)
   have hbx:wr.cell? ⟨Bs,0,none⟩=some (.slice (some ⟨b,off,none⟩) bs.length cap):=hnx.box.trans hBs;obtain ⟨fn,tmps,assign,body,hy,hR⟩:=hY _ (m,x) wr hJs (by rw [upto_length];exact hlt);dsimp only at hy;rw [Sj];have HM:=ae hm;have U1:=ae Sj;have HX:=ae hx;clear hm Sj hx hxx
   gi_wp2
   refine hR.mono ?_;rintro e W3 (⟨rfl,hJ3,hk3⟩|⟨rfl,hJx3⟩)
   ·gi_wp2
    go_roundw
    case rel=>exact ⟨k+1,by omega,by have:=U1.out;congr 1;omega,by rw [upto_succ,HX.out];exact hJ3,hnx.trans hk3⟩
    case measure=>simp [intOf]
   ·gi_wp2
    refine bodyPost_ret (results_none rfl _ _ _) rfl ?_;exact ⟨⟨_,rfl⟩, .inr ⟨_,⟨k+1,by omega,by rw [upto_succ,HX.out]⟩,hJx3⟩⟩
  ·have hke:k=bs.length:=by omega
   have AB:=ae hke;clear hke
   gi_wp2
   go_end0
   exact ⟨⟨_,rfl⟩, .inl ⟨_,by rw [AB.out],hJs⟩⟩
theorem Fq (F:Fence) (n:Nat) (h7:F.fn 181) (hro:F.round=none) (l Bs:Nat) (A:Option Addr) (c:Nat) (J:List (Nat×UInt8)→World→Prop) (W:World) (hBs:W.cell? ⟨Bs,0,none⟩=some (.slice A 0 c)) (h0:J [] W):
  CallsIn F n Tryz.prog 181 #[.func (.yield l) #[] #[], .pointer (some ⟨Bs,0,none⟩)] W fun e W'=>(∃v,e= .returned v)∧J [] W':=by
 refine callsIn_of_wp Tryz.func181 rfl h7 ?_ hro;simp only [Tryz.ntmps181,List.size_toArray,List.length_cons,List.length_nil,Nat.reduceAdd,Nat.reduceSub,Array.replicate_succ,Array.replicate_zero,List.push_toArray,List.append_toArray,List.nil_append,List.cons_append]
 gi_wp2
 gi_loopw [3] (fun i wr=>i= .int .i64 (-1)∧J [] wr) (fun _ _=>0)
 case atStart=>exact ⟨rfl,h0⟩
 case round=>
  obtain ⟨rfl,hJs⟩:=hrel
  gi_wp2
  go_end0
  exact ⟨⟨_,rfl⟩,hJs⟩
theorem Vj (F:Fence) (n:Nat) (h5:F.fn 180) (hro:F.round=none) (a:Option Addr) (len cap:Nat) (w:World):
  CallsIn F n Tryz.prog 180 #[.slice a len cap] w fun e w'=>e= .returned (.func (.func 181) #[] #[.pointer (some ⟨w.heap.size,0,none⟩)])∧w'=w.alloc (.cells #[.slice a len cap] 32):=by
 refine callsIn_of_wp Tryz.func180 rfl h5 ?_ hro;simp only [Tryz.ntmps180,List.size_toArray,List.length_cons,List.length_nil,Nat.reduceAdd,Nat.reduceSub,Array.replicate_succ,Array.replicate_zero,List.push_toArray,List.append_toArray,List.nil_append,List.cons_append]
 gi_wp2
 go_ret;exact ⟨rfl,rfl⟩
theorem KE (F:Fence) (n:Nat) (h7:F.fn 181) (hro:F.round=none) (hn:1≤n) (Bs n₀:Nat) (A:Option Addr) (cap:Nat) (bs:List UInt8) (hreach:bs.length≤140737488351232) (w:World) (hBs:Bs<w.heap.size) (hn₀:n₀≤w.heap.size)
  (hc:w.cell? ⟨Bs,0,none⟩=some (.slice A bs.length cap)) (hI:BytesAt w n₀ A bs):
  SeqStopsK F n Tryz.prog 181 #[.pointer (some ⟨Bs,0,none⟩)] (fun x:Nat×UInt8=> #[Value.int .i64 (x.1:Int),Extern.Stop.cell x.2]) (BK n₀ Bs) (fun ys=>ys=upto (bk bs) bs.length)
   (fun pre=>∃k,k≤bs.length∧pre=upto (bk bs) k) bs.length w:=fun l J Jx W hW _ _ hY h0=>by
 have hc':=(hW.cell (p:=⟨Bs,0,none⟩) hBs).trans hc;rcases hI.keep (hW.mono hn₀) with h|⟨b,off,rfl,hb,hcs⟩
 ·rw [h] at hc';exact (Fq F n h7 hro l Bs A cap J W hc' h0).mono fun e W' ⟨he,hj⟩=>⟨he, .inl ⟨_,by rw [h];rfl,hj⟩⟩
 ·exact QZ F n h7 hro hn l Bs n₀ b off cap bs hreach hb J Jx hY W hc' hcs h0
end Go.Proofs.YtdibbemgpikgjaaGreatDoor
namespace Go.Proofs.YtdibbemgpikgjaaGreatDoor
open Go Go.RowKit Go.Shelf
attribute [local go_sem] Oper.semAt_some
section
variable {F:Fence} {n:Nat} {P:Program} {ops:Array Oper} {Q:Exit→Act→World→Prop} {a:Act} {w:World} {rest:List Oper} {o:Oper}
theorem nR (hg:o.guard=none) (ty:TypeId) (x:Operand) (ho:o.op= .load ty x) (b off:Nat) (hx:a.eval x= .pointer (some ⟨b,off,none⟩)) (cs:List Value) (d:TypeDesc) (hc:w.rangeAt b off cs)
  (hu:P.underlying ty=some d) (hd:d.isRow=true) (hi:(P.info? ty).map (·.size)=some cs.length)
  (h:wpListIn F n P ops Q rest (a.put o.dst (.agg cs.toArray)) w):wpListIn F n P ops Q (o::rest) a w:=by
 refine wpListIn_plain hg fun K hK=>?_;unfold Oper.wpIn;refine ⟨?_,?_⟩
 ·intro f hf;simp [Oper.about,ho] at hf
 ·rw [Oper.semAt_plain F _ _ (by rw [ho];intro c hc';cases hc')];unfold execOp;simp only [ho,hx,Instr.loadAt,Instr.sureAddr,Sem.run_bind,Sem.run_pure,Result.andThen_ok,run_loadVar_mid w b off ty cs d hc hu hd hi];exact hK _ _ h
theorem nP (hg:o.guard=none) (t:TypeId) (ho:o.op= .alloc t) (cells:Array Value) (hz:(P.info? t).map (fun i=>(i.zero,i.size))=some (some (.agg cells),cells.size))
  (h:wpListIn F n P ops Q rest (a.put o.dst (.pointer (some ⟨w.heap.size,0,none⟩))) (w.alloc (.cells cells t))):wpListIn F n P ops Q (o::rest) a w:=by
 refine wpListIn_plain hg fun K hK=>?_;unfold Oper.wpIn;refine ⟨?_,?_⟩
 ·intro f hf;simp [Oper.about,ho] at hf
 ·rw [Oper.semAt_plain F _ _ (by rw [ho];intro c hc';cases hc')];unfold execOp;simp only [ho,Sem.run_bind,jm w t (.agg cells) _ hz,Result.andThen_ok];exact hK _ _ h
theorem yA (hg:o.guard=none) (ty:TypeId) (x y:Operand) (ho:o.op= .store ty x y) (g:Nat) (cells:Array Value) (hx:a.eval x= .pointer (some ⟨g,0,none⟩)) (hy:a.eval y= .agg cells)
  (t:TypeId) (old:Array Value) (hb:w.heap[g]? =some (.cells old t (0,0))) (hi:(P.info? ty).map (·.size)=some cells.size) (hold:old.size=cells.size) (h1:cells.all (·.oneCell')=true)
  (h:wpListIn F n P ops Q rest (a.put o.dst undef) (w.setRow g cells)):wpListIn F n P ops Q (o::rest) a w:=by
 refine wpListIn_plain hg fun K hK=>?_;unfold Oper.wpIn;refine ⟨?_,?_⟩
 ·intro f hf;simp [Oper.about,ho] at hf
 ·rw [Oper.semAt_plain F _ _ (by rw [ho];intro c hc';cases hc')];unfold execOp;simp only [ho,hx,hy,Instr.storeAt,Instr.sureAddr,Sem.run_bind,Sem.run_pure,Result.andThen_ok,run_storeVar_row w g t ty old cells hb hi hold h1];exact hK _ _ h
variable {d:Option Tmp} {t:TypeId} {pos:String} {af:Array Edge} {g:Option (Nat×Bool)}
theorem FO (ty:TypeId) {x:Operand} (h:wpListIn F n P ops Q (⟨d, .load ty x,t,pos,af,g⟩::rest) a w):wpListIn F n P ops Q (⟨d, .load ty x,t,pos,af,g⟩::rest) a w:=h
theorem uq (ty:TypeId) {x y:Operand} (h:wpListIn F n P ops Q (⟨d, .store ty x y,t,pos,af,g⟩::rest) a w):wpListIn F n P ops Q (⟨d, .store ty x y,t,pos,af,g⟩::rest) a w:=h
theorem BH (ty:TypeId) (h:wpListIn F n P ops Q (⟨d, .alloc ty,t,pos,af,g⟩::rest) a w):wpListIn F n P ops Q (⟨d, .alloc ty,t,pos,af,g⟩::rest) a w:=h
end
def El (ts:List dI):Type:= {x:Nat×dI // ts[x.1]? =some x.2}
def elt (ts:List dI) (m:Nat):List (El ts):=if h:m<ts.length then [⟨(m,ts[m]),dw h⟩] else []
def KF (ts:List dI):Nat→List (El ts)
 |0=> []
 |k+1=>KF ts k++elt ts (ts.length - 1 - k)
theorem Q8 (ts:List dI) (k m:Nat) (x:dI) (hx:ts[m]? =some x) (hm:m=ts.length - 1 - k):KF ts (k+1)=KF ts k++ [⟨(m,x),hx⟩]:=by
 subst hm;obtain ⟨h1,h2⟩:=gu.1 hx;subst h2;show KF ts k++elt ts (ts.length - 1 - k)=_;unfold elt;rw [dif_pos h1]
theorem KG (ts:List dI) (k:Nat) (hk:k≤ts.length):(KF ts k).length=k:=by
 induction k with
 |zero=>rfl
 |succ k ih=>
  show (KF ts k++elt ts (ts.length - 1 - k)).length=k+1;unfold elt;rw [aZ,ih (by omega),dif_pos (by omega)];rfl
def qC (w:World) (b off:Nat) (ts:List dI):Prop:=∀j x,ts[j]? =some x→w.rangeAt b (off+j*68) x.cells∧x.cells.length=68
theorem OZ (F:Fence) (n:Nat) (h7:F.fn 83) (hro:F.round=none) (hn:1≤n) (l Bs n₀ b off cap:Nat) (bs:List dI) (hreach:bs.length≤100000) (hb:b<n₀) (J Jx:List (El bs)→World→Prop)
  (hY:∀pre x W,J pre W→pre.length<bs.length→YieldAt F (n - 1) Tryz.prog l #[.int .i64 (x.1.1:Int), .agg x.1.2.cells.toArray] W fun e W'=>
   (e= .returned (.bool true)∧J (pre++ [x]) W'∧BK n₀ Bs W W')∨(e= .returned (.bool false)∧Jx (pre++ [x]) W'))
  (W:World) (hBs:W.cell? ⟨Bs,0,none⟩=some (.slice (some ⟨b,off,none⟩) bs.length cap)) (hc:qC W b off bs) (h0:J [] W):
  CallsIn F n Tryz.prog 83 #[.func (.yield l) #[] #[], .pointer (some ⟨Bs,0,none⟩)] W fun e W'=>(∃v,e= .returned v)∧
   ((∃ys,ys=KF bs bs.length∧J ys W')∨(∃pre,(∃k,k≤bs.length∧pre=KF bs k)∧Jx pre W')):=by
 refine callsIn_of_wp Tryz.func83 rfl h7 ?_ hro;simp only [Tryz.ntmps83,List.size_toArray,List.length_cons,List.length_nil,Nat.reduceAdd,Nat.reduceSub,Array.replicate_succ,Array.replicate_zero,List.push_toArray,List.append_toArray,List.nil_append,List.cons_append]
 gi_wp2
 gi_loopw [3] (fun i wr=>∃k:Nat,k≤bs.length∧i= .int .i64 ((bs.length:Int) - 1 - k)∧J (KF bs k) wr∧BK n₀ Bs W wr)
  (fun i _=>((intOf i)+1).toNat)
 case atStart=>exact ⟨0,Nat.zero_le _,by go_num,h0,BK.refl _ _ _⟩
 case round=>
  obtain ⟨k,hk,rfl,hJs,hnx⟩:=hrel;by_cases hlt:k<bs.length
  ·obtain ⟨m,hm⟩:∃m:Nat,m=bs.length - 1 - k:=⟨_,rfl⟩;have Sj:(bs.length:Int) - 1 - k=(m:Int):=by omega
   have hml:m<bs.length:=by omega
   obtain ⟨x,hxx⟩:∃x,bs[m]? =some x:=⟨_,dw hml⟩;have hcx:wr.rangeAt b (off+m*68) x.cells∧x.cells.length=68:=⟨aN (hc m x hxx).1 hnx.lo hb,(hc m x hxx).2⟩;obtain ⟨hcx,hc68⟩:=hcx;have E5:=ae hcx;have H68:Hid ((Tryz.prog.info? 37).map (·.size)=some x.cells.length):=ae (by rw [hc68];kernel_rfl);have hbx:wr.cell? ⟨Bs,0,none⟩=some (.slice (some ⟨b,off,none⟩) bs.length cap):=hnx.box.trans hBs;obtain ⟨fn,tmps,assign,body,hy,hR⟩:=hY _ ⟨(m,x),hxx⟩ wr hJs (by rw [KG _ _ hk];exact hlt);dsimp only at hy;rw [Sj];have HM:=ae hm;have U1:=ae Sj;have HX:Hid (KF bs (k+1)=KF bs k++ [⟨(m,x),hxx⟩]):=ae (Q8 bs k m x hxx hm);clear hm Sj hcx hc68
   gi_wp2_with (with_reducible refine FO 37 ?_;refine nR rfl _ _ rfl b (off+m*68) rfl x.cells _ E5.out Tryz.underlying37 rfl H68.out ?_)
   refine hR.mono ?_;rintro e W3 (⟨rfl,hJ3,hk3⟩|⟨rfl,hJx3⟩)
   ·gi_wp2
    go_roundw
    case rel=>exact ⟨k+1,by omega,by have:=U1.out;congr 1;omega,by rw [HX.out];exact hJ3,hnx.trans hk3⟩
    case measure=>simp [intOf]
   ·gi_wp2
    refine bodyPost_ret (results_none rfl _ _ _) rfl ?_;exact ⟨⟨_,rfl⟩, .inr ⟨_,⟨k+1,by omega,by rw [HX.out]⟩,hJx3⟩⟩
  ·have hke:k=bs.length:=by omega
   have AB:=ae hke;clear hke
   gi_wp2
   go_end0
   exact ⟨⟨_,rfl⟩, .inl ⟨_,by rw [AB.out],hJs⟩⟩
theorem DK (F:Fence) (n:Nat) (h7:F.fn 83) (hro:F.round=none) (l Bs:Nat) (A:Option Addr) (c:Nat) {α:Type} (J:List α→World→Prop) (W:World) (hBs:W.cell? ⟨Bs,0,none⟩=some (.slice A 0 c)) (h0:J [] W):
  CallsIn F n Tryz.prog 83 #[.func (.yield l) #[] #[], .pointer (some ⟨Bs,0,none⟩)] W fun e W'=>(∃v,e= .returned v)∧J [] W':=by
 refine callsIn_of_wp Tryz.func83 rfl h7 ?_ hro;simp only [Tryz.ntmps83,List.size_toArray,List.length_cons,List.length_nil,Nat.reduceAdd,Nat.reduceSub,Array.replicate_succ,Array.replicate_zero,List.push_toArray,List.append_toArray,List.nil_append,List.cons_append]
 gi_wp2
 gi_loopw [3] (fun i wr=>i= .int .i64 (-1)∧J [] wr) (fun _ _=>0)
 case atStart=>exact ⟨rfl,h0⟩
 case round=>
  obtain ⟨rfl,hJs⟩:=hrel
  gi_wp2
  go_end0
  exact ⟨⟨_,rfl⟩,hJs⟩
theorem Q4 (F:Fence) (n:Nat) (h5:F.fn 58) (hro:F.round=none) (a:Option Addr) (len cap:Nat) (w:World):
  CallsIn F n Tryz.prog 58 #[.slice a len cap] w fun e w'=>e= .returned (.func (.func 83) #[] #[.pointer (some ⟨w.heap.size,0,none⟩)])∧w'=w.alloc (.cells #[.slice a len cap] 28):=by
 refine callsIn_of_wp Tryz.func58 rfl h5 ?_ hro;simp only [Tryz.ntmps58,List.size_toArray,List.length_cons,List.length_nil,Nat.reduceAdd,Nat.reduceSub,Array.replicate_succ,Array.replicate_zero,List.push_toArray,List.append_toArray,List.nil_append,List.cons_append]
 gi_wp2
 go_ret;exact ⟨rfl,rfl⟩
theorem Ib (F:Fence) (n:Nat) (h7:F.fn 83) (hro:F.round=none) (hn:1≤n) (Bs n₀:Nat) (A:Option Addr) (cap:Nat) (bs:List dI) (hreach:bs.length≤100000) (w:World) (hBs:Bs<w.heap.size) (hn₀:n₀≤w.heap.size)
  (hc:w.cell? ⟨Bs,0,none⟩=some (.slice A bs.length cap)) (hI:bs.length=0∨∃b off,A=some ⟨b,off,none⟩∧b<n₀∧qC w b off bs):
  SeqStopsK F n Tryz.prog 83 #[.pointer (some ⟨Bs,0,none⟩)] (fun x:El bs=> #[Value.int .i64 (x.1.1:Int), .agg x.1.2.cells.toArray]) (BK n₀ Bs) (fun ys=>ys=KF bs bs.length)
   (fun pre=>∃k,k≤bs.length∧pre=KF bs k) bs.length w:=fun l J Jx W hW _ _ hY h0=>by
 have hc':=(hW.cell (p:=⟨Bs,0,none⟩) hBs).trans hc;rcases hI with h|⟨b,off,rfl,hb,hcs0⟩
 ·rw [h] at hc';exact (DK F n h7 hro l Bs A cap J W hc' h0).mono fun e W' ⟨he,hj⟩=>⟨he, .inl ⟨_,by rw [h];rfl,hj⟩⟩
 ·exact OZ F n h7 hro hn l Bs n₀ b off cap bs hreach hb J Jx hY W hc' (fun j x hx=>⟨aN (hcs0 j x hx).1 (hW.mono hn₀) hb,(hcs0 j x hx).2⟩) h0
end Go.Proofs.YtdibbemgpikgjaaGreatDoor
namespace Go.Proofs.YtdibbemgpikgjaaGreatDoor
open Go Go.RowKit
def zh (s:Int) (c:UInt8):Int:=bits BinOp.or IntKind.i64 (wrap64 (s*256)) c.toNat
def wP (l:List (Nat×UInt8)):Int:=l.foldl (fun s x=>zh s x.2) 0
theorem PX (pre:List (Nat×UInt8)) (x:Nat×UInt8):wP (pre++ [x])=zh (wP pre) x.2:=by simp [wP]
def tkB (rest:List UInt8) (bad:Bool) (size:Nat):Bool:=bad||decide (rest.length<size)
def tk (rest:List UInt8) (bad:Bool) (size:Nat):List UInt8:=if tkB rest bad size=true then [] else rest.take size
def tkR (rest:List UInt8) (bad:Bool) (size:Nat):List UInt8:=if tkB rest bad size=true then rest else rest.drop size
def PG (rest:List UInt8) (bad:Bool) (size:Nat):Int:=wP (upto (bk (tk rest bad size)) (tk rest bad size).length)
def TY (s:Int) (c:UInt8):Int:=bits BinOp.or IntKind.u64 (IntKind.u64.wrap (s*256)) c.toNat
end Go.Proofs.YtdibbemgpikgjaaGreatDoor
