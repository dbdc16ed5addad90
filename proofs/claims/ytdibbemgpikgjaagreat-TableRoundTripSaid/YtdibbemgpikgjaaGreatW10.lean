/- The texts Ka, Pe, in this order. -/
import Derived.Test.YtdibbemgpikgjaaGreatW00
import Derived.Test.YtdibbemgpikgjaaGreatW01
import Derived.Test.YtdibbemgpikgjaaGreatW05
import Derived.Test.YtdibbemgpikgjaaGreatW09
set_option maxRecDepth 10000
set_option maxHeartbeats 8000000
namespace Go.Proofs.YtdibbemgpikgjaaGreat
open Go Go.RowKit
theorem TB (a b:Int) (h:0≤a):a.tmod b=a%b:=Int.tmod_eq_emod_of_nonneg h
theorem Ux (a b:Int) (w:World) (hb:0<b) (hb2:b≤1000000000) (ha:0≤a):
  Calls Tryz.prog 11 #[I a,I b] w fun e w'=>e= .returned (I (a%b))∧w'=w:=by
 have he:=TB a b ha;have h0:=Int.emod_nonneg a (show b≠0 by omega);have h1:=Int.emod_lt_of_pos a hb;obtain ⟨q,hq⟩:∃q,a%b=q:=⟨_,rfl⟩;rw [hq] at he h0 h1 ⊢;have hb0:b≠0:=by omega
 have hb1:b≠ -1:=by omega
 have h2:¬q<0:=by omega
 clear hq;go_enter Tryz.func11,Tryz.ntmps11
 go_wp2
 go_ret;exact ⟨rfl,rfl⟩
def o9 (c:Cal) (y:Int):Bool:=match c.rules with| []=>false|r::_=>(y%2==r.rest)&&r.yes
def nz (c:Cal):Int:=(c.aj[0]?.getD 0)+(c.aj[1]?.getD 0)
def ik (c:Cal) (y m:Int):Int:=(c.aj[(m - 1).toNat]?.getD 0)+(if m - 1=c.aY∧o9 c y=true then 1 else 0)
def je (c:Cal) (y:Int):Int:=nz c+(if o9 c y=true then 1 else 0)
def Tu (c:Cal):Int:=match c.rules with| []=>1|_::_=>2
def CJ (c:Cal):Int:=match c.rules with| []=>je c 1|_::_=>je c 1+je c 2
theorem JE (c:Cal) (A R:Option Addr) (a r:Nat) (y:Int) (w:World) (hc:iR c) (h:oC w w.heap.size A R c) (hy:0≤y):Calls Tryz.prog 128 #[.agg (aG c A a R r),I y] w (Gives (.bool (o9 c y)) w):=by
 obtain ⟨ep,m0,m1,lp,rs,rfl,b1,b2,b3,b4,hrs⟩:=hc.form;rcases hrs with rfl|⟨q,yy,rfl,q1,q2,_⟩
 ·have jc:Hid (∀W,Below w.heap.size w W→Calls Tryz.prog 93 #[.agg #[I ep, .slice A 2 a,I lp, .slice R 0 r]] W (Gives (.bool true) W)):=ae fun W hb=>jk ⟨ep,[m0,m1],lp,[]⟩ A R a r W hc (h.grow hb);have HH:=ae h;have HV:=ae (kT.start w #[I ep, .slice A 2 a,I lp, .slice R 0 r] 47);clear hc h;show Calls Tryz.prog _ #[.agg #[I ep, .slice A 2 a,I lp, .slice R 0 r],I y] w _;go_enter Tryz.func128,Tryz.ntmps128;go_wp2_with fail;refine (jc.out _ HV.out.up).mono ?_;rintro e w1 ⟨rfl,hb1⟩;have HW:=ae (HV.out.grow hb1);have v3:w1.cell? ⟨w.heap.size,3,none⟩=some (.slice R 0 r):=HW.out.row.2 3;clear hb1 HV jc;go_wp2_with fail
  go_rounds 1
  go_ret;exact ⟨rfl,HW.out.up⟩
 ·have jc:Hid (∀W,Below w.heap.size w W→Calls Tryz.prog 93 #[.agg #[I ep, .slice A 2 a,I lp, .slice R 1 r]] W (Gives (.bool true) W)):=ae fun W hb=>jk ⟨ep,[m0,m1],lp,[⟨2,q,yy⟩]⟩ A R a r W hc (h.grow hb);have HH:=ae h;have HV:=ae (kT.start w #[I ep, .slice A 2 a,I lp, .slice R 1 r] 47);clear hc h;show Calls Tryz.prog _ #[.agg #[I ep, .slice A 2 a,I lp, .slice R 1 r],I y] w _;go_enter Tryz.func128,Tryz.ntmps128;go_wp2_with fail;refine (jc.out _ HV.out.up).mono ?_;rintro e w1 ⟨rfl,hb1⟩;have HW:=ae (HV.out.grow hb1);have v3:w1.cell? ⟨w.heap.size,3,none⟩=some (.slice R 1 r):=HW.out.row.2 3;clear hb1 HV jc;obtain ⟨b,off,rfl,d0,d1,d2⟩:=HH.out.one HW.out.up;have V4:=ae (fun W=>Ux y 2 W (by omega) (by omega) hy);have HQ:=ae (Below.refl w1.heap.size w1);clear hy;go_wp2_with fail;clear q1 q2 b1 b2 b3 b4;refine wp_loop_rounds 2 ?_;rw [rounds_succ];go_wp2_with fail;go_quiet (first|(go_at_call 11;refine Calls.quiet_of_same (V4.out _)));obtain ⟨t,ht⟩:∃t,(y%2==q)=t:=⟨_,rfl⟩;have HT:=ae ht;cases t
  ·go_wp2_with fail;rw [rounds_succ];clear ht;go_wp2_with fail;go_ret;exact ⟨by simp [o9,HT.out],ah HW.out.up (below_drewN' _ _)⟩
  ·go_wp2_with fail;rw [rounds_succ];clear ht;go_wp2_with fail;go_ret;exact ⟨by simp [o9,HT.out],ah HW.out.up (below_drewN' _ _)⟩
theorem L8 (c:Cal) (A R:Option Addr) (a r:Nat) (w:World) (hc:iR c) (h:oC w w.heap.size A R c):Calls Tryz.prog 129 #[.agg (aG c A a R r)] w (Gives (I (nz c)) w):=by
 obtain ⟨ep,m0,m1,lp,rs,rfl,b1,b2,b3,b4,_⟩:=hc.form;have HH:=ae h;clear hc h;unfold aG;simp only;have HV:=ae (kT.start w #[I ep, .slice A 2 a,I lp, .slice R rs.length r] 47);obtain ⟨n,hn⟩:∃n,rs.length=n:=⟨_,rfl⟩;rw [hn] at HV ⊢;clear hn;go_enter Tryz.func129,Tryz.ntmps129;go_wp2_with fail;generalize w.alloc (.cells #[I ep, .slice A 2 a,I lp, .slice R n r] 47)=W0 at HV ⊢;obtain ⟨b,off,rfl,c0,c1⟩:=HH.out.two HV.out.up;have v1:W0.cell? ⟨w.heap.size,1,none⟩=some (.slice (some ⟨b,off,none⟩) 2 a):=HV.out.row.2 1
 go_rounds 3
 go_ret;exact ⟨rfl,HV.out.up⟩
theorem DX (c:Cal) (A R:Option Addr) (a r:Nat) (y:Int) (w:World) (hc:iR c) (h:oC w w.heap.size A R c) (hy:0≤y):Calls Tryz.prog 113 #[.agg (aG c A a R r),I y] w (Gives (I (je c y)) w):=by
 have jc:Hid (∀W,Below w.heap.size w W→Calls Tryz.prog 93 #[.agg (aG c A a R r)] W (Gives (.bool true) W)):=ae fun W hb=>jk _ A R a r W hc (h.grow hb);have IQ:Hid (∀W,Below w.heap.size w W→Calls Tryz.prog 128 #[.agg (aG c A a R r),I y] W (Gives (.bool (o9 c y)) W)):=ae fun W hb=>JE _ A R a r y W hc (h.grow hb) hy;have HCM:Hid (∀W,Below w.heap.size w W→Calls Tryz.prog 129 #[.agg (aG c A a R r)] W (Gives (I (nz c)) W)):=ae fun W hb=>L8 _ A R a r W hc (h.grow hb);have hcm:0≤nz c∧nz c≤100:=by
  obtain ⟨ep,m0,m1,lp,rs,rfl,b1,b2,b3,b4,_⟩:=hc.form;simp only [nz,List.getElem?_cons_zero,List.getElem?_cons_succ,Option.getD_some];omega
 unfold je;obtain ⟨u,hu⟩:∃u,o9 c y=u:=⟨_,rfl⟩;obtain ⟨q,hq⟩:∃q,nz c=q:=⟨_,rfl⟩;rw [hu] at IQ ⊢;rw [hq] at HCM hcm ⊢;obtain ⟨ep,lp,A',R',n,m,hcs⟩:∃ep lp,∃A' R':Option Addr,∃n m:Nat,aG c A a R r= #[I ep, .slice A' n a,I lp, .slice R' m r]:=⟨_,_,_,_,_,_,rfl⟩;rw [hcs] at jc IQ HCM ⊢;obtain ⟨V,hV⟩:∃V,(q+(if u=true then 1 else 0))=V:=⟨_,rfl⟩;rw [hV];have YW:=ae hV;clear hV;clear hcs hu hq hc h hy;have HV:=ae (kT.start w #[I ep, .slice A' n a,I lp, .slice R' m r] 47);go_enter Tryz.func113,Tryz.ntmps113;go_wp2_with fail;refine (jc.out _ HV.out.up).mono ?_;rintro e w1 ⟨rfl,hb1⟩;have HW:=ae (HV.out.grow hb1);have v0:w1.cell? ⟨w.heap.size,0,none⟩=some (I ep):=HW.out.row.2 0;have v1:w1.cell? ⟨w.heap.size,1,none⟩=some (.slice A' n a):=HW.out.row.2 1;have v2:w1.cell? ⟨w.heap.size,2,none⟩=some (I lp):=HW.out.row.2 2;have v3:w1.cell? ⟨w.heap.size,3,none⟩=some (.slice R' m r):=HW.out.row.2 3;clear hb1 HV jc;go_wp2_with fail;clear v0 v1 v2 v3;refine (IQ.out _ HW.out.up).mono ?_;rintro e w2 ⟨rfl,hb1⟩;have HW2:=ae (HW.out.grow hb1);have v0:w2.cell? ⟨w.heap.size,0,none⟩=some (I ep):=HW2.out.row.2 0;have v1:w2.cell? ⟨w.heap.size,1,none⟩=some (.slice A' n a):=HW2.out.row.2 1;have v2:w2.cell? ⟨w.heap.size,2,none⟩=some (I lp):=HW2.out.row.2 2;have v3:w2.cell? ⟨w.heap.size,3,none⟩=some (.slice R' m r):=HW2.out.row.2 3;clear hb1 IQ HW;cases u
 all_goals
  go_wp2_with fail;refine (HCM.out _ HW2.out.up).mono ?_;rintro e w3 ⟨rfl,hb3⟩;have HB3:=ae (ah HW2.out.up hb3);clear hb3 v0 v1 v2 v3;go_wp2_with fail;go_ret;exact ⟨by rw [←YW.out];simp,HB3.out⟩
theorem FI (c:Cal) (A R:Option Addr) (a r:Nat) (y m:Int) (w:World) (hc:iR c) (h:oC w w.heap.size A R c) (hy:0≤y) (hm:m=1∨m=2):Calls Tryz.prog 127 #[.agg (aG c A a R r),I y,I m] w (Gives (I (ik c y m)) w):=by
 have jc:Hid (∀W,Below w.heap.size w W→Calls Tryz.prog 93 #[.agg (aG c A a R r)] W (Gives (.bool true) W)):=ae fun W hb=>jk _ A R a r W hc (h.grow hb);have IQ:Hid (∀W,Below w.heap.size w W→Calls Tryz.prog 128 #[.agg (aG c A a R r),I y] W (Gives (.bool (o9 c y)) W)):=ae fun W hb=>JE _ A R a r y W hc (h.grow hb) hy;obtain ⟨ep,m0,m1,lp,rs,rfl,b1,⟨b2,b2'⟩,⟨b3,b3'⟩,_,_⟩:=hc.form;obtain ⟨V,hV⟩:∃V,ik ⟨ep,[m0,m1],lp,rs⟩ y m=V:=⟨_,rfl⟩;obtain ⟨u,hu⟩:∃u,o9 ⟨ep,[m0,m1],lp,rs⟩ y=u:=⟨_,rfl⟩;obtain ⟨n,hn⟩:∃n,rs.length=n:=⟨_,rfl⟩;rw [hV];rw [hu] at IQ;unfold aG at jc IQ ⊢;simp only [hn,List.length_cons,List.length_nil,Nat.zero_add,Nat.reduceAdd] at jc IQ ⊢;have YW:=ae hV;have HU:=ae hu;have HH:=ae h;have HV:=ae (kT.start w #[I ep, .slice A 2 a,I lp, .slice R n r] 47);clear hV hu hn h hc hy b1;rcases hm with rfl|rfl
 ·by_cases hl:lp=0
  ·subst hl;go_enter Tryz.func127,Tryz.ntmps127;go_wp2_with fail;refine (jc.out _ HV.out.up).mono ?_;rintro e w1 ⟨rfl,hb1⟩;have HW:=ae (HV.out.grow hb1);obtain ⟨b,off,rfl,c0,c1⟩:=HH.out.two HW.out.up;have v0:w1.cell? ⟨w.heap.size,0,none⟩=some (I ep):=HW.out.row.2 0;have v1:w1.cell? ⟨w.heap.size,1,none⟩=some (.slice (some ⟨b,off,none⟩) 2 a):=HW.out.row.2 1;have v2:w1.cell? ⟨w.heap.size,2,none⟩=some (I 0):=HW.out.row.2 2;have v3:w1.cell? ⟨w.heap.size,3,none⟩=some (.slice R n r):=HW.out.row.2 3;clear hb1;go_wp2_with fail;clear v0 v1 v2 v3 c0 c1;refine (IQ.out _ HW.out.up).mono ?_;rintro e w2 ⟨rfl,hb1⟩;have HW2:=ae (HW.out.grow hb1);obtain ⟨b',off',e',c0,c1⟩:=HH.out.two HW2.out.up;injection e' with e';injection e' with e1 e2;subst e1 e2;have v1:w2.cell? ⟨w.heap.size,1,none⟩=some (.slice (some ⟨b,off,none⟩) 2 a):=HW2.out.row.2 1;clear hb1;cases u
   all_goals
    go_wp2_with fail;go_ret;exact ⟨by rw [←YW.out];simp [ik,HU.out],HW2.out.up⟩
  ·have HL:=ae hl;have hl1:((0:Int)==lp)=false:=by simp;omega
   go_enter Tryz.func127,Tryz.ntmps127;go_wp2_with fail;refine (jc.out _ HV.out.up).mono ?_;rintro e w1 ⟨rfl,hb1⟩;have HW:=ae (HV.out.grow hb1);obtain ⟨b,off,rfl,c0,c1⟩:=HH.out.two HW.out.up;have v0:w1.cell? ⟨w.heap.size,0,none⟩=some (I ep):=HW.out.row.2 0;have v1:w1.cell? ⟨w.heap.size,1,none⟩=some (.slice (some ⟨b,off,none⟩) 2 a):=HW.out.row.2 1;have v2:w1.cell? ⟨w.heap.size,2,none⟩=some (I lp):=HW.out.row.2 2;have v3:w1.cell? ⟨w.heap.size,3,none⟩=some (.slice R n r):=HW.out.row.2 3;clear hb1;clear hl;go_wp2_with fail;go_ret;exact ⟨by rw [←YW.out];simp [ik];have:=HL.out;omega,HW.out.up⟩
 ·by_cases hl:lp=1
  ·subst hl;go_enter Tryz.func127,Tryz.ntmps127;go_wp2_with fail;refine (jc.out _ HV.out.up).mono ?_;rintro e w1 ⟨rfl,hb1⟩;have HW:=ae (HV.out.grow hb1);obtain ⟨b,off,rfl,c0,c1⟩:=HH.out.two HW.out.up;have v0:w1.cell? ⟨w.heap.size,0,none⟩=some (I ep):=HW.out.row.2 0;have v1:w1.cell? ⟨w.heap.size,1,none⟩=some (.slice (some ⟨b,off,none⟩) 2 a):=HW.out.row.2 1;have v2:w1.cell? ⟨w.heap.size,2,none⟩=some (I 1):=HW.out.row.2 2;have v3:w1.cell? ⟨w.heap.size,3,none⟩=some (.slice R n r):=HW.out.row.2 3;clear hb1;go_wp2_with fail;clear v0 v1 v2 v3 c0 c1;refine (IQ.out _ HW.out.up).mono ?_;rintro e w2 ⟨rfl,hb1⟩;have HW2:=ae (HW.out.grow hb1);obtain ⟨b',off',e',c0,c1⟩:=HH.out.two HW2.out.up;injection e' with e';injection e' with e1 e2;subst e1 e2;have v1:w2.cell? ⟨w.heap.size,1,none⟩=some (.slice (some ⟨b,off,none⟩) 2 a):=HW2.out.row.2 1;clear hb1;cases u
   all_goals
    go_wp2_with fail;go_ret;exact ⟨by rw [←YW.out];simp [ik,HU.out],HW2.out.up⟩
  ·have HL:=ae hl;have hl1:((1:Int)==lp)=false:=by simp;omega
   go_enter Tryz.func127,Tryz.ntmps127;go_wp2_with fail;refine (jc.out _ HV.out.up).mono ?_;rintro e w1 ⟨rfl,hb1⟩;have HW:=ae (HV.out.grow hb1);obtain ⟨b,off,rfl,c0,c1⟩:=HH.out.two HW.out.up;have v0:w1.cell? ⟨w.heap.size,0,none⟩=some (I ep):=HW.out.row.2 0;have v1:w1.cell? ⟨w.heap.size,1,none⟩=some (.slice (some ⟨b,off,none⟩) 2 a):=HW.out.row.2 1;have v2:w1.cell? ⟨w.heap.size,2,none⟩=some (I lp):=HW.out.row.2 2;have v3:w1.cell? ⟨w.heap.size,3,none⟩=some (.slice R n r):=HW.out.row.2 3;clear hb1;clear hl;go_wp2_with fail;go_ret;exact ⟨by rw [←YW.out];simp [ik];have:=HL.out;omega,HW.out.up⟩
theorem nI (c:Cal) (y:Int) (hc:iR c):0≤je c y∧je c y≤100:=by
 obtain ⟨ep,m0,m1,lp,rs,rfl,b1,b2,b3,b4,_⟩:=hc.form;simp only [je,nz,List.getElem?_cons_zero,List.getElem?_cons_succ,Option.getD_some];split<;>omega
theorem WT (c:Cal) (A R:Option Addr) (a r:Nat) (w:World) (hc:iR c) (h:oC w w.heap.size A R c):Calls Tryz.prog 114 #[.agg (aG c A a R r)] w (Gives (.tuple #[I (Tu c),I (CJ c), .int .i64 0]) w):=by
 have jc:Hid (∀W,Below w.heap.size w W→Calls Tryz.prog 93 #[.agg (aG c A a R r)] W (Gives (.bool true) W)):=ae fun W hb=>jk _ A R a r W hc (h.grow hb);have vX:Hid (∀W,Below w.heap.size w W→Calls Tryz.prog 113 #[.agg (aG c A a R r),I 1] W (Gives (I (je c 1)) W)):=ae fun W hb=>DX _ A R a r 1 W hc (h.grow hb) (by omega);have yz:Hid (∀W,Below w.heap.size w W→Calls Tryz.prog 113 #[.agg (aG c A a R r),I 2] W (Gives (I (je c 2)) W)):=ae fun W hb=>DX _ A R a r 2 W hc (h.grow hb) (by omega);have hy1:=nI c 1 hc;have hy2:=nI c 2 hc;unfold CJ;obtain ⟨u1,hu1⟩:∃u,je c 1=u:=⟨_,rfl⟩;obtain ⟨u2,hu2⟩:∃u,je c 2=u:=⟨_,rfl⟩;rw [hu1,hu2];rw [hu1] at vX hy1;rw [hu2] at yz hy2;clear hu1 hu2;obtain ⟨ep,m0,m1,lp,rs,rfl,b1,⟨b2,b2'⟩,⟨b3,b3'⟩,_,hrs⟩:=hc.form;have HH:=ae h;clear h hc b1 b2 b2' b3 b3';rcases hrs with rfl|⟨q,yy,rfl,_,_,_⟩
 ·unfold aG at jc vX yz ⊢;simp only [List.length_cons,List.length_nil,Nat.zero_add,Nat.reduceAdd] at jc vX yz ⊢;have HV:=ae (kT.start w #[I ep, .slice A 2 a,I lp, .slice R 0 r] 47);go_enter Tryz.func114,Tryz.ntmps114;go_wp2_with fail;refine (jc.out _ HV.out.up).mono ?_;rintro e w1 ⟨rfl,hb1⟩;have HW:=ae (HV.out.grow hb1);have v0:w1.cell? ⟨w.heap.size,0,none⟩=some (I ep):=HW.out.row.2 0;have v1:w1.cell? ⟨w.heap.size,1,none⟩=some (.slice A 2 a):=HW.out.row.2 1;have v2:w1.cell? ⟨w.heap.size,2,none⟩=some (I lp):=HW.out.row.2 2;have v3:w1.cell? ⟨w.heap.size,3,none⟩=some (.slice R 0 r):=HW.out.row.2 3;clear hb1;go_wp2_with fail;refine wp_loop_rounds 1 ?_;rw [rounds_succ];go_wp2_with fail;refine wp_loop_rounds 2 ?_;rw [rounds_succ];go_wp2_with fail;refine (vX.out _ HW.out.up).mono ?_;rintro e w2 ⟨rfl,hb2⟩;have HW2:=ae (HW.out.grow hb2);clear hb2 v0 v1 v2 v3;go_wp2_with fail;rw [rounds_succ];go_wp2_with fail
  go_ret3
  exact ⟨by simp [Tu],HW2.out.up⟩
 ·unfold aG at jc vX yz ⊢;simp only [List.length_cons,List.length_nil,Nat.zero_add,Nat.reduceAdd] at jc vX yz ⊢;have HV:=ae (kT.start w #[I ep, .slice A 2 a,I lp, .slice R 1 r] 47);go_enter Tryz.func114,Tryz.ntmps114;go_wp2_with fail;refine (jc.out _ HV.out.up).mono ?_;rintro e w1 ⟨rfl,hb1⟩;have HW:=ae (HV.out.grow hb1);have v0:w1.cell? ⟨w.heap.size,0,none⟩=some (I ep):=HW.out.row.2 0;have v1:w1.cell? ⟨w.heap.size,1,none⟩=some (.slice A 2 a):=HW.out.row.2 1;have v2:w1.cell? ⟨w.heap.size,2,none⟩=some (I lp):=HW.out.row.2 2;have v3:w1.cell? ⟨w.heap.size,3,none⟩=some (.slice R 1 r):=HW.out.row.2 3;obtain ⟨b,off,rfl,d0,d1,d2⟩:=HH.out.one HW.out.up;clear hb1;go_wp2_with fail;refine wp_loop_rounds 2 ?_;rw [rounds_succ];go_wp2_with fail;go_quiet (first|(go_at_call 110;refine Calls.quiet_of_same (Zb _)));go_wp2_with fail;rw [rounds_succ];go_wp2_with fail;refine wp_loop_rounds 3 ?_;rw [rounds_succ];go_wp2_with fail;have HD:=ae (ah HW.out.up (below_drewN' w1 nq));refine (vX.out _ HD.out).mono ?_;rintro e w2 ⟨rfl,hb2⟩;have HW2:=ae ((HW.out.grow (below_drewN' w1 nq)).grow hb2);clear hb2 v0 v1 v2 v3 d0 d1 d2 HW HD;have v0:w2.cell? ⟨w.heap.size,0,none⟩=some (I ep):=HW2.out.row.2 0;have v1:w2.cell? ⟨w.heap.size,1,none⟩=some (.slice A 2 a):=HW2.out.row.2 1;have v2:w2.cell? ⟨w.heap.size,2,none⟩=some (I lp):=HW2.out.row.2 2;have v3:w2.cell? ⟨w.heap.size,3,none⟩=some (.slice (some ⟨b,off,none⟩) 1 r):=HW2.out.row.2 3;go_wp2_with fail;rw [rounds_succ];go_wp2_with fail;refine (yz.out _ HW2.out.up).mono ?_;rintro e w3 ⟨rfl,hb2⟩;have HW3:=ae (HW2.out.grow hb2);clear hb2 v0 v1 v2 v3;go_wp2_with fail;rw [rounds_succ];go_wp2_with fail
  go_ret3
  exact ⟨by simp [Tu],HW3.out.up⟩
end Go.Proofs.YtdibbemgpikgjaaGreat
namespace Go.Proofs.YtdibbemgpikgjaaGreat
open Go Go.RowKit Go.Shelf
attribute [local go_sem] Oper.semAt_some
section
variable {F:Fence} {n:Nat} {P:Program} {ops:Array Oper} {Q:Exit→Act→World→Prop} {a:Act} {w:World} {rest:List Oper} {o:Oper}
theorem nX (hg:o.guard=none) (ty:TypeId) (x:Operand) (ho:o.op= .load ty x) (b off:Nat) (hx:a.eval x= .pointer (some ⟨b,off,none⟩)) (cs:List Value) (d:TypeDesc) (hc:w.rangeAt b off cs)
  (hu:P.underlying ty=some d) (hd:d.isRow=true) (hi:(P.info? ty).map (·.size)=some cs.length)
  (h:wpListIn F n P ops Q rest (a.put o.dst (.agg cs.toArray)) w):wpListIn F n P ops Q (o::rest) a w:=by
 refine wpListIn_plain hg fun K hK=>?_;unfold Oper.wpIn;refine ⟨?_,?_⟩
 ·intro f hf;simp [Oper.about,ho] at hf
 ·rw [Oper.semAt_plain F _ _ (by rw [ho];intro c hc';cases hc')];unfold execOp;simp only [ho,hx,Instr.loadAt,Instr.sureAddr,Sem.run_bind,Sem.run_pure,Result.andThen_ok,run_loadVar_mid w b off ty cs d hc hu hd hi];exact hK _ _ h
theorem sK (hg:o.guard=none) (t:TypeId) (ho:o.op= .alloc t) (cells:Array Value) (hz:(P.info? t).map (fun i=>(i.zero,i.size))=some (some (.agg cells),cells.size))
  (h:wpListIn F n P ops Q rest (a.put o.dst (.pointer (some ⟨w.heap.size,0,none⟩))) (w.alloc (.cells cells t))):wpListIn F n P ops Q (o::rest) a w:=by
 refine wpListIn_plain hg fun K hK=>?_;unfold Oper.wpIn;refine ⟨?_,?_⟩
 ·intro f hf;simp [Oper.about,ho] at hf
 ·rw [Oper.semAt_plain F _ _ (by rw [ho];intro c hc';cases hc')];unfold execOp;simp only [ho,Sem.run_bind,nD w t (.agg cells) _ hz,Result.andThen_ok];exact hK _ _ h
theorem yS (hg:o.guard=none) (ty:TypeId) (x y:Operand) (ho:o.op= .store ty x y) (g:Nat) (cells:Array Value) (hx:a.eval x= .pointer (some ⟨g,0,none⟩)) (hy:a.eval y= .agg cells)
  (t:TypeId) (old:Array Value) (hb:w.heap[g]? =some (.cells old t (0,0))) (hi:(P.info? ty).map (·.size)=some cells.size) (hold:old.size=cells.size) (h1:cells.all (·.oneCell')=true)
  (h:wpListIn F n P ops Q rest (a.put o.dst undef) (w.setRow g cells)):wpListIn F n P ops Q (o::rest) a w:=by
 refine wpListIn_plain hg fun K hK=>?_;unfold Oper.wpIn;refine ⟨?_,?_⟩
 ·intro f hf;simp [Oper.about,ho] at hf
 ·rw [Oper.semAt_plain F _ _ (by rw [ho];intro c hc';cases hc')];unfold execOp;simp only [ho,hx,hy,Instr.storeAt,Instr.sureAddr,Sem.run_bind,Sem.run_pure,Result.andThen_ok,run_storeVar_row w g t ty old cells hb hi hold h1];exact hK _ _ h
variable {d:Option Tmp} {t:TypeId} {pos:String} {af:Array Edge} {g:Option (Nat×Bool)}
theorem GI (ty:TypeId) {x:Operand} (h:wpListIn F n P ops Q (⟨d, .load ty x,t,pos,af,g⟩::rest) a w):wpListIn F n P ops Q (⟨d, .load ty x,t,pos,af,g⟩::rest) a w:=h
theorem xq (ty:TypeId) {x y:Operand} (h:wpListIn F n P ops Q (⟨d, .store ty x y,t,pos,af,g⟩::rest) a w):wpListIn F n P ops Q (⟨d, .store ty x y,t,pos,af,g⟩::rest) a w:=h
theorem Ju (ty:TypeId) (h:wpListIn F n P ops Q (⟨d, .alloc ty,t,pos,af,g⟩::rest) a w):wpListIn F n P ops Q (⟨d, .alloc ty,t,pos,af,g⟩::rest) a w:=h
end
def El (ts:List fH):Type:= {x:Nat×fH // ts[x.1]? =some x.2}
def elt (ts:List fH) (m:Nat):List (El ts):=if h:m<ts.length then [⟨(m,ts[m]),dK h⟩] else []
def LK (ts:List fH):Nat→List (El ts)
 |0=> []
 |k+1=>LK ts k++elt ts (ts.length - 1 - k)
theorem Td (ts:List fH) (k m:Nat) (x:fH) (hx:ts[m]? =some x) (hm:m=ts.length - 1 - k):LK ts (k+1)=LK ts k++ [⟨(m,x),hx⟩]:=by
 subst hm;obtain ⟨h1,h2⟩:=iP.1 hx;subst h2;show LK ts k++elt ts (ts.length - 1 - k)=_;unfold elt;rw [dif_pos h1]
theorem LM (ts:List fH) (k:Nat) (hk:k≤ts.length):(LK ts k).length=k:=by
 induction k with
 |zero=>rfl
 |succ k ih=>
  show (LK ts k++elt ts (ts.length - 1 - k)).length=k+1;unfold elt;rw [bF,ih (by omega),dif_pos (by omega)];rfl
def rG (w:World) (b off:Nat) (ts:List fH):Prop:=∀j x,ts[j]? =some x→w.rangeAt b (off+j*68) x.cells∧x.cells.length=68
theorem PZ (F:Fence) (n:Nat) (h7:F.fn 84) (hro:F.round=none) (hn:1≤n) (l Bs n₀ b off cap:Nat) (bs:List fH) (hreach:bs.length≤100000) (hb:b<n₀) (J Jx:List (El bs)→World→Prop)
  (hY:∀pre x W,J pre W→pre.length<bs.length→YieldAt F (n - 1) Tryz.prog l #[.int .i64 (x.1.1:Int), .agg x.1.2.cells.toArray] W fun e W'=>
   (e= .returned (.bool true)∧J (pre++ [x]) W'∧BK n₀ Bs W W')∨(e= .returned (.bool false)∧Jx (pre++ [x]) W'))
  (W:World) (hBs:W.cell? ⟨Bs,0,none⟩=some (.slice (some ⟨b,off,none⟩) bs.length cap)) (hc:rG W b off bs) (h0:J [] W):
  CallsIn F n Tryz.prog 84 #[.func (.yield l) #[] #[], .pointer (some ⟨Bs,0,none⟩)] W fun e W'=>(∃v,e= .returned v)∧
   ((∃ys,ys=LK bs bs.length∧J ys W')∨(∃pre,(∃k,k≤bs.length∧pre=LK bs k)∧Jx pre W')):=by
 refine callsIn_of_wp Tryz.func84 rfl h7 ?_ hro;simp only [Tryz.ntmps84,List.size_toArray,List.length_cons,List.length_nil,Nat.reduceAdd,Nat.reduceSub,Array.replicate_succ,Array.replicate_zero,List.push_toArray,List.append_toArray,List.nil_append,List.cons_append]
 gi_wp2
 gi_loopw [3] (fun i wr=>∃k:Nat,k≤bs.length∧i= .int .i64 ((bs.length:Int) - 1 - k)∧J (LK bs k) wr∧BK n₀ Bs W wr)
  (fun i _=>((intOf i)+1).toNat)
 case atStart=>exact ⟨0,Nat.zero_le _,by go_num,h0,BK.refl _ _ _⟩
 case round=>
  obtain ⟨k,hk,rfl,hJs,hnx⟩:=hrel;by_cases hlt:k<bs.length
  ·obtain ⟨m,hm⟩:∃m:Nat,m=bs.length - 1 - k:=⟨_,rfl⟩;have Uf:(bs.length:Int) - 1 - k=(m:Int):=by omega
   have hml:m<bs.length:=by omega
   obtain ⟨x,hxx⟩:∃x,bs[m]? =some x:=⟨_,dK hml⟩;have hcx:wr.rangeAt b (off+m*68) x.cells∧x.cells.length=68:=⟨aW (hc m x hxx).1 hnx.lo hb,(hc m x hxx).2⟩;obtain ⟨hcx,hc68⟩:=hcx;have N8:=ae hcx;have H68:Hid ((Tryz.prog.info? 32).map (·.size)=some x.cells.length):=ae (by rw [hc68];kernel_rfl);have hbx:wr.cell? ⟨Bs,0,none⟩=some (.slice (some ⟨b,off,none⟩) bs.length cap):=hnx.box.trans hBs;obtain ⟨fn,tmps,assign,body,hy,hR⟩:=hY _ ⟨(m,x),hxx⟩ wr hJs (by rw [LM _ _ hk];exact hlt);dsimp only at hy;rw [Uf];have HM:=ae hm;have KU:=ae Uf;have HX:Hid (LK bs (k+1)=LK bs k++ [⟨(m,x),hxx⟩]):=ae (Td bs k m x hxx hm);clear hm Uf hcx hc68
   gi_wp2_with (with_reducible refine GI 32 ?_;refine nX rfl _ _ rfl b (off+m*68) rfl x.cells _ N8.out Tryz.underlying32 rfl H68.out ?_)
   refine hR.mono ?_;rintro e W3 (⟨rfl,hJ3,hk3⟩|⟨rfl,hJx3⟩)
   ·gi_wp2
    go_roundw
    case rel=>exact ⟨k+1,by omega,by have:=KU.out;congr 1;omega,by rw [HX.out];exact hJ3,hnx.trans hk3⟩
    case measure=>simp [intOf]
   ·gi_wp2
    refine bodyPost_ret (results_none rfl _ _ _) rfl ?_;exact ⟨⟨_,rfl⟩, .inr ⟨_,⟨k+1,by omega,by rw [HX.out]⟩,hJx3⟩⟩
  ·have hke:k=bs.length:=by omega
   have VZ:=ae hke;clear hke
   gi_wp2
   go_end0
   exact ⟨⟨_,rfl⟩, .inl ⟨_,by rw [VZ.out],hJs⟩⟩
theorem Ep (F:Fence) (n:Nat) (h7:F.fn 84) (hro:F.round=none) (l Bs:Nat) (A:Option Addr) (c:Nat) {α:Type} (J:List α→World→Prop) (W:World) (hBs:W.cell? ⟨Bs,0,none⟩=some (.slice A 0 c)) (h0:J [] W):
  CallsIn F n Tryz.prog 84 #[.func (.yield l) #[] #[], .pointer (some ⟨Bs,0,none⟩)] W fun e W'=>(∃v,e= .returned v)∧J [] W':=by
 refine callsIn_of_wp Tryz.func84 rfl h7 ?_ hro;simp only [Tryz.ntmps84,List.size_toArray,List.length_cons,List.length_nil,Nat.reduceAdd,Nat.reduceSub,Array.replicate_succ,Array.replicate_zero,List.push_toArray,List.append_toArray,List.nil_append,List.cons_append]
 gi_wp2
 gi_loopw [3] (fun i wr=>i= .int .i64 (-1)∧J [] wr) (fun _ _=>0)
 case atStart=>exact ⟨rfl,h0⟩
 case round=>
  obtain ⟨rfl,hJs⟩:=hrel
  gi_wp2
  go_end0
  exact ⟨⟨_,rfl⟩,hJs⟩
theorem SY (F:Fence) (n:Nat) (h5:F.fn 60) (hro:F.round=none) (a:Option Addr) (len cap:Nat) (w:World):
  CallsIn F n Tryz.prog 60 #[.slice a len cap] w fun e w'=>e= .returned (.func (.func 84) #[] #[.pointer (some ⟨w.heap.size,0,none⟩)])∧w'=w.alloc (.cells #[.slice a len cap] 39):=by
 refine callsIn_of_wp Tryz.func60 rfl h5 ?_ hro;simp only [Tryz.ntmps60,List.size_toArray,List.length_cons,List.length_nil,Nat.reduceAdd,Nat.reduceSub,Array.replicate_succ,Array.replicate_zero,List.push_toArray,List.append_toArray,List.nil_append,List.cons_append]
 gi_wp2
 go_ret;exact ⟨rfl,rfl⟩
theorem Jf (F:Fence) (n:Nat) (h7:F.fn 84) (hro:F.round=none) (hn:1≤n) (Bs n₀:Nat) (A:Option Addr) (cap:Nat) (bs:List fH) (hreach:bs.length≤100000) (w:World) (hBs:Bs<w.heap.size) (hn₀:n₀≤w.heap.size)
  (hc:w.cell? ⟨Bs,0,none⟩=some (.slice A bs.length cap)) (hI:bs.length=0∨∃b off,A=some ⟨b,off,none⟩∧b<n₀∧rG w b off bs):
  SeqStopsK F n Tryz.prog 84 #[.pointer (some ⟨Bs,0,none⟩)] (fun x:El bs=> #[Value.int .i64 (x.1.1:Int), .agg x.1.2.cells.toArray]) (BK n₀ Bs) (fun ys=>ys=LK bs bs.length)
   (fun pre=>∃k,k≤bs.length∧pre=LK bs k) bs.length w:=fun l J Jx W hW _ _ hY h0=>by
 have hc':=(hW.cell (p:=⟨Bs,0,none⟩) hBs).trans hc;rcases hI with h|⟨b,off,rfl,hb,hcs0⟩
 ·rw [h] at hc';exact (Ep F n h7 hro l Bs A cap J W hc' h0).mono fun e W' ⟨he,hj⟩=>⟨he, .inl ⟨_,by rw [h];rfl,hj⟩⟩
 ·exact PZ F n h7 hro hn l Bs n₀ b off cap bs hreach hb J Jx hY W hc' (fun j x hx=>⟨aW (hcs0 j x hx).1 (hW.mono hn₀) hb,(hcs0 j x hx).2⟩) h0
end Go.Proofs.YtdibbemgpikgjaaGreat
