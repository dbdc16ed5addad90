/- The texts Nc, Nd, in this order. -/
import Derived.Test.YtdibbemgpikgjaaGreatDoorW00
import Derived.Test.YtdibbemgpikgjaaGreatDoorW24
set_option maxRecDepth 10000
set_option maxHeartbeats 8000000
namespace Go.Proofs.YtdibbemgpikgjaaGreatDoor
open Go Go.RowKit
attribute [local go_sem] jq aF
theorem Tf (c:Cal) (A R:Option Addr) (a r:Nat) (S:Value) (y m:Int) (w:World) (hc:gW c) (h:oq w w.heap.size A R c) (hm:m=1∨m=2):Calls Tryz.prog 127 #[.agg (jq c A a R r S),I y,I m] w (Gives (I (dB c y m)) w):=by
 have HL:=ae (fun (W:World) (hb:Below w.heap.size w W)=>leapA c A R a r S y W hc ((h.az.keep hb).more hb.size |> fun h1=>⟨h1,(h.rules.keep hb).more hb.size⟩));obtain ⟨n,hn⟩:∃n,c.rules.length=n:=⟨_,rfl⟩;have hMF:=ae (show dB c y m=dB c y m from rfl);obtain ⟨lv,hlv⟩:∃b,qc c y=b:=⟨_,rfl⟩;rw [hlv] at HL;obtain ⟨ep,m0,m1,lp,rs,rfl,b1,b2,b3,b4,hrs⟩:=hc.form;simp only at hn;obtain ⟨b,off,rfl,hb,hcl⟩:=h.az.there (by show 0<2;omega);have f0:w.cell? ⟨b,off,none⟩=some (I m0):=hcl 0 _ rfl;have f1:w.cell? ⟨b,off+1,none⟩=some (I m1):=hcl 1 _ rfl;have hne:¬b=w.heap.size:=by omega
 have e0:(jq ⟨ep,[m0,m1],lp,rs⟩ (some ⟨b,off,none⟩) a R r S)= #[I ep, .slice (some ⟨b,off,none⟩) 2 a,I lp, .slice R n r,S]:=by rw [←hn];rfl
 rw [e0] at HL ⊢;have HV:=ae (jX.start w #[I ep, .slice (some ⟨b,off,none⟩) 2 a,I lp, .slice R n r,S] (219));have XD:=ae hlv;clear hc h hcl hn hrs e0 hlv hMF;rcases hm with rfl|rfl
 ·by_cases hl:lp=0
  ·subst hl;have HE:Hid (dB ⟨ep,[m0,m1],0,rs⟩ y 1=m0+(if lv=true then 1 else 0)):=ae (by
    unfold dB;rw [XD.out];cases lv<;>rfl)
   go_enter Tryz.func127,Tryz.ntmps127;go_wp2_with fail;refine (HL.out _ HV.out.up).mono ?_;rintro e w1 ⟨rfl,hb1⟩;have HW:=ae (HV.out.grow hb1);clear hb1;cases lv
   ·go_wp2_with fail;go_ret;exact ⟨by rw [HE.out];first|rfl|(rw [if_neg (by decide),Int.add_zero];rfl),HW.out.up⟩
   ·go_wp2_with fail;go_ret;exact ⟨by rw [HE.out];first|rfl|(rw [if_neg (by decide),Int.add_zero];rfl),HW.out.up⟩
  ·have hl2:¬(0:Int)=lp:=fun e=>hl e.symm;have HE:Hid (dB ⟨ep,[m0,m1],lp,rs⟩ y 1=m0):=ae (by
    unfold dB;rw [if_neg (fun h=>hl h.1.symm)];show m0+0=m0;omega)
   go_enter Tryz.func127,Tryz.ntmps127;go_wp2_with fail;go_ret;exact ⟨by rw [HE.out];rfl,HV.out.up⟩
 ·by_cases hl:lp=1
  ·subst hl;have HE:Hid (dB ⟨ep,[m0,m1],1,rs⟩ y 2=m1+(if lv=true then 1 else 0)):=ae (by
    unfold dB;rw [XD.out];cases lv<;>rfl)
   go_enter Tryz.func127,Tryz.ntmps127;go_wp2_with fail;refine (HL.out _ HV.out.up).mono ?_;rintro e w1 ⟨rfl,hb1⟩;have HW:=ae (HV.out.grow hb1);clear hb1;cases lv
   ·go_wp2_with fail;go_ret;exact ⟨by rw [HE.out];first|rfl|(rw [if_neg (by decide),Int.add_zero];rfl),HW.out.up⟩
   ·go_wp2_with fail;go_ret;exact ⟨by rw [HE.out];first|rfl|(rw [if_neg (by decide),Int.add_zero];rfl),HW.out.up⟩
  ·have hl2:¬(1:Int)=lp:=fun e=>hl e.symm;have HE:Hid (dB ⟨ep,[m0,m1],lp,rs⟩ y 2=m1):=ae (by
    unfold dB;rw [if_neg (fun h=>hl h.1.symm)];show m1+0=m1;omega)
   go_enter Tryz.func127,Tryz.ntmps127;go_wp2_with fail;go_ret;exact ⟨by rw [HE.out];rfl,HV.out.up⟩
theorem Ue (c:Cal) (y:Int) (hc:gW c):dB c y 1+dB c y 2=dG c y:=by
 obtain ⟨ep,m0,m1,lp,rs,rfl,b1,b2,b3,b4,hrs⟩:=hc.form;obtain ⟨lv,hlv⟩:∃b,qc ⟨ep,[m0,m1],lp,rs⟩ y=b:=⟨_,rfl⟩;have hl:lv=true→lp=0∨lp=1:=fun h=>by
  rcases hrs with rfl|⟨q,yy,rfl,q1,q2,q3⟩
  ·rw [←hlv] at h;cases h
  ·omega
 unfold dB dG;rw [hlv];cases lv
 ·show (m0+(if (1:Int) - 1=lp∧false=true then 1 else 0))+(m1+(if (2:Int) - 1=lp∧false=true then 1 else 0))=(m0+m1)+0;rw [if_neg (fun h=>nomatch h.2),if_neg (fun h=>nomatch h.2)];omega
 ·show (m0+(if (1:Int) - 1=lp∧true=true then 1 else 0))+(m1+(if (2:Int) - 1=lp∧true=true then 1 else 0))=(m0+m1)+1;rcases hl rfl with rfl|rfl
  ·rw [if_pos ⟨rfl,rfl⟩,if_neg (fun h=>by have:=h.1;omega)];omega
  ·rw [if_neg (fun h=>by have:=h.1;omega),if_pos ⟨rfl,rfl⟩];omega
theorem Yb (c:Cal) (A R:Option Addr) (a r:Nat) (S:Value) (y:Int) (w:World) (hc:gW c) (h:oq w w.heap.size A R c):Calls Tryz.prog 121 #[.agg (jq c A a R r S),I y] w (Gives (I (dG c y)) w):=by
 have QF:=ae (fun (m:Int) (hm:m=1∨m=2) (W:World) (hb:Below w.heap.size w W)=>Tf c A R a r S y m W hc (h.grow hb) hm);have YM:=ae (Ue c y hc);have q1b:=ku c y 1 hc (.inl rfl);have q2b:=ku c y 2 hc (.inr rfl);obtain ⟨n,hn⟩:∃n,c.rules.length=n:=⟨_,rfl⟩;have H1:=ae (QF.out 1 (.inl rfl));have H2:=ae (QF.out 2 (.inr rfl));obtain ⟨q1,hq1⟩:∃q,dB c y 1=q:=⟨_,rfl⟩;obtain ⟨q2,hq2⟩:∃q,dB c y 2=q:=⟨_,rfl⟩;rw [hq1] at H1 YM q1b;rw [hq2] at H2 YM q2b;obtain ⟨ep,m0,m1,lp,rs,rfl,b1,b2,b3,b4,hrs⟩:=hc.form;simp only at hn;have e0:(jq ⟨ep,[m0,m1],lp,rs⟩ A a R r S)= #[I ep, .slice A 2 a,I lp, .slice R n r,S]:=by rw [←hn];rfl
 rw [e0] at H1 H2 ⊢;have HV:=ae (jX.start w #[I ep, .slice A 2 a,I lp, .slice R n r,S] (219));have ha:(Tryz.prog.info? (219)).map (·.size)=some 5:=by kernel_rfl
 clear hc h hn hrs e0 hq1 hq2 QF b1 b2 b3 b4;go_enter Tryz.func121,Tryz.ntmps121;go_wp2_with fail;refine wp_loop_rounds 3 ?_;rw [rounds_succ];go_wp2_with fail;refine (H1.out _ HV.out.up).mono ?_;rintro e w1 ⟨rfl,hb1⟩;have pO:=ae (HV.out.grow hb1);have v0:=pO.out.row.2 0;have v1:=pO.out.row.2 1;have v2:=pO.out.row.2 2;have v3:=pO.out.row.2 3;have v4:=pO.out.row.2 4;clear hb1 H1 HV;go_wp2_with fail;rw [rounds_succ];go_wp2_with fail;refine (H2.out _ pO.out.up).mono ?_;rintro e w2 ⟨rfl,hb2⟩;have nK:=ae (pO.out.grow hb2);clear hb2 H2 pO v0 v1 v2 v3 v4;go_wp2_with fail;rw [rounds_succ];go_wp2_with fail;go_ret;exact ⟨by rw [←YM.out];rfl,nK.out.up⟩
end Go.Proofs.YtdibbemgpikgjaaGreatDoor
namespace Go.Proofs.YtdibbemgpikgjaaGreatDoor
open Go Go.RowKit
theorem IL (c:Cal) (A R:Option Addr) (a r:Nat) (y m:Int) (w:World) (hc:gW c) (h:oq w w.heap.size A R c) (hm:m=1∨m=2):Calls Tryz.prog 119 #[.agg (aF c A a R r),I y,I m] w (Gives (I (dB c y m)) w):=by
 have QF:=ae (fun (W:World) (hb:Below w.heap.size w W)=>Tf c A R a r (.slice none 0 0) y m W hc (h.grow hb) hm);have iC:=ae (fun (W:World) (hb:Below w.heap.size w W)=>oC c A R a r W hc (h.grow hb));obtain ⟨n,hn⟩:∃n,c.rules.length=n:=⟨_,rfl⟩;obtain ⟨ep,m0,m1,lp,rs,rfl,b1,b2,b3,b4,hrs⟩:=hc.form;simp only at hn;have e1:aF ⟨ep,[m0,m1],lp,rs⟩ A a R r= #[I ep, .slice A 2 a,I lp, .slice R n r]:=by rw [←hn];rfl
 have e2:∀S,jq ⟨ep,[m0,m1],lp,rs⟩ A a R r S= #[I ep, .slice A 2 a,I lp, .slice R n r,S]:=fun S=>by rw [←hn];rfl
 have HV:=ae (jX.start w #[I ep, .slice A 2 a,I lp, .slice R n r] 63);obtain ⟨q,hq⟩:∃q,dB ⟨ep,[m0,m1],lp,rs⟩ y m=q:=⟨_,rfl⟩;rw [hq,e2] at QF;rw [e1] at iC ⊢;rw [hq];have p1:¬m<1:=by omega
 have p2:¬(2:Int)<m:=by omega
 clear hc h hn hrs e1 e2 hq b1 b2 b3 b4 hm;go_enter Tryz.func119,Tryz.ntmps119;go_wp2_with fail;refine (iC.out _ HV.out.up).mono ?_;rintro e w1 ⟨rfl,hb1⟩;have pO:=ae (HV.out.grow hb1);have v0:=pO.out.row.2 0;have v1:=pO.out.row.2 1;have v2:=pO.out.row.2 2;have v3:=pO.out.row.2 3;clear hb1 iC HV;go_wp2_with fail;refine (QF.out _ pO.out.up).mono ?_;rintro e w2 ⟨rfl,hb2⟩;have nK:=ae (pO.out.grow hb2);clear hb2 QF pO v0 v1 v2 v3;go_wp2_with fail;go_ret;exact ⟨rfl,nK.out.up⟩
theorem WW (c:Cal) (A R:Option Addr) (a r:Nat) (y:Int) (w:World) (hc:gW c) (h:oq w w.heap.size A R c):Calls Tryz.prog 105 #[.agg (aF c A a R r),I y] w (Gives (I (dG c y)) w):=by
 have QF:=ae (fun (W:World) (hb:Below w.heap.size w W)=>Yb c A R a r (.slice none 0 0) y W hc (h.grow hb));have iC:=ae (fun (W:World) (hb:Below w.heap.size w W)=>oC c A R a r W hc (h.grow hb));obtain ⟨n,hn⟩:∃n,c.rules.length=n:=⟨_,rfl⟩;obtain ⟨ep,m0,m1,lp,rs,rfl,b1,b2,b3,b4,hrs⟩:=hc.form;simp only at hn;have e1:aF ⟨ep,[m0,m1],lp,rs⟩ A a R r= #[I ep, .slice A 2 a,I lp, .slice R n r]:=by rw [←hn];rfl
 have e2:∀S,jq ⟨ep,[m0,m1],lp,rs⟩ A a R r S= #[I ep, .slice A 2 a,I lp, .slice R n r,S]:=fun S=>by rw [←hn];rfl
 have HV:=ae (jX.start w #[I ep, .slice A 2 a,I lp, .slice R n r] 63);obtain ⟨q,hq⟩:∃q,dG ⟨ep,[m0,m1],lp,rs⟩ y=q:=⟨_,rfl⟩;rw [hq,e2] at QF;rw [e1] at iC ⊢;rw [hq];clear hc h hn hrs e1 e2 hq b1 b2 b3 b4;go_enter Tryz.func105,Tryz.ntmps105;go_wp2_with fail;refine (iC.out _ HV.out.up).mono ?_;rintro e w1 ⟨rfl,hb1⟩;have pO:=ae (HV.out.grow hb1);have v0:=pO.out.row.2 0;have v1:=pO.out.row.2 1;have v2:=pO.out.row.2 2;have v3:=pO.out.row.2 3;clear hb1 iC HV;go_wp2_with fail;refine (QF.out _ pO.out.up).mono ?_;rintro e w2 ⟨rfl,hb2⟩;have nK:=ae (pO.out.grow hb2);clear hb2 QF pO v0 v1 v2 v3;go_wp2_with fail;go_ret;exact ⟨rfl,nK.out.up⟩
end Go.Proofs.YtdibbemgpikgjaaGreatDoor
