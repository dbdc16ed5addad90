/- The texts Vb, in this order. -/
import Derived.Test.YtbaehbbonkljpaaGreatR00
import Derived.Test.YtbaehbbonkljpaaGreatR09
import Derived.Test.YtbaehbbonkljpaaGreatR16
import Derived.Test.YtbaehbbonkljpaaGreatR28
set_option maxRecDepth 10000
set_option maxHeartbeats 8000000
namespace Go.Proofs.YtbaehbbonkljpaaGreat
open Go Go.RowKit
theorem Tz (l:List Lr) (x:Lr) (y:Int):yf (l++ [x]) y=if (y%x.every==x.rest)=true then x.yes else yf l y:=by
 unfold yf;rw [List.reverse_append];show (match ([x]++l.reverse).find? _ with|some r=>r.yes|none=>false)=_;rw [List.singleton_append,List.find?_cons];cases (y%x.every==x.rest)<;>rfl
def GG (c:Cal):Nat→Int
 |0=>0
 |k+1=>GG c k+(c.aj[k]?.getD 0)
theorem KH {c:Cal} (hc:eH c):∀k:Nat,k≤c.aj.length→0≤GG c k∧GG c k≤40*(k:Int)
 |0,_=>⟨by show (0:Int)≤0;omega,by show (0:Int)≤40*0;omega⟩
 |k+1,h=>by
  have h1:=KH hc k (by omega);have h2:=hc.mo (c.aj[k]) (List.getElem_mem (by omega));show 0≤GG c k+(c.aj[k]?.getD 0)∧GG c k+(c.aj[k]?.getD 0)≤_;rw [bZ (by omega),Option.getD_some];omega
theorem Tv {c:Cal} (hc:eH c) (y:Int) (h:c.aY<0):yf c.rules y=false:=by
 have h1:=hc.nl (by have:=hc.lp;omega);rw [List.length_eq_zero_iff.1 h1];rfl
theorem U0 {c:Cal} (hc:eH c) (y:Int):∀k:Nat,jS c y k=GG c k+(if c.aY<(k:Int) then (bif yf c.rules y then 1 else 0) else 0)
 |0=>by
  show (0:Int)=0+_;by_cases h:c.aY<((0:Nat):Int)
  ·rw [if_pos h,Tv hc y (by omega)];rfl
  ·rw [if_neg h];rfl
 |k+1=>by
  show jS c y k+((c.aj[k]?.getD 0)+_)=GG c k+(c.aj[k]?.getD 0)+_;rw [U0 hc y k];by_cases h:(k:Int)=c.aY
  ·have e:((k:Int)==c.aY)=true:=by simp [h]
   rw [e,if_neg (by omega),if_pos (by omega),cond_true];omega
  ·have e:((k:Int)==c.aY)=false:=by simpa using h
   rw [e,cond_false];by_cases h2:c.aY<(k:Int)
   ·rw [if_pos h2,if_pos (by omega)];omega
   ·rw [if_neg h2,if_neg (by omega)];omega
theorem yr_cm {c:Cal} (hc:eH c) (y:Int):uw c y=GG c c.aj.length+(if yf c.rules y=true then 1 else 0):=by
 unfold uw;rw [U0 hc y,if_pos hc.lp.2];cases yf c.rules y<;>rfl
theorem jw.drewN {w W:World} {cs:Array Value} (h:jw w cs W) (n:Nat):jw w cs (W.drewN n):=⟨⟨h.row.1,h.row.2⟩,below_drewN h.up n⟩
theorem Og (c:Cal) (A R:Option Addr) (a r:Nat) (y:Int) (w:World) (hc:eH c) (h:nD w w.heap.size A R c) (hy:0≤y):Calls Tryz.prog 103 #[.agg (aH c A a R r),I y] w (Gives (.bool (yf c.rules y)) w):=by
 have jJ:Hid (∀W,Below w.heap.size w W→Calls Tryz.prog 62 #[.agg (aH c A a R r)] W (Gives (.bool true) W)):=ae fun W hb=>by
  have h1:=oC c A R a r W (h.grow hb)
  rwa [oG hc] at h1
 obtain ⟨nr,hnr⟩:∃n,c.rules.length=n:=⟨_,rfl⟩;obtain ⟨n,hn⟩:∃n,c.aj.length=n:=⟨_,rfl⟩;have e0:aH c A a R r= #[I c.aJ, .slice A n a,I c.aY, .slice R nr r]:=by rw [←hn,←hnr];rfl
 obtain ⟨lp,hlp⟩:∃l,c.aY=l:=⟨_,rfl⟩;obtain ⟨ep,lL⟩:∃l,c.aJ=l:=⟨_,rfl⟩;rw [hlp,lL] at e0;have JF:=ae e0;have HV:=ae (jw.start w #[I ep, .slice A n a,I lp, .slice R nr r] 50);rw [e0] at jJ ⊢;have V7:=ae h.rules;have EG:Hid ((c.rules.flatMap Lr.cells).length=nr*3):=ae (by rw [cu (s:=3) Lr.cells c.rules (fun _ _=>rfl),hnr]);have OD:=ae hc.aY;have EH:=ae hnr;have uD:=ae (show nr≤16 by rw [←hnr];exact hc.rl);have HY:=ae hy;clear e0 hlp lL hnr hn hc h hy;go_enter Tryz.func103,Tryz.ntmps103;go_wp2_with fail;refine (jJ.out _ HV.out.up).mono ?_;rintro e w1 ⟨rfl,hb1⟩;have HW:=ae (HV.out.grow hb1);clear hb1 HV jJ;go_wp2_with fail
 go_loopw [5,6] (fun q i wr=>∃k:Nat,k≤nr∧q= .bool (yf (c.rules.take k) y)∧i=I (k:Int)∧jw w #[I ep, .slice A n a,I lp, .slice R nr r] wr) (fun _ i _=>nr - (intOf i).toNat)
 case atStart=>exact ⟨0,Nat.zero_le _,rfl,rfl,HW.out⟩
 case round=>
  clear HW;obtain ⟨k,hk,rfl,rfl,hv⟩:=hrel;have HW:=ae hv;clear hv;obtain ⟨u,hu⟩:∃u,yf (c.rules.take k) y=u:=⟨_,rfl⟩;rw [hu];have HU:=ae hu;clear hu;have k16:(k:Int)≤16:=by have:=uD.out;omega
  by_cases hlt:k<nr
  ·have i0:(0:Int)≤(k:Int):=by omega
   have i1:(k:Int)<(nr:Int):=by omega
   obtain ⟨x,hx⟩:∃x,c.rules[k]? =some x:=⟨_,bZ (by rw [EH.out];exact hlt)⟩;obtain ⟨b,off,rfl,hbl,hcl⟩:=V7.out.there (by rw [EG.out];omega);have hr:=aU (az.elem (s:=3) (f:=Lr.cells) (fun _ _=>rfl) hcl k x hx) HW.out.up hbl;have hle:=OD.out x (gU hx);have HS:=ae (Tz (c.rules.take k) x y);rw [←jR c.rules k x hx,HU.out] at HS;obtain ⟨ev,re,ye⟩:=x;simp only at hle HS;have f0:wr.cell? ⟨b,off+k*3,none⟩=some (I ev):=hr 0 _ rfl;have f1:wr.cell? ⟨b,off+k*3+1,none⟩=some (I re):=hr 1 _ rfl;have f2:wr.cell? ⟨b,off+k*3+2,none⟩=some (.bool ye):=hr 2 _ rfl;have v3:wr.cell? ⟨w.heap.size,3,none⟩=some (.slice (some ⟨b,off,none⟩) nr r):=HW.out.row.2 3;have YV:=ae (fun W=>TF y ev W (by omega) (by omega) HY.out);obtain ⟨m,hm⟩:∃m,y%ev=m:=⟨_,rfl⟩;rw [hm] at YV HS;clear hm hle hr hcl hx;go_upto_region 7 with fail;go_quiet (first|(go_at_call 114;refine Calls.quiet_of_same (YV.out _)));obtain ⟨t,ht⟩:∃t,(m==re)=t:=⟨_,rfl⟩;have HT:=ae ht;cases t
   all_goals
    go_wp2_with fail;go_roundw
    case rel=>exact ⟨k+1,by omega,by rw [HS.out,HT.out];rfl,by have h16:=uD.out;go_num,HW.out.drewN _⟩
    case measure=>simp [intOf];have h16:=uD.out;omega
  ·have hkn:k=nr:=by omega
   have hlt':¬(k:Int)<(nr:Int):=by omega
   have v3:wr.cell? ⟨w.heap.size,3,none⟩=some (.slice R nr r):=HW.out.row.2 3;have HF:Hid (yf c.rules y=u):=ae (by
    have h1:=HU.out
    rwa [List.take_of_length_le (by rw [EH.out];omega)] at h1)
   clear hlt hkn;go_wp2_with fail;go_ret;exact ⟨by rw [HF.out];rfl,HW.out.up⟩
theorem PQ (c:Cal) (A R:Option Addr) (a r:Nat) (w:World) (hc:eH c) (h:nD w w.heap.size A R c):Calls Tryz.prog 104 #[.agg (aH c A a R r)] w (Gives (I (GG c c.aj.length)) w):=by
 have HBD:=ae (KH hc);obtain ⟨nr,hnr⟩:∃n,c.rules.length=n:=⟨_,rfl⟩;obtain ⟨n,hn⟩:∃n,c.aj.length=n:=⟨_,rfl⟩;have e0:aH c A a R r= #[I c.aJ, .slice A n a,I c.aY, .slice R nr r]:=by rw [←hn,←hnr];rfl
 obtain ⟨lp,hlp⟩:∃l,c.aY=l:=⟨_,rfl⟩;obtain ⟨ep,lL⟩:∃l,c.aJ=l:=⟨_,rfl⟩;rw [hlp,lL] at e0;have JF:=ae e0;have HV:=ae (jw.start w #[I ep, .slice A n a,I lp, .slice R nr r] 50);rw [e0,hn];rw [hn] at HBD;have HM:=ae h.aj;have zq:=ae hn;have uD:=ae (show n≤16 by rw [←hn];exact hc.ml.2);have OE:=ae hc.mo;clear e0 hlp lL hnr hn hc h;go_enter Tryz.func104,Tryz.ntmps104;go_wp2_with fail
 go_loopw [3,4] (fun q i wr=>∃k:Nat,k≤n∧q=I (GG c k)∧i=I (k:Int)∧jw w #[I ep, .slice A n a,I lp, .slice R nr r] wr) (fun _ i _=>n - (intOf i).toNat)
 case atStart=>exact ⟨0,Nat.zero_le _,rfl,rfl,HV.out⟩
 case round=>
  clear HV;obtain ⟨k,hk,rfl,rfl,hv⟩:=hrel;have HW:=ae hv;clear hv;have hbd:=HBD.out k hk;have HS:Hid (GG c (k+1)=GG c k+(c.aj[k]?.getD 0)):=ae rfl;obtain ⟨u,hu⟩:∃u,GG c k=u:=⟨_,rfl⟩;rw [hu] at hbd HS ⊢;have HU:=ae hu;clear hu;have k16:(k:Int)≤16:=by have:=uD.out;omega
  by_cases hlt:k<n
  ·have i0:(0:Int)≤(k:Int):=by omega
   have i1:(k:Int)<(n:Int):=by omega
   obtain ⟨x,hx⟩:∃x,c.aj[k]? =some x:=⟨_,bZ (by rw [zq.out];exact hlt)⟩;obtain ⟨b,off,rfl,hbl,hcl⟩:=HM.out.there (by rw [List.length_map,zq.out];omega);have f0:wr.cell? ⟨b,off+k,none⟩=some (I x):=(HW.out.up.cell (p:=⟨b,off+k,none⟩) hbl).trans (hcl k _ (by rw [List.getElem?_map,hx];rfl));have v1:wr.cell? ⟨w.heap.size,1,none⟩=some (.slice (some ⟨b,off,none⟩) n a):=HW.out.row.2 1;have hxb:=OE.out x (gU hx);rw [hx,Option.getD_some] at HS;have hs1:0≤u+x∧u+x≤1000:=by omega
   have HXB:=ae hxb;have HBB:=ae hbd;clear hx hcl;go_wp2_with fail;go_roundw
   case rel=>exact ⟨k+1,by omega,by rw [HS.out],by have h16:=uD.out;go_num,HW.out⟩
   case measure=>simp [intOf];have h16:=uD.out;omega
  ·have hkn:k=n:=by omega
   have hlt':¬(k:Int)<(n:Int):=by omega
   have v1:wr.cell? ⟨w.heap.size,1,none⟩=some (.slice A n a):=HW.out.row.2 1;have HF:Hid (GG c n=u):=ae (by rw [←hkn];exact HU.out);clear hlt hkn hbd;go_wp2_with fail;go_ret;exact ⟨by rw [HF.out];rfl,HW.out.up⟩
theorem Oh (c:Cal) (A R:Option Addr) (a r:Nat) (y:Int) (w:World) (hc:eH c) (h:nD w w.heap.size A R c) (hy:0≤y):Calls Tryz.prog 83 #[.agg (aH c A a R r),I y] w (Gives (I (uw c y)) w):=by
 have jJ:Hid (∀W,Below w.heap.size w W→Calls Tryz.prog 62 #[.agg (aH c A a R r)] W (Gives (.bool true) W)):=ae fun W hb=>by
  have h1:=oC c A R a r W (h.grow hb)
  rwa [oG hc] at h1
 have JG:Hid (∀W,Below w.heap.size w W→Calls Tryz.prog 103 #[.agg (aH c A a R r),I y] W (Gives (.bool (yf c.rules y)) W)):=ae fun W hb=>Og _ A R a r y W hc (h.grow hb) hy;have HCM:Hid (∀W,Below w.heap.size w W→Calls Tryz.prog 104 #[.agg (aH c A a R r)] W (Gives (I (GG c c.aj.length)) W)):=ae fun W hb=>PQ _ A R a r W hc (h.grow hb);have hcm:0≤GG c c.aj.length∧GG c c.aj.length≤640:=by
  have h1:=KH hc c.aj.length (Nat.le_refl _);have h2:=hc.ml;omega
 rw [yr_cm hc y];obtain ⟨u,hu⟩:∃u,yf c.rules y=u:=⟨_,rfl⟩;obtain ⟨q,hq⟩:∃q,GG c c.aj.length=q:=⟨_,rfl⟩;rw [hu] at JG ⊢;rw [hq] at HCM hcm ⊢;obtain ⟨ep,lp,A',R',n,m,hcs⟩:∃ep lp,∃A' R':Option Addr,∃n m:Nat,aH c A a R r= #[I ep, .slice A' n a,I lp, .slice R' m r]:=⟨_,_,_,_,_,_,rfl⟩;rw [hcs] at jJ JG HCM ⊢;obtain ⟨V,hV⟩:∃V,(q+(if u=true then 1 else 0))=V:=⟨_,rfl⟩;rw [hV];have HVQ:=ae hV;clear hV;clear hcs hu hq hc h hy;have HV:=ae (jw.start w #[I ep, .slice A' n a,I lp, .slice R' m r] 50);go_enter Tryz.func83,Tryz.ntmps83;go_wp2_with fail;refine (jJ.out _ HV.out.up).mono ?_;rintro e w1 ⟨rfl,hb1⟩;have HW:=ae (HV.out.grow hb1);have v0:w1.cell? ⟨w.heap.size,0,none⟩=some (I ep):=HW.out.row.2 0;have v1:w1.cell? ⟨w.heap.size,1,none⟩=some (.slice A' n a):=HW.out.row.2 1;have v2:w1.cell? ⟨w.heap.size,2,none⟩=some (I lp):=HW.out.row.2 2;have v3:w1.cell? ⟨w.heap.size,3,none⟩=some (.slice R' m r):=HW.out.row.2 3;clear hb1 HV jJ;go_wp2_with fail;clear v0 v1 v2 v3;refine (JG.out _ HW.out.up).mono ?_;rintro e w2 ⟨rfl,hb1⟩;have HW2:=ae (HW.out.grow hb1);have v0:w2.cell? ⟨w.heap.size,0,none⟩=some (I ep):=HW2.out.row.2 0;have v1:w2.cell? ⟨w.heap.size,1,none⟩=some (.slice A' n a):=HW2.out.row.2 1;have v2:w2.cell? ⟨w.heap.size,2,none⟩=some (I lp):=HW2.out.row.2 2;have v3:w2.cell? ⟨w.heap.size,3,none⟩=some (.slice R' m r):=HW2.out.row.2 3;clear hb1 JG HW;cases u
 all_goals
  go_wp2_with fail;refine (HCM.out _ HW2.out.up).mono ?_;rintro e w3 ⟨rfl,hb3⟩;have HB3:=ae (ai HW2.out.up hb3);clear hb3 v0 v1 v2 v3;go_wp2_with fail;go_ret;exact ⟨by rw [←HVQ.out];simp,HB3.out⟩
theorem Ui (c:Cal) (A R:Option Addr) (a r:Nat) (y:Int) (m:Nat) (w:World) (hc:eH c) (h:nD w w.heap.size A R c) (hy:0≤y) (hm:m<c.aj.length):Calls Tryz.prog 102 #[.agg (aH c A a R r),I y,I ((m:Int)+1)] w (Gives (I (uI c y m)) w):=by
 have jJ:Hid (∀W,Below w.heap.size w W→Calls Tryz.prog 62 #[.agg (aH c A a R r)] W (Gives (.bool true) W)):=ae fun W hb=>by
  have h1:=oC c A R a r W (h.grow hb)
  rwa [oG hc] at h1
 have JG:Hid (∀W,Below w.heap.size w W→Calls Tryz.prog 103 #[.agg (aH c A a R r),I y] W (Gives (.bool (yf c.rules y)) W)):=ae fun W hb=>Og _ A R a r y W hc (h.grow hb) hy;obtain ⟨nr,hnr⟩:∃n,c.rules.length=n:=⟨_,rfl⟩;obtain ⟨n,hn⟩:∃n,c.aj.length=n:=⟨_,rfl⟩;have e0:aH c A a R r= #[I c.aJ, .slice A n a,I c.aY, .slice R nr r]:=by rw [←hn,←hnr];rfl
 obtain ⟨lp,hlp⟩:∃l,c.aY=l:=⟨_,rfl⟩;obtain ⟨ep,lL⟩:∃l,c.aJ=l:=⟨_,rfl⟩;rw [hlp,lL] at e0;have JF:=ae e0;have HV:=ae (jw.start w #[I ep, .slice A n a,I lp, .slice R nr r] 50);rw [e0] at jJ JG ⊢;obtain ⟨u,hu⟩:∃u,yf c.rules y=u:=⟨_,rfl⟩;rw [hu] at JG;obtain ⟨V,hV⟩:∃V,uI c y m=V:=⟨_,rfl⟩;rw [hV];obtain ⟨x,hx⟩:∃x,c.aj[m]? =some x:=⟨_,bZ hm⟩;have hxb:=hc.mo x (gU hx);have HVQ:Hid (V=x+(bif (m:Int)==lp then (bif u then 1 else 0) else 0)):=ae (by
  rw [←hV,←hlp,←hu];unfold uI;rw [hx,Option.getD_some])
 have HM:=ae h.aj;have HX:=ae hx;have zq:=ae hn;have hml:n≤16:=by rw [←hn];exact hc.ml.2
 rw [hn] at hm;have s1:¬(m:Int)+1<1:=by omega
 have s2:¬(n:Int)<(m:Int)+1:=by omega
 have s3:(m:Int)+1 - 1=(m:Int):=by omega
 have i0:(0:Int)≤(m:Int):=by omega
 have i1:(m:Int)<(n:Int):=by omega
 have hm16:(m:Int)≤15:=by omega
 clear e0 hlp lL hnr hn hc h hy hV hu hx;obtain ⟨t,ht⟩:∃t,((m:Int)==lp)=t:=⟨_,rfl⟩;have HT:=ae ht;cases t
 ·go_enter Tryz.func102,Tryz.ntmps102;go_wp2_with fail;refine (jJ.out _ HV.out.up).mono ?_;rintro e w1 ⟨rfl,hb1⟩;have HW:=ae (HV.out.grow hb1);obtain ⟨b,off,rfl,hbl,hcl⟩:=HM.out.there (by rw [List.length_map,zq.out];omega);have f0:w1.cell? ⟨b,off+m,none⟩=some (I x):=(HW.out.up.cell (p:=⟨b,off+m,none⟩) hbl).trans (hcl m _ (by rw [List.getElem?_map,HX.out];rfl));have v0:w1.cell? ⟨w.heap.size,0,none⟩=some (I ep):=HW.out.row.2 0;have v1:w1.cell? ⟨w.heap.size,1,none⟩=some (.slice (some ⟨b,off,none⟩) n a):=HW.out.row.2 1;have v2:w1.cell? ⟨w.heap.size,2,none⟩=some (I lp):=HW.out.row.2 2;have v3:w1.cell? ⟨w.heap.size,3,none⟩=some (.slice R nr r):=HW.out.row.2 3;clear hb1 hcl HV jJ;go_wp2_with fail;go_ret;exact ⟨by rw [HVQ.out,HT.out];simp,HW.out.up⟩
 ·go_enter Tryz.func102,Tryz.ntmps102;go_wp2_with fail;refine (jJ.out _ HV.out.up).mono ?_;rintro e w1 ⟨rfl,hb1⟩;have HW:=ae (HV.out.grow hb1);have v0:w1.cell? ⟨w.heap.size,0,none⟩=some (I ep):=HW.out.row.2 0;have v1:w1.cell? ⟨w.heap.size,1,none⟩=some (.slice A n a):=HW.out.row.2 1;have v2:w1.cell? ⟨w.heap.size,2,none⟩=some (I lp):=HW.out.row.2 2;have v3:w1.cell? ⟨w.heap.size,3,none⟩=some (.slice R nr r):=HW.out.row.2 3;clear hb1 HV jJ;go_wp2_with fail;clear v0 v1 v2 v3;refine (JG.out _ HW.out.up).mono ?_;rintro e w2 ⟨rfl,hb1⟩;have HW2:=ae (HW.out.grow hb1);obtain ⟨b,off,rfl,hbl,hcl⟩:=HM.out.there (by rw [List.length_map,zq.out];omega);have f0:w2.cell? ⟨b,off+m,none⟩=some (I x):=(HW2.out.up.cell (p:=⟨b,off+m,none⟩) hbl).trans (hcl m _ (by rw [List.getElem?_map,HX.out];rfl));have v1:w2.cell? ⟨w.heap.size,1,none⟩=some (.slice (some ⟨b,off,none⟩) n a):=HW2.out.row.2 1;clear hb1 hcl JG HW;cases u
  all_goals
   go_wp2_with fail;go_ret;exact ⟨by rw [HVQ.out,HT.out];simp,HW2.out.up⟩
theorem Ud (c:Cal) (A R:Option Addr) (a r:Nat) (w:World) (hc:eH c) (h:nD w w.heap.size A R c):Calls Tryz.prog 84 #[.agg (aH c A a R r)] w (Gives (.tuple #[I (Il c:Int),I (GH c), .int .i64 0]) w):=by
 have jJ:Hid (∀W,Below w.heap.size w W→Calls Tryz.prog 62 #[.agg (aH c A a R r)] W (Gives (.bool true) W)):=ae fun W hb=>by
  have h1:=oC c A R a r W (h.grow hb)
  rwa [oG hc] at h1
 have HY:Hid (∀W,Below w.heap.size w W→∀k:Nat,Calls Tryz.prog 83 #[.agg (aH c A a R r),I ((k:Int)+1)] W (Gives (I (uw c ((k:Int)+1))) W)):=ae fun W hb k=>Oh _ A R a r ((k:Int)+1) W hc (h.grow hb) (by omega);have Vw:=ae (fun k:Nat=>lD c ((k:Int)+1) hc);have JW:=ae (fun k:Nat=>vG c k hc);obtain ⟨nr,hnr⟩:∃n,c.rules.length=n:=⟨_,rfl⟩;obtain ⟨n,hn⟩:∃n,c.aj.length=n:=⟨_,rfl⟩;have e0:aH c A a R r= #[I c.aJ, .slice A n a,I c.aY, .slice R nr r]:=by rw [←hn,←hnr];rfl
 obtain ⟨lp,hlp⟩:∃l,c.aY=l:=⟨_,rfl⟩;obtain ⟨ep,lL⟩:∃l,c.aJ=l:=⟨_,rfl⟩;rw [hlp,lL] at e0;have JF:=ae e0;have HV:=ae (jw.start w #[I ep, .slice A n a,I lp, .slice R nr r] 50);rw [e0] at jJ HY ⊢;unfold GH;obtain ⟨N,hN⟩:∃N,Il c=N:=⟨_,rfl⟩;have hcy:=EX hc;rw [hN] at hcy ⊢;have HPE:=ae hcy.1;have OG:=ae hcy.2;have V7:=ae h.rules;have EG:Hid ((c.rules.flatMap Lr.cells).length=nr*3):=ae (by rw [cu (s:=3) Lr.cells c.rules (fun _ _=>rfl),hnr]);have EH:=ae hnr;have uD:=ae (show nr≤16 by rw [←hnr];exact hc.rl);have Z9:=ae (fun x hx=>(qj c.rules 1 hc.per x hx));clear e0 hlp lL hnr hn hc h hcy hN;go_enter Tryz.func84,Tryz.ntmps84;go_wp2_with fail;refine (jJ.out _ HV.out.up).mono ?_;rintro e w1 ⟨rfl,hb1⟩;have HW:=ae (HV.out.grow hb1);clear hb1 HV jJ;go_wp2_with fail
 go_loopw [5,6] (fun q i wr=>∃k Y:Nat,k≤nr∧q=I (Y:Int)∧i=I (k:Int)∧1≤Y∧Y≤400∧jO c.rules 1=jO (c.rules.drop k) Y∧jw w #[I ep, .slice A n a,I lp, .slice R nr r] wr) (fun _ i _=>nr - (intOf i).toNat)
 case atStart=>exact ⟨0,1,Nat.zero_le _,rfl,rfl,by omega,by omega,rfl,HW.out⟩
 case round=>
  clear HW;obtain ⟨k,Y,hk,rfl,rfl,hy1,hy2,hp,hv⟩:=hrel;have HW:=ae hv;have HP:=ae hp;clear hv hp;have k16:(k:Int)≤16:=by have:=uD.out;omega
  by_cases hlt:k<nr
  ·have i0:(0:Int)≤(k:Int):=by omega
   have i1:(k:Int)<(nr:Int):=by omega
   obtain ⟨x,hx⟩:∃x,c.rules[k]? =some x:=⟨_,bZ (by rw [EH.out];exact hlt)⟩;obtain ⟨b,off,rfl,hbl,hcl⟩:=V7.out.there (by rw [EG.out];omega);have hr:=aU (az.elem (s:=3) (f:=Lr.cells) (fun _ _=>rfl) hcl k x hx) HW.out.up hbl;have hgd:=Z9.out x (gU hx);have hd:c.rules.drop k=x::c.rules.drop (k+1):=by
    rw [List.drop_eq_getElem_cons (by rw [EH.out];exact hlt)];rw [bZ (by rw [EH.out];exact hlt)] at hx;injection hx with hx;rw [hx]
   rw [hd] at HP;obtain ⟨ev,re,ye⟩:=x;simp only at hgd;have f0:wr.cell? ⟨b,off+k*3,none⟩=some (I ev):=hr 0 _ rfl;have v3:wr.cell? ⟨w.heap.size,3,none⟩=some (.slice (some ⟨b,off,none⟩) nr r):=HW.out.row.2 3;have hbad:¬(ev<1∨400<ev∨re<0∨ev≤re):=by omega
   obtain ⟨E,rfl⟩:∃E:Nat,ev=(E:Int):=⟨ev.toNat,by omega⟩;obtain ⟨L,hL⟩:∃L,Nat.lcm Y E=L:=⟨_,rfl⟩;obtain ⟨G,hG⟩:∃G,Nat.gcd Y E=G:=⟨_,rfl⟩;obtain ⟨Q,hQ⟩:∃Q,Y / G=Q:=⟨_,rfl⟩;have hG1:0<G:=by rw [←hG];exact Nat.gcd_pos_of_pos_left _ (by omega)
   have hL1:1≤L:=by rw [←hL];exact Nat.lcm_pos (by omega) (by omega)
   have hQE:Q*E=L:=by rw [←hQ,←hG,←hL];exact lcm_div Y E
   have hQ4:Q≤400:=by rw [←hQ];exact Nat.le_trans (Nat.div_le_self _ _) hy2
   have hqi:(Y:Int).tdiv (G:Int)=(Q:Int):=by rw [←hQ,Int.tdiv_eq_ediv_of_nonneg (by omega)];rfl
   have hqe:(Q:Int)*(E:Int)=(L:Int):=by rw [←hQE];simp
   have hg0:¬(G:Int)=0:=by omega
   have hg1:¬(G:Int)= -1:=by omega
   have YQ:=ae (fun W=>IW Y E W (by omega) (by omega));rw [hG] at YQ;have hP2:jO c.rules 1=if 400<L then none else jO (c.rules.drop (k+1)) L:=by
    rw [HP.out];show (if _ then _ else _)=_;rw [if_neg hbad,Int.toNat_natCast,hL]
   have hLb:¬400<L:=fun hh=>by
    rw [if_pos hh,HPE.out] at hP2;cases hP2
   rw [if_neg hLb] at hP2;have HP2:=ae hP2;clear hbad hd hr hcl hx hP2 hL HP hG hQ hQE hgd;go_upto_region 7 with fail;go_quiet (first|(go_at_call 80;refine Calls.quiet_of_same (YQ.out _)));go_wp2_with fail;go_roundw
   case rel=>exact ⟨k+1,L,by omega,rfl,by have h16:=uD.out;go_num,hL1,by omega,HP2.out,HW.out.drewN _⟩
   case measure=>simp [intOf];have h16:=uD.out;omega
  ·have hkn:k=nr:=by omega
   have hlt':¬(k:Int)<(nr:Int):=by omega
   have v3:wr.cell? ⟨w.heap.size,3,none⟩=some (.slice R nr r):=HW.out.row.2 3;have hYN:Y=N:=by
    have h1:=HPE.out;rw [HP.out,List.drop_of_length_le (by rw [EH.out];omega)] at h1;injection h1
   subst hYN;clear hlt hkn HP;go_wp2_with fail;clear v3
   go_loopw [7,8] (fun q i wr=>∃k:Nat,k≤Y∧q=I (gZ c k)∧i=I ((k:Int)+1)∧jw w #[I ep, .slice A n a,I lp, .slice R nr r] wr) (fun _ i _=>Y+1 - (intOf i).toNat)
   case atStart=>exact ⟨0,Nat.zero_le _,rfl,rfl,HW.out⟩
   case round=>
    clear HW hlt';obtain ⟨j,hj,rfl,rfl,hv⟩:=hrel;have HW:=ae hv;clear hv;have hsb:=JW.out j;have HST:Hid (gZ c (j+1)=gZ c j+uw c ((j:Int)+1)):=ae rfl;obtain ⟨u,hu⟩:∃u,gZ c j=u:=⟨_,rfl⟩;rw [hu] at hsb HST ⊢;have HU:=ae hu;clear hu;have v0:wr.cell? ⟨w.heap.size,0,none⟩=some (I ep):=HW.out.row.2 0;have v1:wr.cell? ⟨w.heap.size,1,none⟩=some (.slice A n a):=HW.out.row.2 1;have v2:wr.cell? ⟨w.heap.size,2,none⟩=some (I lp):=HW.out.row.2 2;have v3:wr.cell? ⟨w.heap.size,3,none⟩=some (.slice R nr r):=HW.out.row.2 3;have j16:(j:Int)≤400:=by have:=OG.out;omega
    by_cases hjt:j<Y
    ·have j1:(j:Int)+1≤(Y:Int):=by omega
     have hyb:=Vw.out j;have dE:=ae (HY.out _ HW.out.up j);obtain ⟨v,hv⟩:∃v,uw c ((j:Int)+1)=v:=⟨_,rfl⟩;rw [hv] at hyb HST dE;clear hv;have HSBB:=ae hsb;have HYBB:=ae hyb;go_wp2_with fail;refine dE.out.mono ?_;rintro e w2 ⟨rfl,hb1⟩;have HW2:=ae (HW.out.grow hb1);clear hb1 HW v0 v1 v2 v3;go_wp2_with fail;go_roundw
     case rel=>exact ⟨j+1,by omega,by rw [HST.out],by have h16:=OG.out;go_num,HW2.out⟩
     case measure=>simp [intOf];have h16:=OG.out;omega
    ·have j1:¬(j:Int)+1≤(Y:Int):=by omega
     have hjy:j=Y:=by omega
     have HF:Hid (gZ c Y=u):=ae (by rw [←hjy];exact HU.out);clear hjt hjy hsb;go_wp2_with fail
     go_ret3
     exact ⟨by rw [HF.out];rfl,HW.out.up⟩
end Go.Proofs.YtbaehbbonkljpaaGreat
