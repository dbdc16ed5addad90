/- The texts Sd, Ng1, Ng2, Ns0, Na, in this order. -/
import Derived.Test.YtdibbemgpikgjaaGreatZ00
import Derived.Shelf.SlSortCmp.WholeK
import Derived.Shelf.SlicesG.Cmp
import Derived.Test.YtdibbemgpikgjaaGreatZ02
import Derived.Test.YtdibbemgpikgjaaGreatZ04
import Derived.Test.YtdibbemgpikgjaaGreatZ15
import Derived.Test.YtdibbemgpikgjaaGreatZ16
set_option maxRecDepth 10000
set_option maxHeartbeats 8000000
namespace Go.Proofs.YtdibbemgpikgjaaGreat
open Go Go.RowKit
attribute [local go_sem] eQ fA eU fC iZ ja eH eX eP eY wo wu
structure ZnQo (lo:Nat) (w:World) (s:Zs) (z:Zn):Prop where
 au:w.ownsRow lo 3 1 (.slice s.A z.cal.au.length s.a) z.cal.au.length (z.cal.au.map I)
 rules:w.ownsRow lo 134 3 (.slice s.B z.cal.rules.length s.b) z.cal.rules.length (z.cal.rules.flatMap Lr.cells)
 trans:w.ownsRow lo 100 2 (.slice s.C z.trans.length s.c) z.trans.length (z.trans.flatMap Tr.cells)
 ay:w.ownsRow lo 130 5 (.slice s.D z.ay.length s.d) z.ay.length (z.ay.flatMap Yr.cells)
theorem nO.sm {z:Zn} (h:nO z):(∀x∈z.trans,RP x)∧∀x∈z.ay,OU x:=by
 refine ⟨fun x hx=>?_,fun x hx=>?_⟩
 ·have h1:=h.tr x hx;have h2:=h.hor;unfold RP;omega
 ·have key:∀r,wX r→OU r:=fun r hr=>by
   have h1:=hr.mo;have h2:=hr.wk;have h3:=hr.wd;have h4:=hr.mi;have h5:=hr.of;unfold OU;omega
  rcases h.yr with e|⟨r0,r1,e,h0,h1⟩
  ·rw [e] at hx;cases hx
  ·rw [e] at hx;rcases List.mem_cons.1 hx with rfl|hx
   ·exact key _ h0
   ·rw [List.mem_singleton.1 hx];exact key _ h1
theorem nO.yl {z:Zn} (h:nO z):z.ay.length≤2:=by
 rcases h.yr with e|⟨r0,r1,e,_,_⟩<;>simp [e]
def WJ (M:Nat) (w:World) (rb eb eo:Nat) (t:TypeId) (cs:Array Value) (x:Ze) (R:List UInt8) (e:Ending) (w':World):Prop:=
 e= .returned (.tuple #[])∧∃s:Zs,gB M w' rb R∧bU w rb eb t (kJ cs eo (⟨x,s⟩:dm).cells.toList) w'∧ZnQo w.heap.size w' s x.z
theorem Io (M:Nat) (w:World) (rb eb eo:Nat) (t:TypeId) (cs:Array Value) (x:Ze) (R:List UInt8) (hf:nO x.z) (hs:x.name.size≤32) (hr:gB M w rb (VE x++R)) (hp:w.heap[eb]? =some (.cells cs t (0,0))) (hz:∀j,j<9→cs[eo+j]? =fM[j]?) (hM:M≤eb) (hne:eb≠rb):
  Calls Tryz.prog 43 #[.iface 109 (pt rb), .pointer (some ⟨eb,eo,none⟩)] w (WJ M w rb eb eo t cs x R):=by
 have hel:eb<w.heap.size:=(aZ.1 hp).1;have hrw:=hr.lt;have hz0:cs[eo]? =some (.string ⟨#[]⟩):=hz 0 (by decide);have hz8:eo+8<cs.size:=(aZ.1 ((hz 8 (by decide)).trans (rfl:fM[8]? =some (.slice none 0 0)))).1;have hr':gB M w.drew rb ((le x.name.size 1++x.name.data.toList)++(CQ x.z.cal++(le x.z.start 2++((le x.z.trans.length 2++x.z.trans.flatMap gu)++(le x.z.hor 8++((le x.z.ay.length 1++x.z.ay.flatMap iK)++R)))))):=by
  have h:=hr.drew;unfold VE znB at h;simpa only [List.append_assoc] using h
 have jf:=ae (xK M w.drew rb eb eo t cs ⟨#[]⟩ x.name _ hr' (by omega) hp hz0 hM hne);have HZ:Hid (∀j,1≤j→j<9→cs[eo+j]? =fM[j]?):=ae fun j _ hj=>hz j hj;have HF:=ae hf;have HSM:=ae hf.sm;have N9:=hf.start;have hho0:=hf.hor;have htl:=hf.MV;have hyl:=hf.yl;clear hf hs hr hr' hp hz hz0;unfold WJ;go_enter Tryz.func43,Tryz.ntmps43;go_wp2_with fail;go_still_tail 7,(by kernel_rfl);go_wp2_with fail;refine jf.out.mono ?_;rintro e w1 ⟨rfl,hr1,hp1⟩;obtain ⟨C1,G6⟩:∃C,cs.setIfInBounds eo (.string x.name)=C:=⟨_,rfl⟩;rw [G6] at hp1;have k1:∀j,1≤j→j<9→C1[eo+j]? =fM[j]? :=fun j h1 h2=>by rw [←G6,Array.getElem?_setIfInBounds_ne (by omega)];exact HZ.out j h1 h2
 have l1:C1.size=cs.size:=by rw [←G6,Array.size_setIfInBounds]
 have mY:=ae hp1.dB;have oG:=ae G6;have HC2:=ae (Bv M w1 rb eb (eo+1) t C1 x.z.cal _ HF.out.cal hr1 hp1.tgt (by omega) (k1 2 (by decide) (by decide)) (k1 3 (by decide) (by decide)) (k1 4 (by decide) (by decide)) hM hne);have iP:=ae k1;clear hr1 hp1 jf G6 k1;go_wp2_with fail;refine HC2.out.mono ?_;rintro e w2 ⟨rfl,A,a,B,b,hr2,hp2,ho2,hq2⟩;obtain ⟨C2,hC2⟩:∃C,kJ C1 (eo+1) [I x.z.cal.aN, .slice A x.z.cal.au.length a,I x.z.cal.bu, .slice B x.z.cal.rules.length b]=C:=⟨_,rfl⟩;rw [hC2] at hp2;have k2:∀j,5≤j→j<9→C2[eo+j]? =fM[j]? :=fun j h1 h2=>by
  rw [←hC2];unfold kJ kJ kJ kJ kJ;rw [Array.getElem?_setIfInBounds_ne (by omega),Array.getElem?_setIfInBounds_ne (by omega),Array.getElem?_setIfInBounds_ne (by omega),Array.getElem?_setIfInBounds_ne (by omega)];exact iP.out j (by omega) h2
 have l2:C2.size=cs.size:=by rw [←hC2,sH];exact l1
 have HP2:=ae (mY.out.trans hp2);have kW:=ae (aX ho2 mY.out.size);have HR2:=ae (aX hq2 mY.out.size);have lL:=ae hC2;have oD:=ae (mX M w2.drew rb eb (eo+1+4) t C2 x.z.start _ hr2.drew (by omega) (by omega) hp2.tgt (by omega) hM hne);have jc:=ae k2;clear hr2 hp2 ho2 hq2 HC2 hC2 k2;go_wp2_with fail;go_still_tail 7,(by kernel_rfl);go_wp2_with fail;refine oD.out.mono ?_;rintro e w3 ⟨rfl,hr3,hp3⟩;obtain ⟨C3,G7⟩:∃C,C2.setIfInBounds (eo+1+4) (I x.z.start)=C:=⟨_,rfl⟩;rw [G7] at hp3;have k3:∀j,6≤j→j<9→C3[eo+j]? =fM[j]? :=fun j h1 h2=>by rw [←G7,Array.getElem?_setIfInBounds_ne (by omega)];exact jc.out j (by omega) h2
 have l3:C3.size=cs.size:=by rw [←G7,Array.size_setIfInBounds];exact l2
 have hk3:∀b,w.heap.size≤b→b<w2.heap.size→w3.heap[b]? =w2.heap[b]? :=fun b h1 h2=>hp3.block b h2 (by omega) (by omega);have nK:=ae (aY kW.out hk3);have HR3:=ae (aY HR2.out hk3);have iV:=ae (HP2.out.trans hp3.dB);have zZ:=ae G7;have oM:=ae (Ir M w3 rb eb (eo+1+5) x.z.trans.length t C3 x.z.trans _ rfl (by omega) HSM.out.1 hr3 hp3.tgt (k3 6 (by decide) (by decide)) hM hne);have kU:=ae k3;clear hr3 hp3 oD G7 k3 hk3;go_wp2_with fail;refine oM.out.mono ?_;rintro e w4 ⟨rfl,C,c,hr4,iT,yx,_⟩;obtain ⟨C4,hC4⟩:∃D,C3.setIfInBounds (eo+1+5) (.slice C x.z.trans.length c)=D:=⟨_,rfl⟩;rw [hC4] at iT;have k4:∀j,7≤j→j<9→C4[eo+j]? =fM[j]? :=fun j h1 h2=>by rw [←hC4,Array.getElem?_setIfInBounds_ne (by omega)];exact kU.out j (by omega) h2
 have l4:C4.size=cs.size:=by rw [←hC4,Array.size_setIfInBounds];exact l3
 have hk4:∀b,w.heap.size≤b→b<w3.heap.size→w4.heap[b]? =w3.heap[b]? :=fun b h1 h2=>iT.block b h2 (by omega) (by omega);have uF:=ae (aY nK.out hk4);have HR4:=ae (aY HR3.out hk4);have HT4:=ae (aX yx iV.out.size);have qo:=ae (iV.out.trans iT);have S9:=ae hC4;have wW:=ae (dD M w4.drew rb eb (eo+1+6) 8 t C4 x.z.hor x.z.hor _ hr4.drew (by omega) (ML _ (by unfold fits;omega) _) iT.tgt (by omega) hM hne);have IX:=ae k4;clear hr4 iT yx oM hC4 k4 hk4;go_wp2_with fail;go_still_tail 7,(by kernel_rfl);go_wp2_with fail;refine wW.out.mono ?_;rintro e w5 ⟨rfl,oL,vW⟩;have hk5:∀b,w.heap.size≤b→b<w4.heap.size→w5.heap[b]? =w4.heap[b]? :=fun b h1 h2=>vW.block b h2 (by omega) (by omega);have qQ:=ae (aY uF.out hk5);have oN:=ae (aY HR4.out hk5);have Tf:=ae (aY HT4.out hk5);have Eo:=ae (qo.out.trans vW.dB);have qm:=ae (KE M w5 rb eb (eo+1+7) x.z.ay.length t _ x.z.ay R rfl (by omega) HSM.out.2 oL vW.tgt (by rw [Array.getElem?_setIfInBounds_ne (by omega)];exact IX.out 8 (by decide) (by decide)) hM hne);clear oL vW wW hk5;go_wp2_with fail;refine qm.out.mono ?_;rintro e w6 ⟨rfl,D,d,wY,hp6,ho6,_⟩;have hk6:∀b,w.heap.size≤b→b<w5.heap.size→w6.heap[b]? =w5.heap[b]? :=fun b h1 h2=>hp6.block b h2 (by omega) (by omega);have vF:=ae wY;have xk:=ae (show ZnQo w.heap.size w6 ⟨A,a,B,b,C,c,D,d⟩ x.z from ⟨aY qQ.out hk6,aY oN.out hk6,aY Tf.out hk6,aX ho6 Eo.out.size⟩);have Ep:=ae (Eo.out.trans hp6);clear wY hp6 ho6 hk6 qm;go_wp2_with fail
 go_end0
 refine ⟨rfl,⟨A,a,B,b,C,c,D,d⟩,vF.out,?_,xk.out⟩;have h:=Ep.out;rw [←S9.out,←zZ.out,←lL.out,←oG.out] at h;exact h
end Go.Proofs.YtdibbemgpikgjaaGreat
namespace Go.Proofs.YtdibbemgpikgjaaGreat
open Go Go.RowKit
theorem scan_skip (wd wk:Int) (n:Nat):∀(j:Nat) (d cn la:Int),(∀i:Nat,i<j→(d+i)%7≠wd)→gY wd wk (j+n) d cn la=gY wd wk n (d+j) cn la:=by
 intro j
 induction j with
 |zero=>intro d cn la _;rw [Nat.zero_add];congr 1;omega
 |succ j ih=>
  intro d cn la h;have h0:¬d%7=wd:=by have:=h 0 (by omega);simpa using this
  rw [show j+1+n=(j+n)+1 by omega];show (if d%7=wd then _ else gY wd wk (j+n) (d+1) cn la)=_;rw [if_neg h0,ih (d+1) cn la (fun i hi=>by have:=h (i+1) (by omega);rw [show d+1+(i:Int)=d+((i+1:Nat):Int) by omega];exact this)];congr 1;omega
theorem Bg (wd wk:Int) (n:Nat) (d cn la:Int) (h:∀i:Nat,i<n→(d+i)%7≠wd):gY wd wk n d cn la=(la,wk==5&&decide (0≤la)):=by
 have:=scan_skip wd wk 0 n d cn la h;rw [Nat.add_zero] at this;rw [this];rfl
theorem Ie (wd wk:Int) (n:Nat) (d cn la:Int) (h:d%7=wd):gY wd wk (n+1) d cn la=if cn+1=wk∧wk<5 then (d,true) else gY wd wk n (d+1) (cn+1) d:=by
 show (if d%7=wd then _ else _)=_;rw [if_pos h]
def EJ (wd wk first m:Int):Int×Bool:=
 if wk=5 then (first+m - 1 - (first+m - 1 - wd)%7,decide (first≤first+m - 1 - (first+m - 1 - wd)%7))
 else (first+(wd - first)%7+7*(wk - 1),decide (first+(wd - first)%7+7*(wk - 1)<first+m))
def Tz (c:Cal) (bg y:Int) (r:Yr):Int×Bool:=EJ r.cZ r.bZ (nZ c bg y r.month) (dw c y r.month)
theorem Qo (wd wk d:Int) (m:Nat) (hm:m≤9) (h1:0≤wd∧wd≤6) (h2:1≤wk∧wk≤5) (hd:0≤d):
  (EJ wd wk d m).2=(gY wd wk m d 0 (-1)).2∧((gY wd wk m d 0 (-1)).2=true→(EJ wd wk d m).1=(gY wd wk m d 0 (-1)).1):=by
 obtain ⟨j,hj⟩:∃j:Nat,(wd - d)%7=j:=⟨((wd - d)%7).toNat,by omega⟩;have hj7:j<7:=by omega
 have hjd:(d+j)%7=wd:=by omega
 have hjn:∀i:Nat,i<j→(d+i)%7≠wd:=fun i hi=>by omega
 by_cases hmj:m≤j
 ·rw [Bg wd wk m d 0 (-1) (fun i hi=>hjn i (by omega))];have e:(wk==5&&decide ((0:Int)≤ -1))=false:=by simp
  rw [e];refine ⟨?_,fun h=>by cases h⟩;unfold EJ;split
  ·exact decide_eq_false (by omega)
  ·exact decide_eq_false (by rw [hj];omega)
 ·obtain ⟨n,hn⟩:∃n,m=j+(n+1):=⟨m - j - 1,by omega⟩;rw [show gY wd wk m d 0 (-1)=gY wd wk (n+1) (d+j) 0 (-1) by rw [hn];exact scan_skip wd wk (n+1) j d 0 (-1) hjn,Ie wd wk n (d+j) 0 (-1) hjd];by_cases hw1:(0:Int)+1=wk∧wk<5
  ·rw [if_pos hw1];unfold EJ;rw [if_neg (by omega),hj];exact ⟨decide_eq_true (by omega),fun _=>by show d+(j:Int)+7*(wk - 1)=d+j;omega⟩
  ·rw [if_neg hw1];by_cases h6:n≤6
   ·rw [Bg wd wk n (d+j+1) (0+1) (d+j) (fun i hi=>by omega)];unfold EJ;split
    ·rename_i h5;subst h5;have e:(((5:Int)==5)&&decide (0≤d+(j:Int)))=true:=by simp;omega
     rw [e];exact ⟨decide_eq_true (by omega),fun _=>by show d+(m:Int) - 1 - (d+m - 1 - wd)%7=d+j;omega⟩
    ·rename_i h5;have e:(wk==5&&decide (0≤d+(j:Int)))=false:=by simp [h5]
     rw [e];exact ⟨decide_eq_false (by rw [hj];omega),fun h=>by cases h⟩
   ·obtain ⟨q,hq⟩:∃q,n=6+(q+1):=⟨n - 7,by omega⟩;rw [show gY wd wk n (d+j+1) (0+1) (d+j)=gY wd wk (q+1) (d+j+1+(6:Nat)) (0+1) (d+j) by rw [hq];exact scan_skip wd wk (q+1) 6 (d+j+1) (0+1) (d+j) (fun i hi=>by omega),Ie wd wk q _ (0+1) (d+j) (by omega)];by_cases hw2:(0:Int)+1+1=wk∧wk<5
    ·rw [if_pos hw2];unfold EJ;rw [if_neg (by omega),hj];exact ⟨decide_eq_true (by omega),fun _=>by show d+(j:Int)+7*(wk - 1)=d+j+1+(6:Nat);omega⟩
    ·rw [if_neg hw2];rw [Bg wd wk q _ _ _ (fun i hi=>by omega)];unfold EJ;split
     ·rename_i h5;subst h5;have e:(((5:Int)==5)&&decide (0≤d+(j:Int)+1+(6:Nat)))=true:=by simp;omega
      rw [e];exact ⟨decide_eq_true (by omega),fun _=>by show d+(m:Int) - 1 - (d+m - 1 - wd)%7=d+j+1+(6:Nat);omega⟩
     ·rename_i h5;have e:(wk==5&&decide (0≤d+(j:Int)+1+(6:Nat)))=false:=by simp [h5]
      rw [e];exact ⟨decide_eq_false (by rw [hj];omega),fun h=>by cases h⟩
theorem FD (c:Cal) (bg y:Int) (r:Yr) (hc:gG c) (hr:wX r) (hb:0≤bg):(Tz c bg y r).2=(findF c bg y r).2∧((findF c bg y r).2=true→(Tz c bg y r).1=(findF c bg y r).1):=by
 have hm:=jV c y r.month hc hr.mo;have h1:=jV c y 1 hc (.inl rfl);have hf:0≤nZ c bg y r.month:=by
  unfold nZ;split<;>omega
 have h:=Qo r.cZ r.bZ (nZ c bg y r.month) (dw c y r.month).toNat (by omega) hr.wd hr.wk hf;rw [show (((dw c y r.month).toNat:Nat):Int)=dw c y r.month by omega] at h;exact h
theorem Ob (ts:List Tr) (t:Tr):(uk ts t).Perm (ts++ [t]):=by
 unfold uk;refine (List.perm_middle).trans ?_;rw [List.take_append_drop];exact (List.perm_append_comm (l₁:= [t]) (l₂:=ts))
theorem JU {ts us:List Tr} (t:Tr) (h:ts.Perm us):(uk ts t).Perm (us++ [t]):=(Ob ts t).trans (List.Perm.append_right [t] h)
def uw (c:Cal) (bg y:Int) (r r':Yr) (out:List Tr):List Tr:=if (Tz c bg y r).2=true then out++ [⟨(Tz c bg y r).1*1440+r.minute - r'.off,r.off⟩] else out
def uy (c:Cal) (r0 r1:Yr) (stop:Int):Nat→Int→Int→List Tr→List Tr
 |0,_,_,out=>out
 |n+1,bg,y,out=>if bg<stop then uy c r0 r1 stop n (bg+dK c y) (y+1) (uw c bg y r1 r0 (uw c bg y r0 r1 out)) else out
theorem D6 {c:Cal} {bg y:Int} {r r':Yr} {ts us:List Tr} (hc:gG c) (hr:wX r) (hb:0≤bg) (h:ts.Perm us):(Ee c bg y r r' ts).Perm (uw c bg y r r' us):=by
 obtain ⟨h1,h2⟩:=FD c bg y r hc hr hb;unfold Ee uw;rw [h1];by_cases hf:(findF c bg y r).2=true
 ·rw [if_pos hf,if_pos hf,h2 hf];exact JU _ h
 ·rw [if_neg hf,if_neg hf];exact h
theorem Oo {c:Cal} {r0 r1:Yr} {stop:Int} (hc:gG c) (hr0:wX r0) (hr1:wX r1):∀(f:Nat) (bg y:Int) (ts us:List Tr),0≤bg→ts.Perm us→(lC c r0 r1 stop f bg y ts).Perm (uy c r0 r1 stop f bg y us):=by
 intro f
 induction f with
 |zero=>intro bg y ts us _ h;exact h
 |succ f ih=>
  intro bg y ts us hb h;unfold lC uy;split
  ·have:=jF c y hc;exact ih _ _ _ _ (by omega) (D6 hc hr1 hb (D6 hc hr0 hb h))
  ·exact h
def Vf (z:Zn) (r0 r1:Yr):List Tr:=uy z.cal r0 r1 (z.cal.aN+dL z) 1400 z.cal.aN 1 []
theorem Rn {z:Zn} {r0 r1:Yr} (hc:gG z.cal) (hy:z.ay= [r0,r1]) (hr0:wX r0) (hr1:wX r1):(dP z).Perm (Vf z r0 r1):=by
 unfold dP Vf;rw [hy];exact Oo hc hr0 hr1 _ _ _ _ _ hc.ep.1 (List.Perm.refl _)
theorem vT {ts:List Tr} {size:Int} (h:iE ts size=true) (i:Nat) (hi:i<ts.length):2160≤mJ ts size i:=by
 unfold iE at h;rw [List.all_eq_true] at h;exact of_decide_eq_true (h i (List.mem_range.2 hi))
theorem UH {ts:List Tr} {size:Int} (h:iE ts size=true):∀(k i:Nat),i+k+1<ts.length→df ts i<df ts (i+k+1):=by
 intro k
 induction k with
 |zero=>
  intro i hi;have:=vT h i (by omega);unfold mJ at this;rw [if_pos (by omega)] at this;rw [Nat.add_zero];omega
 |succ k ih=>
  intro i hi;have h1:=ih i (by omega);have h2:=vT h (i+k+1) (by omega);unfold mJ at h2;rw [if_pos (by omega)] at h2;rw [show i+(k+1)+1=i+k+1+1 by omega];omega
theorem qx {ts:List Tr} {i:Nat} (hi:i<ts.length):df ts i=ts[i].at_:=by
 unfold df;rw [dE hi];rfl
theorem N7 {ts:List Tr} {size:Int} (h:iE ts size=true):ts.Pairwise (fun a b=>a.at_<b.at_):=by
 rw [List.pairwise_iff_getElem];intro i j hi hj hij;have:=UH h (j - i - 1) i (by omega);rw [show i+(j - i - 1)+1=j by omega,qx hi,qx hj] at this;exact this
theorem Ou {ts us:List Tr} {size:Int} (h:iE ts size=true) (hp:us.Perm ts) (hs:us.Pairwise (fun a b=>a.at_≤b.at_)):us=ts:=by
 have hw:=N7 h;refine List.Perm.eq_of_pairwise (le:=fun a b=>a.at_≤b.at_) ?_ hs (hw.imp (fun h=>by omega)) hp;intro a b ha hb h1 h2;obtain ⟨i,hi,rfl⟩:=List.mem_iff_getElem.1 (hp.mem_iff.1 ha);obtain ⟨j,hj,rfl⟩:=List.mem_iff_getElem.1 hb;rw [List.pairwise_iff_getElem] at hw;rcases Nat.lt_trichotomy i j with h3|h3|h3
 ·have:=hw i j hi hj h3;omega
 ·subst h3;rfl
 ·have:=hw j i hj hi h3;omega
section
open Go.Shelf
def Kq:Go.Shelf.Ren:=⟨fun|6=>78|15=>104|14=>103|28=>125|29=>126|20=>117|21=>118|22=>119|23=>120|24=>121|25=>122|26=>123|27=>124|46=>132|47=>133|48=>134|49=>135|50=>136|57=>139|n=>n,fun|22=>48|24=>100|25=>172|3=>3|39=>206|0=>0|53=>189|55=>175|4=>4|46=>216|45=>215|50=>103|5=>5|9=>9|66=>225|70=>115|76=>233|77=>201|n=>n,fun|n=>n⟩
theorem RF:SlLaysF0.n6 Tryz.prog Kq:= {
 mixed:=by kernel_rfl
 f6:=⟨Tryz.f78.name,by decide,Tryz.func78.trans (congrArg some (by kernel_rfl))⟩
 f14:=⟨Tryz.f103.name,by decide,Tryz.func103.trans (congrArg some (by kernel_rfl))⟩
 f15:=Tryz.func104.trans (congrArg some (by kernel_rfl))
 f20:=⟨Tryz.f117.name,by decide,Tryz.func117.trans (congrArg some (by kernel_rfl))⟩
 f21:=⟨Tryz.f118.name,by decide,Tryz.func118.trans (congrArg some (by kernel_rfl))⟩
 f22:=⟨Tryz.f119.name,by decide,Tryz.func119.trans (congrArg some (by kernel_rfl))⟩
 f23:=⟨Tryz.f120.name,by decide,Tryz.func120.trans (congrArg some (by kernel_rfl))⟩
 f24:=⟨Tryz.f121.name,by decide,Tryz.func121.trans (congrArg some (by kernel_rfl))⟩
 f25:=⟨Tryz.f122.name,by decide,Tryz.func122.trans (congrArg some (by kernel_rfl))⟩
 f26:=⟨Tryz.f123.name,by decide,Tryz.func123.trans (congrArg some (by kernel_rfl))⟩
 f27:=⟨Tryz.f124.name,by decide,Tryz.func124.trans (congrArg some (by kernel_rfl))⟩
 f28:=Tryz.func125.trans (congrArg some (by kernel_rfl))
 f29:=Tryz.func126.trans (congrArg some (by kernel_rfl))
 f46:=⟨Tryz.f132.name,by decide,Tryz.func132.trans (congrArg some (by kernel_rfl))⟩
 f47:=Tryz.func133.trans (congrArg some (by kernel_rfl))
 f48:=Tryz.func134.trans (congrArg some (by kernel_rfl))
 f49:=⟨Tryz.f135.name,by decide,Tryz.func135.trans (congrArg some (by kernel_rfl))⟩
 f50:=⟨Tryz.f136.name,by decide,Tryz.func136.trans (congrArg some (by kernel_rfl))⟩
 f57:=⟨Tryz.f139.name,by decide,Tryz.func139.trans (congrArg some (by kernel_rfl))⟩
 t0:=Tryz.underlying0
 a0:=Tryz.isAgg0
 z0:=Tryz.sizeOf0
 v0:=Tryz.zeroValue0
 t3:=Tryz.underlying3
 a3:=Tryz.isAgg3
 z3:=Tryz.sizeOf3
 v3:=Tryz.zeroValue3
 t4:=Tryz.underlying4
 a4:=Tryz.isAgg4
 z4:=Tryz.sizeOf4
 v4:=Tryz.zeroValue4
 t5:=Tryz.underlying5
 a5:=Tryz.isAgg5
 z5:=Tryz.sizeOf5
 v5:=Tryz.zeroValue5
 t9:=Tryz.underlying9
 a9:=Tryz.isAgg9
 z9:=Tryz.sizeOf9
 v9:=Tryz.zeroValue9
 t22:=Tryz.underlying48
 a22:=Tryz.isAgg48
 z22:=Tryz.sizeOf48
 v22:=Tryz.zeroValue48
 t25:=Tryz.underlying172
 a25:=Tryz.isAgg172
 z25:=Tryz.sizeOf172
 v25:=Tryz.zeroValue172
 t39:=Tryz.underlying206
 a39:=Tryz.isAgg206
 z39:=Tryz.sizeOf206
 v39:=Tryz.zeroValue206
 t45:=Tryz.underlying215
 a45:=Tryz.isAgg215
 z45:=Tryz.sizeOf215
 v45:=Tryz.zeroValue215
 t46:=Tryz.underlying216
 a46:=Tryz.isAgg216
 z46:=Tryz.sizeOf216
 v46:=Tryz.zeroValue216
 t50:=Tryz.underlying103
 a50:=Tryz.isAgg103
 z50:=Tryz.sizeOf103
 v50:=Tryz.zeroValue103
 t53:=Tryz.underlying189
 a53:=Tryz.isAgg189
 z53:=Tryz.sizeOf189
 v53:=Tryz.zeroValue189
 t55:=Tryz.underlying175
 a55:=Tryz.isAgg175
 z55:=Tryz.sizeOf175
 v55:=Tryz.zeroValue175
 t66:=Tryz.underlying225
 a66:=Tryz.isAgg225
 z66:=Tryz.sizeOf225
 v66:=Tryz.zeroValue225
 t70:=Tryz.underlying115
 a70:=Tryz.isAgg115
 z70:=Tryz.sizeOf115
 v70:=Tryz.zeroValue115
 t76:=Tryz.underlying233
 a76:=Tryz.isAgg233
 z76:=Tryz.sizeOf233
 v76:=Tryz.zeroValue233
 t77:=Tryz.underlying201
 a77:=Tryz.isAgg201
 z77:=Tryz.sizeOf201
 v77:=Tryz.zeroValue201}
def JA:Go.Shelf.Ren:=⟨fun|5=>80|7=>105|n=>n,fun|22=>3|3=>3|4=>4|n=>n,fun|n=>n⟩
theorem cmpInt:SlLaysC2.n5 Tryz.prog JA:= {
 mixed:=by kernel_rfl
 f5:=⟨Tryz.f80.name,by decide,Tryz.func80.trans (congrArg some (by kernel_rfl))⟩
 f7:=⟨Tryz.f105.name,by decide,Tryz.func105.trans (congrArg some (by kernel_rfl))⟩
 t3:=Tryz.underlying3
 a3:=Tryz.isAgg3
 z3:=Tryz.sizeOf3
 v3:=Tryz.zeroValue3
 t4:=Tryz.underlying4
 a4:=Tryz.isAgg4
 z4:=Tryz.sizeOf4
 v4:=Tryz.zeroValue4
 t22:=Tryz.underlying3
 a22:=Tryz.isAgg3
 z22:=Tryz.sizeOf3
 v22:=Tryz.zeroValue3}
end
instance:Inhabited Tr:=⟨⟨0,0⟩⟩
def DK (x y:Tr):Int:=Lib.compareInt x.at_ y.at_
theorem U5 (x y:Tr):Go.Proofs.ltOf DK x y=decide (x.at_<y.at_):=by
 unfold Go.Proofs.ltOf DK Lib.compareInt;by_cases h1:x.at_<y.at_
 ·simp [h1]
 ·by_cases h2:y.at_<x.at_<;>simp [h1,h2]
theorem swoTr:Go.Sort.SWO (Go.Proofs.ltOf DK) where
 irrefl x:=by rw [U5];simp
 trans x y z h1 h2:=by rw [U5] at*;simp at*;omega
 ntrans x y z h1 h2:=by rw [U5] at*;simp at*;omega
theorem Vs (x y:Tr) (W:World):Calls Tryz.prog 79 #[.agg #[I x.at_,I x.off], .agg #[I y.at_,I y.off]] W fun e w'=>e= .returned (I (DK x y))∧∃q os',w'=Go.Sort.grow (W.drewN q) os':=by
 have hcon:=fun W'=>Go.Proofs.AnyG.cmp_Compare_int cmpInt x.at_ y.at_ W';change∀W',Calls Tryz.prog 80 _ _ _ at hcon;have HC:=ae hcon;clear hcon;unfold DK;generalize Lib.compareInt x.at_ y.at_=r at HC ⊢;go_enter Tryz.func79,Tryz.ntmps79;go_wp2_with fail;refine (HC.out _).mono ?_;rintro e w1 ⟨rfl,rfl⟩;go_wp2_with fail;go_ret;exact ⟨rfl,0,_,by rw [Go.Sort.alloc_eq_grow,Go.Sort.alloc_eq_grow,Go.Sort.grow_grow];rfl⟩
theorem Ot {w:World} {g m:Nat} {d:Array Tr} {os:Array Obj} {cur:Array Value} {t:TypeId} (h:w.heap[g]? =some (.cells cur t (0,0))):
  (Go.Proofs.sortWorldK Tr.cells 2 w g 0 m d os).heap[g]? =some (.cells (Go.Sort.putCells id 0 (Go.Sort.flatK Tr.cells 2 d) cur) t (0,0)):=by
 have hg:=(aZ.1 h).1;unfold Go.Proofs.sortWorldK Go.Sort.grow Go.Sort.putRowK Go.Sort.putRow Go.Sort.mapBlock Go.Sort.ahead;simp only;rw [Array.getElem?_append_left (by simpa using hg),Array.getElem?_modify,if_pos rfl,h];rfl
theorem Kr {w:World} {g m:Nat} {d:Array Tr} {os:Array Obj}:w.grownBy (Go.Proofs.sortWorldK Tr.cells 2 w g 0 m d os) (some g):=by
 refine ⟨rfl,rfl,rfl,?_,fun k hk hn=>?_⟩
 ·unfold Go.Proofs.sortWorldK Go.Sort.grow Go.Sort.putRowK Go.Sort.putRow Go.Sort.mapBlock Go.Sort.ahead;simp
 ·have hne:g≠k:=fun e=>hn (by rw [e]);unfold Go.Proofs.sortWorldK Go.Sort.grow Go.Sort.putRowK Go.Sort.putRow Go.Sort.mapBlock Go.Sort.ahead;simp only;rw [Array.getElem?_append_left (by simpa using hk),Array.getElem?_modify,if_neg hne]
theorem DL (d:Array Tr) (j:Nat) (hj:j<d.size*2):(Go.Sort.flatK Tr.cells 2 d)[j]? =(d.toList.flatMap Tr.cells)[j]? :=by
 have hq:j / 2<d.size:=by omega
 have hx:d.toList[j / 2]? =some d[j / 2]! :=by
  rw [Array.getElem?_toList,Array.getElem?_eq_getElem hq,getElem!_pos d (j / 2) hq]
 have h1:=flat_get (s:=2) Tr.cells d.toList (fun _ _=>rfl) (j / 2) (j%2) d[j / 2]! hx (by omega);rw [show j / 2*2+j%2=j by omega] at h1;rw [h1];unfold Go.Sort.flatK;rw [Array.getElem?_map,Array.getElem?_range,if_pos hj];have h2:j%2=0∨j%2=1:=by omega
 rcases h2 with h2|h2<;>rw [Option.map_some,h2]<;>rfl
theorem RG {lo g n c m:Nat} {w:World} {ts:List Tr} {d:Array Tr} {os:Array Obj} (h:iR lo w (some ⟨g,0,none⟩) n c ts) (hd:d.size=n):
  iR lo (Go.Proofs.sortWorldK Tr.cells 2 w g 0 m d os) (some ⟨g,0,none⟩) n c d.toList:=by
 obtain ⟨h0,⟨hv,hn⟩|⟨g',cap,cur,hv,hg,hh,hc,hm,hs,ht⟩⟩:=h
 ·cases hv
 ·injection hv with h1 h2 h3;injection h1 with h1;injection h1 with h1;subst h1 h3;have hfl:(d.toList.flatMap Tr.cells).length=n*2:=by rw [dJ (s:=2) Tr.cells _ (fun _ _=>rfl),Array.length_toList,hd]
  refine ⟨hfl, .inr ⟨g,c,_,rfl,hg,Ot hh,hc,hm,by rw [←hs];simp [Go.Sort.putCells],?_⟩⟩;apply List.ext_getElem?;intro j;rw [List.getElem?_take];by_cases hj:j<n*2
  ·rw [if_pos hj,Array.getElem?_toList,←DL d j (by rw [hd];exact hj)];have hfs:(Go.Sort.flatK Tr.cells 2 d).size=n*2:=by simp [Go.Sort.flatK,hd]
   have hcs:j<cur.size:=by rw [hs];exact dR hj (Nat.mul_le_mul_right 2 hc)
   unfold Go.Sort.putCells;rw [Array.getElem?_mapIdx,Array.getElem?_eq_getElem hcs,Option.map_some,if_pos ⟨Nat.zero_le _,by rw [hfs];omega⟩,Nat.sub_zero,Array.getElem?_eq_getElem (by rw [hfs];exact hj),getElem!_pos _ j (by rw [hfs];exact hj)];rfl
  ·rw [if_neg hj,List.getElem?_eq_none (by rw [hfl];omega)]
theorem Ko {lo g n c:Nat} {w:World} {ts:List Tr} (h:iR lo w (some ⟨g,0,none⟩) n c ts) (hl:ts.length=n) (hn:n≤1000):
  Calls Tryz.prog 78 #[.slice (some ⟨g,0,none⟩) n c, .func (.func 79) #[] #[]] w fun e w'=>
   e= .returned (.tuple #[])∧∃us:List Tr,us.Perm ts∧us.Pairwise (fun a b=>a.at_≤b.at_)∧iR lo w' (some ⟨g,0,none⟩) n c us∧w.grownBy w' (some g):=by
 have hH:Go.Sort.HoldsK Tr.cells 2 w g 0 ts.toArray:=by
  intro j hj;have hj2:j<n*2:=by
   have:(Go.Sort.flatK Tr.cells 2 ts.toArray).size=n*2:=by simp [Go.Sort.flatK,hl]
   omega
  have h3:=DL ts.toArray j (by simpa [hl] using hj2);rw [getElem!_pos _ j hj];rw [Array.getElem?_eq_getElem hj] at h3;rw [Nat.zero_add];exact ⟨jW h j _ h3.symm,wF h j⟩
 have hg:=gq h;have eg:∀args w,(callFunc 79 args).run Tryz.prog w= .ok (.enter 79 args) w:=enters_of Tryz.func79 (by kernel_rfl) rfl;have hcon:=Go.Proofs.AnyQ.slices_SortFunc RF 2 Tryz.isAgg100 Tryz.sizeOf100 Tr.cells (fun _=>rfl) (fun x v hv=>by simp [Tr.cells] at hv;rcases hv with rfl|rfl<;>rfl) DK swoTr 79 #[] g 0 c ts.toArray w eg (fun _ _ _ _ x y=>Vs x y _) hH hg.2 (by simp [hl];omega);rw [show ts.toArray.size=n by simpa using hl] at hcon;refine hcon.mono ?_;rintro e w' ⟨rfl,d',m,os,hp,hs,rfl⟩;obtain ⟨hsz,_,hpm⟩:=hp;have hdn:d'.size=n:=by rw [hsz];simpa using hl
 have e1:d'.extract 0 n=d':=by rw [←hdn];exact Array.extract_size
 have e2:ts.toArray.extract 0 n=ts.toArray:=by
  have:ts.toArray.size=n:=by simpa using hl
  rw [←this];exact Array.extract_size
 rw [e1,e2] at hpm;refine ⟨rfl,d'.toList,hpm,?_,RG h hdn,Kr⟩;rw [List.pairwise_iff_getElem];intro i j hi hj hij;have hi':i<d'.size:=by simpa using hi
 have hj':j<d'.size:=by simpa using hj
 have h4:=hs i j (Nat.zero_le _) hij (by omega);rw [U5,getElem!_pos d' i hi',getElem!_pos d' j hj'] at h4;have h5:=of_decide_eq_false h4;simp only [Array.getElem_toList];omega
theorem UE (a b:Int) (hb:0<b):(a.tmod b<0→a%b=a.tmod b+b)∧(¬a.tmod b<0→a%b=a.tmod b):=by
 have h0:=Int.emod_nonneg a (show b≠0 by omega);have h1:=Int.emod_lt_of_pos a hb;have hn:((b.natAbs:Nat):Int)=b:=Int.natAbs_of_nonneg (by omega);by_cases hc:0≤a∨b∣a
 ·have e:=Int.tmod_eq_emod (a:=a) (b:=b);rw [if_pos hc] at e;constructor<;>intro h<;>omega
 ·have e:=Int.tmod_eq_emod (a:=a) (b:=b);rw [if_neg hc,hn] at e;constructor<;>intro h<;>omega
theorem JZ (a b:Int) (w:World) (hb:0<b) (hb2:b≤1000000000):
  Calls Tryz.prog 138 #[I a,I b] w fun e w'=>e= .returned (I (a%b))∧w'=w:=by
 have h0:=Int.emod_nonneg a (show b≠0 by omega);have h1:=Int.emod_lt_of_pos a hb;have hb0:b≠0:=by omega
 have hb1:b≠ -1:=by omega
 obtain ⟨e1,e2⟩:=UE a b hb;obtain ⟨q,hq⟩:∃q,a.tmod b=q:=⟨_,rfl⟩;obtain ⟨p,hp⟩:∃p,a%b=p:=⟨_,rfl⟩;rw [hq] at e1 e2;rw [hp] at e1 e2 h0 h1 ⊢;by_cases hs:q<0
 ·have e3:=e1 hs;have hw:IntKind.i64.wrap (q+b)=q+b:=by rw [IntKind.wrap_i64];omega
  subst e3;clear e1 e2 hp;go_enter Tryz.func138,Tryz.ntmps138
  go_wp2
  go_ret;exact ⟨rfl,rfl⟩
 ·have e3:=e2 hs;subst e3;clear e1 e2 hp;go_enter Tryz.func138,Tryz.ntmps138
  go_wp2
  go_ret;exact ⟨rfl,rfl⟩
theorem JY (a b:Int) (w:World) (hb:0<b) (hb2:b≤1000000000):
  Calls Tryz.prog 131 #[I a,I b] w fun e w'=>e= .returned (.tuple #[I (a%b),I 0])∧w'=w:=by
 have hb1:¬b<1:=by omega
 have HM:=ae (JZ a b w hb hb2);go_enter Tryz.func131,Tryz.ntmps131;go_wp2_with fail;refine HM.out.mono ?_;rintro e w1 ⟨rfl,rfl⟩;go_wp2_with fail;go_ret2;exact ⟨rfl,rfl⟩
theorem Ar (a b:Int) (w:World) (hb:0<b) (hb2:b≤1000000000):
  Calls Tryz.prog 116 #[I a,I b] w fun e w'=>e= .returned (I (a%b))∧w'=w:=by
 have HM:=ae (JY a b w hb hb2);go_enter Tryz.func116,Tryz.ntmps116;go_wp2_with fail;refine HM.out.mono ?_;rintro e w1 ⟨rfl,rfl⟩;go_wp2_with fail;go_ret;exact ⟨rfl,rfl⟩
theorem pF (a:Int) (w:World):
  Calls Tryz.prog 101 #[I a] w fun e w'=>e= .returned (I (a%7))∧w'=w:=by
 have HM:=ae (Ar a 7 w (by omega) (by omega));go_enter Tryz.func101,Tryz.ntmps101;go_wp2_with fail;refine HM.out.mono ?_;rintro e w1 ⟨rfl,rfl⟩;go_wp2_with fail;go_ret;exact ⟨rfl,rfl⟩
theorem lcm12:Nat.lcm 1 2=2:=by decide
theorem Hw (c:Cal) (R:Option Addr) (r n:Nat) (w:World) (hc:gG c) (h:aB w w.heap.size R (c.rules.flatMap Lr.cells)) (hn:c.rules.length=n):Calls Tryz.prog 74 #[.slice R n r] w (Gives (.tuple #[I (qE c), .bool true]) w):=by
 obtain ⟨ep,m0,m1,lp,rs,rfl,b1,b2,b3,b4,hrs⟩:=hc.form;rcases hrs with rfl|⟨q,yy,rfl,q1,q2,_⟩
 ·have hn0:n=0:=hn.symm;subst hn0;clear hc h hn;go_enter Tryz.func74,Tryz.ntmps74;go_wp2_with fail
  go_rounds 1
  go_ret2;exact ⟨rfl,Below.refl _ _⟩
 ·have hn1:n=1:=hn.symm;subst hn1;obtain ⟨b,off,rfl,hb,hcl⟩:=h.there (by show 0<3;omega);have f0:w.cell? ⟨b,off,none⟩=some (I 2):=hcl 0 _ rfl;have f1:w.cell? ⟨b,off+1,none⟩=some (I q):=hcl 1 _ rfl;have f2:w.cell? ⟨b,off+2,none⟩=some (.bool yy):=hcl 2 _ rfl;have hne:¬b=w.heap.size:=by omega
  have i3:¬q<0:=by omega
  have i4:¬(2:Int)≤q:=by omega
  have HB2:=ae (ag w (.cells #[I 2,I q, .bool yy] 134));have HL:=ae (fun W=>Md 1 2 (by omega) (by omega) (by omega) (by omega) W);rw [lcm12] at HL;clear hc h hn hcl q1 q2 b1 b2 b3 b4;go_enter Tryz.func74,Tryz.ntmps74;go_wp2_with fail;refine wp_loop_rounds 2 ?_;rw [rounds_succ];go_wp2_with fail;refine (HL.out _).mono ?_;rintro e w5 ⟨rfl,hb5⟩;have kT:=ae (ah HB2.out hb5);clear hb5 HB2 HL f0 f1 f2;go_wp2_with fail;rw [rounds_succ];go_wp2_with fail;go_ret2;exact ⟨rfl,kT.out⟩
theorem nP (c:Cal) (A R:Option Addr) (a r:Nat) (w:World) (hc:gG c) (h:nN w w.heap.size A R c):Calls Tryz.prog 53 #[.agg (aF c A a R r)] w (Gives (.bool true) w):=by
 obtain ⟨n,hn⟩:∃n,c.rules.length=n:=⟨_,rfl⟩;have Gh:=ae (fun (W:World) (hb:Below w.heap.size w W)=>Hw c R r n W hc ((h.rules.keep hb).more hb.size) hn);have hnl:=hc.nl;have hru:=hc.ru;obtain ⟨ep,m0,m1,lp,rs,rfl,b1,b2,b3,b4,hrs⟩:=hc.form;simp only at hn hnl hru;rw [hn] at hnl hru;obtain ⟨b,off,rfl,hb,hcl⟩:=h.au.there (by show 0<2;omega);have f0:w.cell? ⟨b,off,none⟩=some (I m0):=hcl 0 _ rfl;have f1:w.cell? ⟨b,off+1,none⟩=some (I m1):=hcl 1 _ rfl;have hne:¬b=w.heap.size:=by omega
 have HV:=ae (jS.start w #[I ep, .slice (some ⟨b,off,none⟩) 2 a,I lp, .slice R n r] 47);have e0:(aF ⟨ep,[m0,m1],lp,rs⟩ (some ⟨b,off,none⟩) a R r)= #[I ep, .slice (some ⟨b,off,none⟩) 2 a,I lp, .slice R n r]:=by rw [←hn];rfl
 rw [e0];have q1:¬ep<0:=by omega
 have q2:¬(1048576:Int)<ep:=by omega
 have q3:¬lp< -1:=by omega
 have q4:¬(2:Int)≤lp:=by omega
 have q5:¬(16:Int)<(n:Int):=by omega
 have q6:¬m0<1:=by omega
 have q7:¬(40:Int)<m0:=by omega
 have q8:¬m1<1:=by omega
 have q9:¬(40:Int)<m1:=by omega
 have hsp:lp= -1∧n=0∨¬lp= -1:=by omega
 clear hc h hcl hn hrs e0;rcases hsp with ⟨rfl,rfl⟩|hlp
 all_goals
  go_enter Tryz.func53,Tryz.ntmps53;go_wp2_with fail;refine wp_loop_rounds 3 ?_;rw [rounds_succ];go_wp2_with fail;rw [rounds_succ];go_wp2_with fail;rw [rounds_succ];go_wp2_with fail;refine (Gh.out _ HV.out.up).mono ?_;rintro e w1 ⟨rfl,hb1⟩;have HW:=ae (HV.out.grow hb1);clear hb1 HV Gh;go_wp2_with fail;go_ret;exact ⟨rfl,HW.out.up⟩
def ElR (ts:List Lr):Type:= {x:Nat×Lr // ts[x.1]? =some x.2}
def Qp (ts:List Lr) (m:Nat):List (ElR ts):=if h:m<ts.length then [⟨(m,ts[m]),dE h⟩] else []
def NQ (ts:List Lr):Nat→List (ElR ts)
 |0=> []
 |k+1=>NQ ts k++Qp ts (ts.length - 1 - k)
theorem GG (ts:List Lr) (k m:Nat) (x:Lr) (hx:ts[m]? =some x) (hm:m=ts.length - 1 - k):NQ ts (k+1)=NQ ts k++ [⟨(m,x),hx⟩]:=by
 subst hm;obtain ⟨h1,h2⟩:=iU.1 hx;subst h2;show NQ ts k++Qp ts (ts.length - 1 - k)=_;unfold Qp;rw [dif_pos h1]
theorem Jw (ts:List Lr) (k:Nat) (hk:k≤ts.length):(NQ ts k).length=k:=by
 induction k with
 |zero=>rfl
 |succ k ih=>
  show (NQ ts k++Qp ts (ts.length - 1 - k)).length=k+1;unfold Qp;rw [bJ,ih (by omega),dif_pos (by omega)];rfl
def P6 (w:World) (b off:Nat) (ts:List Lr):Prop:=∀j x,ts[j]? =some x→w.rangeAt b (off+j*3) x.cells∧x.cells.length=3
theorem NL (F:Fence) (n:Nat) (h7:F.fn 140) (hro:F.round=none) (hn:1≤n) (l Bs n₀ b off cap:Nat) (bs:List Lr) (hreach:bs.length≤100000) (hb:b<n₀) (J Jx:List (ElR bs)→World→Prop)
  (hY:∀pre x W,J pre W→pre.length<bs.length→YieldAt F (n - 1) Tryz.prog l #[.int .i64 (x.1.1:Int), .agg x.1.2.cells.toArray] W fun e W'=>
   (e= .returned (.bool true)∧J (pre++ [x]) W'∧BK n₀ Bs W W')∨(e= .returned (.bool false)∧Jx (pre++ [x]) W'))
  (W:World) (hBs:W.cell? ⟨Bs,0,none⟩=some (.slice (some ⟨b,off,none⟩) bs.length cap)) (hc:P6 W b off bs) (h0:J [] W):
  CallsIn F n Tryz.prog 140 #[.func (.yield l) #[] #[], .pointer (some ⟨Bs,0,none⟩)] W fun e W'=>(∃v,e= .returned v)∧
   ((∃ys,ys=NQ bs bs.length∧J ys W')∨(∃pre,(∃k,k≤bs.length∧pre=NQ bs k)∧Jx pre W')):=by
 refine callsIn_of_wp Tryz.func140 rfl h7 ?_ hro;simp only [Tryz.ntmps140,List.size_toArray,List.length_cons,List.length_nil,Nat.reduceAdd,Nat.reduceSub,Array.replicate_succ,Array.replicate_zero,List.push_toArray,List.append_toArray,List.nil_append,List.cons_append]
 gi_wp2
 gi_loopw [3] (fun i wr=>∃k:Nat,k≤bs.length∧i= .int .i64 ((bs.length:Int) - 1 - k)∧J (NQ bs k) wr∧BK n₀ Bs W wr)
  (fun i _=>((intOf i)+1).toNat)
 case atStart=>exact ⟨0,Nat.zero_le _,by go_num,h0,BK.refl _ _ _⟩
 case round=>
  obtain ⟨k,hk,rfl,hJs,hnx⟩:=hrel;by_cases hlt:k<bs.length
  ·obtain ⟨m,hm⟩:∃m:Nat,m=bs.length - 1 - k:=⟨_,rfl⟩;have QN:(bs.length:Int) - 1 - k=(m:Int):=by omega
   have hml:m<bs.length:=by omega
   obtain ⟨x,hxx⟩:∃x,bs[m]? =some x:=⟨_,dE hml⟩;have hcx:wr.rangeAt b (off+m*3) x.cells∧x.cells.length=3:=⟨aU (hc m x hxx).1 hnx.lo hb,(hc m x hxx).2⟩;obtain ⟨hcx,hc3⟩:=hcx;have Le:=ae hcx;have H3:Hid ((Tryz.prog.info? 134).map (·.size)=some x.cells.length):=ae (by rw [hc3];kernel_rfl);have hbx:wr.cell? ⟨Bs,0,none⟩=some (.slice (some ⟨b,off,none⟩) bs.length cap):=hnx.box.trans hBs;obtain ⟨fn,tmps,assign,body,hy,hR⟩:=hY _ ⟨(m,x),hxx⟩ wr hJs (by rw [Jw _ _ hk];exact hlt);dsimp only at hy;rw [QN];have HM:=ae hm;have O0:=ae QN;have HX:Hid (NQ bs (k+1)=NQ bs k++ [⟨(m,x),hxx⟩]):=ae (GG bs k m x hxx hm);clear hm QN hcx hc3
   gi_wp2_with (with_reducible refine EL 134 ?_;refine nG rfl _ _ rfl b (off+m*3) rfl x.cells _ Le.out Tryz.underlying134 rfl H3.out ?_)
   refine hR.mono ?_;rintro e W3 (⟨rfl,hJ3,hk3⟩|⟨rfl,hJx3⟩)
   ·gi_wp2
    go_roundw
    case rel=>exact ⟨k+1,by omega,by have:=O0.out;congr 1;omega,by rw [HX.out];exact hJ3,hnx.trans hk3⟩
    case measure=>simp [intOf]
   ·gi_wp2
    refine bodyPost_ret (results_none rfl _ _ _) rfl ?_;exact ⟨⟨_,rfl⟩, .inr ⟨_,⟨k+1,by omega,by rw [HX.out]⟩,hJx3⟩⟩
  ·have hke:k=bs.length:=by omega
   have TP:=ae hke;clear hke
   gi_wp2
   go_end0
   exact ⟨⟨_,rfl⟩, .inl ⟨_,by rw [TP.out],hJs⟩⟩
theorem CG (F:Fence) (n:Nat) (h7:F.fn 140) (hro:F.round=none) (l Bs:Nat) (A:Option Addr) (c:Nat) {α:Type} (J:List α→World→Prop) (W:World) (hBs:W.cell? ⟨Bs,0,none⟩=some (.slice A 0 c)) (h0:J [] W):
  CallsIn F n Tryz.prog 140 #[.func (.yield l) #[] #[], .pointer (some ⟨Bs,0,none⟩)] W fun e W'=>(∃v,e= .returned v)∧J [] W':=by
 refine callsIn_of_wp Tryz.func140 rfl h7 ?_ hro;simp only [Tryz.ntmps140,List.size_toArray,List.length_cons,List.length_nil,Nat.reduceAdd,Nat.reduceSub,Array.replicate_succ,Array.replicate_zero,List.push_toArray,List.append_toArray,List.nil_append,List.cons_append]
 gi_wp2
 gi_loopw [3] (fun i wr=>i= .int .i64 (-1)∧J [] wr) (fun _ _=>0)
 case atStart=>exact ⟨rfl,h0⟩
 case round=>
  obtain ⟨rfl,hJs⟩:=hrel
  gi_wp2
  go_end0
  exact ⟨⟨_,rfl⟩,hJs⟩
theorem Qd (F:Fence) (n:Nat) (h5:F.fn 137) (hro:F.round=none) (a:Option Addr) (len cap:Nat) (w:World):
  CallsIn F n Tryz.prog 137 #[.slice a len cap] w fun e w'=>e= .returned (.func (.func 140) #[] #[.pointer (some ⟨w.heap.size,0,none⟩)])∧w'=w.alloc (.cells #[.slice a len cap] 45):=by
 refine callsIn_of_wp Tryz.func137 rfl h5 ?_ hro;simp only [Tryz.ntmps137,List.size_toArray,List.length_cons,List.length_nil,Nat.reduceAdd,Nat.reduceSub,Array.replicate_succ,Array.replicate_zero,List.push_toArray,List.append_toArray,List.nil_append,List.cons_append]
 gi_wp2
 go_ret;exact ⟨rfl,rfl⟩
theorem Gy (F:Fence) (n:Nat) (h7:F.fn 140) (hro:F.round=none) (hn:1≤n) (Bs n₀:Nat) (A:Option Addr) (cap:Nat) (bs:List Lr) (hreach:bs.length≤100000) (w:World) (hBs:Bs<w.heap.size) (hn₀:n₀≤w.heap.size)
  (hc:w.cell? ⟨Bs,0,none⟩=some (.slice A bs.length cap)) (hI:bs.length=0∨∃b off,A=some ⟨b,off,none⟩∧b<n₀∧P6 w b off bs):
  SeqStopsK F n Tryz.prog 140 #[.pointer (some ⟨Bs,0,none⟩)] (fun x:ElR bs=> #[Value.int .i64 (x.1.1:Int), .agg x.1.2.cells.toArray]) (BK n₀ Bs) (fun ys=>ys=NQ bs bs.length)
   (fun pre=>∃k,k≤bs.length∧pre=NQ bs k) bs.length w:=fun l J Jx W hW _ _ hY h0=>by
 have hc':=(hW.cell (p:=⟨Bs,0,none⟩) hBs).trans hc;rcases hI with h|⟨b,off,rfl,hb,hcs0⟩
 ·rw [h] at hc';exact (CG F n h7 hro l Bs A cap J W hc' h0).mono fun e W' ⟨he,hj⟩=>⟨he, .inl ⟨_,by rw [h];rfl,hj⟩⟩
 ·exact NL F n h7 hro hn l Bs n₀ b off cap bs hreach hb J Jx hY W hc' (fun j x hx=>⟨aU (hcs0 j x hx).1 (hW.mono hn₀) hb,(hcs0 j x hx).2⟩) h0
end Go.Proofs.YtdibbemgpikgjaaGreat
