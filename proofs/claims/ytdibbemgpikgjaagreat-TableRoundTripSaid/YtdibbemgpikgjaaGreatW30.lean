/- The texts Oc, Sc, Uc, Sd, Ud, Ng1, Ng2, Ns0, Na, in this order. -/
import Derived.Test.YtdibbemgpikgjaaGreatW00
import Derived.Shelf.SlSortCmp.WholeK
import Derived.Shelf.SlicesG.Cmp
import Derived.Test.YtdibbemgpikgjaaGreatW02
import Derived.Test.YtdibbemgpikgjaaGreatW04
import Derived.Test.YtdibbemgpikgjaaGreatW06
import Derived.Test.YtdibbemgpikgjaaGreatW15
import Derived.Test.YtdibbemgpikgjaaGreatW16
import Derived.Test.YtdibbemgpikgjaaGreatW28
import Derived.Test.YtdibbemgpikgjaaGreatW29
set_option maxRecDepth 10000
set_option maxHeartbeats 8000000
namespace Go.Proofs.YtdibbemgpikgjaaGreat
open Go Go.RowKit
attribute [local go_sem] jX kC jY kD nK nM jV ku jW kz
def Cb (c:Cal):List UInt8:=le c.aI 4++((le c.aj.length 1++dJ c.aj)++(le (c.aY+1) 1++(le c.rules.length 1++c.rules.flatMap jP)))
def znB (z:Zn):List UInt8:=Cb z.cal++(le z.start 2++((le z.trans.length 2++z.trans.flatMap iQ)++(le z.hor 8++(le z.az.length 1++z.az.flatMap jQ))))
def Vq (e:Ze):List UInt8:=(le e.name.size 1++e.name.data.toList)++znB e.z
theorem Tj {c:Cal} (h:iR c):(Cb c).length≤14:=by
 unfold Cb;simp only [bF,aA,gB,qC jP 5 uq];have:=h.mo;have:=h.ru;omega
theorem Ym {e:Ze} (h:tZ e.z) (hs:e.name.size≤32):(Vq e).length≤140:=by
 have h1:=Tj h.cal;have h2:=h.Nw;have h3:e.z.az.length≤2:=by rcases h.yr with hy|⟨r0,r1,hy,_⟩<;>rw [hy]<;>simp
 have h4:e.name.data.toList.length=e.name.size:=by rw [Array.length_toList];rfl
 unfold Vq znB;simp only [bF,aA,qC iQ 10 qj,qC jQ 7 uI,h4];omega
end Go.Proofs.YtdibbemgpikgjaaGreat
namespace Go.Proofs.YtdibbemgpikgjaaGreat
open Go Go.RowKit
attribute [local go_sem] dD dH dE dI ed eu dB dF dC dG jA jB
theorem iR.sm {c:Cal} (h:iR c):∀x∈c.rules,lrSm x:=fun x hx=>by
 have:=h.rl x hx;unfold lrSm;omega
def TCalG (M:Nat) (w:World) (rb cb co:Nat) (t:TypeId) (cs:Array Value) (c:Cal) (R:List UInt8) (e:Ending) (w':World):Prop:=
 e= .returned (.tuple #[])∧∃A a B b,fQ M w' rb R∧bD w rb cb t (iW cs co [I c.aI, .slice A c.aj.length a,I c.aY, .slice B c.rules.length b]) w'∧
  w'.ownsRow w.heap.size 3 1 (.slice A c.aj.length a) c.aj.length (c.aj.map I)∧w'.ownsRow w.heap.size 134 3 (.slice B c.rules.length b) c.rules.length (c.rules.flatMap Lr.cells)
end Go.Proofs.YtdibbemgpikgjaaGreat
namespace Go.Proofs.YtdibbemgpikgjaaGreat
open Go Go.RowKit
attribute [local go_sem] dD dH dE dI ed eu dB dF dC dG jA jB
theorem J4 (M:Nat) (w:World) (rb cb co:Nat) (t:TypeId) (cs:Array Value) (B0:List UInt8) (hr:fQ M w rb B0) (hp:w.heap[cb]? =some (.cells cs t (0,0))) (h0:co<cs.size) (h1:cs[co+1]? =some (.slice none 0 0)) (h2:cs[co+2]? =some (I 0)) (h3:cs[co+3]? =some (.slice none 0 0))
  (hM:M≤cb) (hne:cb≠rb):
  Calls Tryz.prog 61 #[.iface 109 (pt rb), .pointer (some ⟨cb,co,none⟩)] w (dw (Au B0) (dO w rb cb t cs) fun c R=>TCalG M w rb cb co t cs c R):=by
 have hcl:cb<w.heap.size:=(bY.1 hp).1;have hlo:=hr.lo;have hrw:=hr.lt;have e1:co+1<cs.size:=(bY.1 h1).1;have e2:co+2<cs.size:=(bY.1 h2).1;have e3:co+3<cs.size:=(bY.1 h3).1;have jO:=ae (fD M w.drew rb cb co 4 t cs B0 hr.drew (by omega) hp h0 hM hne);have HX:Hid (cs[co+1]? =some (.slice none 0 0)∧cs[co+2]? =some (I 0)∧cs[co+3]? =some (.slice none 0 0)):=ae ⟨h1,h2,h3⟩;clear hr hp h1 h2 h3;go_enter Tryz.func61,Tryz.ntmps61;go_wp2_with fail;go_still_tail 7,(by kernel_rfl);go_wp2_with fail;refine jO.out.mono ?_;intro e w1 h;rcases h.get with ⟨hq,hd⟩|⟨ep,B1,hq,rfl,hr1,hp1⟩
 ·obtain ⟨rfl,hd2⟩:=hd;exact ⟨rfl,dw.no (by simp only [Au,hq,Option.bind_none]) (dO.bz ⟨rfl,hd2⟩)⟩
 have jS:=ae hq;have lU:=ae hp1.bz;have HL:=ae (Nv M w1 rb cb (co+1) t (cs.setIfInBounds co (I ep)) B1 hr1 hp1.tgt (by rw [Array.getElem?_setIfInBounds_ne (by omega)];exact HX.out.1) hM hne);clear hr1 hp1 jO h hq;go_wp2_with fail;refine HL.out.mono ?_;intro e w2 h;rcases h.get with ⟨hq,hd⟩|⟨ms,B2,hq,rfl,A,a,hr2,hp2,ho2,_⟩
 ·obtain ⟨rfl,hd2⟩:=hd;exact ⟨rfl,dw.no (by simp only [Au,jS.out,hq,Option.bind_some,Option.bind_none]) (dO.after ⟨rfl,hd2⟩ lU.out ((dU.refl cs).set rfl))⟩
 have jr:=ae hq;obtain ⟨n,hn⟩:∃n,ms.length=n:=⟨_,rfl⟩;have HN:=ae hn;rw [hn] at hp2 ho2;obtain ⟨C2,hC2⟩:∃C,(cs.setIfInBounds co (I ep)).setIfInBounds (co+1) (.slice A n a)=C:=⟨_,rfl⟩;rw [hC2] at hp2;have HCZ:Hid (dU cs C2):=ae (by rw [←hC2];exact ((dU.refl cs).set rfl).set rfl);have g2:C2[co+2]? =some (I 0):=by rw [←hC2,Array.getElem?_setIfInBounds_ne (by omega),Array.getElem?_setIfInBounds_ne (by omega)];exact HX.out.2.1
 have g3:C2[co+3]? =some (.slice none 0 0):=by rw [←hC2,Array.getElem?_setIfInBounds_ne (by omega),Array.getElem?_setIfInBounds_ne (by omega)];exact HX.out.2.2
 have HP2:=ae (lU.out.trans hp2);have mJ:=ae (aX ho2 lU.out.size);have HE2:=ae hC2;have d2:w2.cell? ⟨cb,co+2,none⟩=some (I 0):=(hp2.cell (co+2)).trans g2;have hs2:=hp2.size;have hs1:=lU.out.size;have hb2:=ag w2 (.cells #[I 1] 3);have HB2:=ae hb2;have hrl:=hr2.lt;have HC2:=ae (fD M (w2.alloc (.cells #[I 1] 3)) rb w2.heap.size 0 1 3 #[I 1] B2 (hr2.below hb2 hrl) (by omega) (heap_alloc_last w2 _) (by decide) (by omega) (by omega));clear hr2 hp2 ho2 hC2 HL hb2 h hq hn;go_wp2_with fail;refine HC2.out.mono ?_;intro e w3 h;rcases h.get with ⟨hq,hd⟩|⟨lv,B3,hq,rfl,hr3,hp3⟩
 ·obtain ⟨rfl,D,hD,hT⟩:=hd;have hs3:=hT.size;rw [World.size_alloc] at hs3;have hk3:iT rb w2 w3:=⟨hT.os,hT.tape,hT.output,by omega,fun b hb hbr=>(hT.block b (by simp;omega) (by omega) hbr).trans (HB2.out.block b hb)⟩;exact ⟨rfl,dw.no (by simp only [Au,jS.out,jr.out,hq,Option.bind_some,Option.bind_none]) ⟨rfl,C2,HCZ.out,HP2.out.jZ hk3 (by omega) hne⟩⟩
 have xg:=ae hq;obtain ⟨m0,hm0,hm1⟩:=rU hq;obtain ⟨lp,rfl⟩:∃lp,lv=lp+1:=⟨lv - 1,by omega⟩;have hlp0: -1≤lp:=by omega
 have hlp1:lp≤255:=by omega
 have hlpv:IntKind.i64.wrap (lp+1 - 1)=lp:=by rw [IntKind.wrap_i64];omega
 have d3:w3.cell? ⟨w2.heap.size,0,none⟩=some (I (lp+1)):=hp3.cell 0;have hs3:=hp3.size;rw [World.size_alloc] at hs3;have hk3:iT rb w2 w3:=⟨hp3.os,hp3.tape,hp3.output,by omega,fun b hb hbr=>(hp3.block b (by simp;omega) (by omega) hbr).trans (HB2.out.block b hb)⟩;have xy:bD w rb cb t C2 w3:=HP2.out.jZ hk3 (by omega) hne;have e3':w3.cell? ⟨cb,co+2,none⟩=some (I 0):=(xy.cell (co+2)).trans g2;have f3:=xy.gG (co+2);have pV:=ae (xy.put (co+2) (I lp));have HR4:=ae (hr3.put (o:=co+2) hM hne (I lp));have ho3:w3.ownsRow w.heap.size 3 1 (.slice A n a) n (ms.map I):=jI mJ.out hk3 hrw;have uZ:=ae (dn (u:=I lp) (p:=⟨cb,co+2,none⟩) ho3 (eG ho3 cb hcl));clear hr3 hp3 hk3 xy HC2 ho3 d2 h hq hm0 hm1;go_wp2_with fail;obtain ⟨w4,hw4⟩:∃W,w3.setCell ⟨cb,co+2,none⟩ (I lp)=W:=⟨_,rfl⟩;rw [hw4] at pV HR4 uZ ⊢;refine (J5 M w4 rb cb (co+3) t _ B3 HR4.out pV.out.tgt (by rw [Array.getElem?_setIfInBounds_ne (by omega)];exact g3) hM hne).mono ?_;intro e w5 h;rcases h.get with ⟨hq,hd⟩|⟨rs,B4,hq,rfl,B,b,tq,xA,Zg,_⟩
 ·obtain ⟨rfl,hd2⟩:=hd;exact ⟨rfl,dw.no (by simp only [Au,jS.out,jr.out,xg.out,hq,Option.bind_some,Option.map_none]) (dO.after ⟨rfl,hd2⟩ pV.out (HCZ.out.set rfl))⟩
 have PK:=ae hq;have qJ:=ae tq;have sH:=ae (bf uZ.out (fun b h1 h2=>xA.block b h2 (by omega) (by omega)));have oN:=ae (aX Zg pV.out.size);have EU:=ae (pV.out.trans xA);clear tq xA Zg hw4 d3 e3' f3 g2 g3 h hq;go_wp2_with fail
 go_end0
 refine dw.yes (a:=⟨ep,ms,lp,rs⟩) (R:=B4) (by simp only [Au,jS.out,jr.out,xg.out,PK.out,Option.bind_some,Option.map_some,Int.add_sub_cancel]) ?_;refine ⟨rfl,A,a,B,b,qJ.out,?_,?_,oN.out⟩
 ·have h:=EU.out;rw [←HE2.out] at h;simp only [HN.out];exact h
 ·simp only [HN.out];exact sH.out
end Go.Proofs.YtdibbemgpikgjaaGreat
namespace Go.Proofs.YtdibbemgpikgjaaGreat
open Go Go.RowKit
attribute [local go_sem] dD dH dE dI ed eu dB dF dC dG jA jB
structure ZnQo (lo:Nat) (w:World) (s:Zs) (z:Zn):Prop where
 aj:w.ownsRow lo 3 1 (.slice s.A z.cal.aj.length s.a) z.cal.aj.length (z.cal.aj.map I)
 rules:w.ownsRow lo 134 3 (.slice s.B z.cal.rules.length s.b) z.cal.rules.length (z.cal.rules.flatMap Lr.cells)
 trans:w.ownsRow lo 100 2 (.slice s.C z.trans.length s.c) z.trans.length (z.trans.flatMap Tr.cells)
 az:w.ownsRow lo 130 5 (.slice s.D z.az.length s.d) z.az.length (z.az.flatMap Yr.cells)
theorem tZ.sm {z:Zn} (h:tZ z):(∀x∈z.trans,trSm x)∧∀x∈z.az,Yl x:=by
 refine ⟨fun x hx=>?_,fun x hx=>?_⟩
 ·have h1:=h.tr x hx;have h2:=h.hor;unfold trSm;omega
 ·have key:∀r,yN r→Yl r:=fun r hr=>by
   have h1:=hr.mo;have h2:=hr.wk;have h3:=hr.wd;have h4:=hr.mi;have h5:=hr.of;unfold Yl;omega
  rcases h.yr with e|⟨r0,r1,e,h0,h1⟩
  ·rw [e] at hx;cases hx
  ·rw [e] at hx;rcases List.mem_cons.1 hx with rfl|hx
   ·exact key _ h0
   ·rw [List.mem_singleton.1 hx];exact key _ h1
theorem tZ.yl {z:Zn} (h:tZ z):z.az.length≤2:=by
 rcases h.yr with e|⟨r0,r1,e,_,_⟩<;>simp [e]
def TEntG (M:Nat) (w:World) (rb eb eo:Nat) (t:TypeId) (cs:Array Value) (x:Ze) (R:List UInt8) (e:Ending) (w':World):Prop:=
 e= .returned (.tuple #[])∧∃s:Zs,fQ M w' rb R∧bD w rb eb t (iW cs eo (⟨x,s⟩:dA).cells.toList) w'∧ZnQo w.heap.size w' s x.z
end Go.Proofs.YtdibbemgpikgjaaGreat
namespace Go.Proofs.YtdibbemgpikgjaaGreat
open Go Go.RowKit
attribute [local go_sem] dD dH dE dI ed eu dB dF dC dG jA jB
theorem U0 (M:Nat) (w:World) (rb eb eo:Nat) (t:TypeId) (cs:Array Value) (B0:List UInt8) (hr:fQ M w rb B0) (hp:w.heap[eb]? =some (.cells cs t (0,0))) (hz:∀j,j<9→cs[eo+j]? =fZ[j]?) (hM:M≤eb) (hne:eb≠rb):
  Calls Tryz.prog 43 #[.iface 109 (pt rb), .pointer (some ⟨eb,eo,none⟩)] w (dw (Ha B0) (dO w rb eb t cs) fun x R=>TEntG M w rb eb eo t cs x R):=by
 have hel:eb<w.heap.size:=(bY.1 hp).1;have hrw:=hr.lt;have hz0:cs[eo]? =some (.string ⟨#[]⟩):=hz 0 (by decide);have hz8:eo+8<cs.size:=(bY.1 ((hz 8 (by decide)).trans (rfl:fZ[8]? =some (.slice none 0 0)))).1;have jO:=ae (Nz M w.drew rb eb eo t cs ⟨#[]⟩ B0 hr.drew hp hz0 hM hne);have HZ:Hid (∀j,1≤j→j<9→cs[eo+j]? =fZ[j]?):=ae fun j _ hj=>hz j hj;clear hr hp hz hz0;go_enter Tryz.func43,Tryz.ntmps43;go_wp2_with fail;go_still_tail 7,(by kernel_rfl);go_wp2_with fail;refine jO.out.mono ?_;intro e w1 h;rcases h.get with ⟨hq,hd⟩|⟨nm,B1,hq,rfl,hr1,hp1⟩
 ·obtain ⟨rfl,hd2⟩:=hd;exact ⟨rfl,dw.no (by simp only [Ha,hq,Option.bind_none]) (dO.bz ⟨rfl,hd2⟩)⟩
 have vX:=ae hq;obtain ⟨C1,IC⟩:∃C,cs.setIfInBounds eo (.string nm)=C:=⟨_,rfl⟩;rw [IC] at hp1;have k1:∀j,1≤j→j<9→C1[eo+j]? =fZ[j]? :=fun j h1 h2=>by rw [←IC,Array.getElem?_setIfInBounds_ne (by omega)];exact HZ.out j h1 h2
 have l1:C1.size=cs.size:=by rw [←IC,Array.size_setIfInBounds]
 have m1:dU cs C1:=by rw [←IC];exact (dU.refl cs).set rfl
 have lU:=ae hp1.bz;have jS:=ae IC;have HC2:=ae (J4 M w1 rb eb (eo+1) t C1 B1 hr1 hp1.tgt (by omega) (k1 2 (by decide) (by decide)) (k1 3 (by decide) (by decide)) (k1 4 (by decide) (by decide)) hM hne);have gK:=ae k1;clear hr1 hp1 jO IC k1 h hq;go_wp2_with fail;refine HC2.out.mono ?_;intro e w2 h;rcases h.get with ⟨hq,hd⟩|⟨cal,B2,hq,rfl,A,a,B,b,hr2,hp2,ho2,hq2⟩
 ·obtain ⟨rfl,hd2⟩:=hd;exact ⟨rfl,dw.no (by simp only [Ha,vX.out,hq,Option.bind_some,Option.bind_none]) (dO.after ⟨rfl,hd2⟩ lU.out m1)⟩
 have yz:=ae hq;obtain ⟨C2,hC2⟩:∃C,iW C1 (eo+1) [I cal.aI, .slice A cal.aj.length a,I cal.aY, .slice B cal.rules.length b]=C:=⟨_,rfl⟩;rw [hC2] at hp2;have k2:∀j,5≤j→j<9→C2[eo+j]? =fZ[j]? :=fun j h1 h2=>by
  rw [←hC2];unfold iW iW iW iW iW;rw [Array.getElem?_setIfInBounds_ne (by omega),Array.getElem?_setIfInBounds_ne (by omega),Array.getElem?_setIfInBounds_ne (by omega),Array.getElem?_setIfInBounds_ne (by omega)];exact gK.out j (by omega) h2
 have l2:C2.size=cs.size:=by rw [←hC2,uA];exact l1
 have m2:dU cs C2:=by rw [←hC2];unfold iW iW iW iW iW;exact (((m1.set rfl).set rfl).set rfl).set rfl
 have HP2:=ae (lU.out.trans hp2);have mJ:=ae (aX ho2 lU.out.size);have HR2:=ae (aX hq2 lU.out.size);have jr:=ae hC2;have qy:=ae (yX M w2.drew rb eb (eo+1+4) t C2 B2 hr2.drew hp2.tgt (by omega) hM hne);have ja:=ae k2;clear hr2 hp2 ho2 hq2 HC2 hC2 k2 h hq;go_wp2_with fail;go_still_tail 7,(by kernel_rfl);go_wp2_with fail;refine qy.out.mono ?_;intro e w3 h;rcases h.get with ⟨hq,hd⟩|⟨st,B3,hq,rfl,hr3,hp3⟩
 ·obtain ⟨rfl,hd2⟩:=hd;exact ⟨rfl,dw.no (by simp only [Ha,vX.out,yz.out,hq,Option.bind_some,Option.bind_none]) (dO.after (dO.bz ⟨rfl,hd2⟩) HP2.out m2)⟩
 have Y0:=ae hq;obtain ⟨C3,IE⟩:∃C,C2.setIfInBounds (eo+1+4) (I st)=C:=⟨_,rfl⟩;rw [IE] at hp3;have k3:∀j,6≤j→j<9→C3[eo+j]? =fZ[j]? :=fun j h1 h2=>by rw [←IE,Array.getElem?_setIfInBounds_ne (by omega)];exact ja.out j (by omega) h2
 have l3:C3.size=cs.size:=by rw [←IE,Array.size_setIfInBounds];exact l2
 have m3:dU cs C3:=by rw [←IE];exact m2.set rfl
 have hk3:∀b,w.heap.size≤b→b<w2.heap.size→w3.heap[b]? =w2.heap[b]? :=fun b h1 h2=>hp3.block b h2 (by omega) (by omega);have mV:=ae (bf mJ.out hk3);have HR3:=ae (bf HR2.out hk3);have dV:=ae (HP2.out.trans hp3.bz);have xg:=ae IE;have qH:=ae (Hu M w3 rb eb (eo+1+5) t C3 B3 hr3 hp3.tgt (k3 6 (by decide) (by decide)) hM hne);have kX:=ae k3;clear hr3 hp3 qy IE k3 hk3 h hq;go_wp2_with fail;refine qH.out.mono ?_;intro e w4 h;rcases h.get with ⟨hq,hd⟩|⟨ts,B4,hq,rfl,C,c,hr4,gW,CS,_⟩
 ·obtain ⟨rfl,hd2⟩:=hd;exact ⟨rfl,dw.no (by simp only [Ha,vX.out,yz.out,Y0.out,hq,Option.bind_some,Option.bind_none]) (dO.after ⟨rfl,hd2⟩ dV.out m3)⟩
 have HY4:=ae hq;obtain ⟨C4,hC4⟩:∃D,C3.setIfInBounds (eo+1+5) (.slice C ts.length c)=D:=⟨_,rfl⟩;rw [hC4] at gW;have k4:∀j,7≤j→j<9→C4[eo+j]? =fZ[j]? :=fun j h1 h2=>by rw [←hC4,Array.getElem?_setIfInBounds_ne (by omega)];exact kX.out j (by omega) h2
 have l4:C4.size=cs.size:=by rw [←hC4,Array.size_setIfInBounds];exact l3
 have m4:dU cs C4:=by rw [←hC4];exact m3.set rfl
 have hk4:∀b,w.heap.size≤b→b<w3.heap.size→w4.heap[b]? =w3.heap[b]? :=fun b h1 h2=>gW.block b h2 (by omega) (by omega);have uZ:=ae (bf mV.out hk4);have HR4:=ae (bf HR3.out hk4);have HT4:=ae (aX CS dV.out.size);have pV:=ae (dV.out.trans gW);have PK:=ae hC4;have yt:=ae (fD M w4.drew rb eb (eo+1+6) 8 t C4 B4 hr4.drew (by omega) gW.tgt (by omega) hM hne);have KL:=ae k4;clear hr4 gW CS qH hC4 k4 hk4 h hq;go_wp2_with fail;go_still_tail 7,(by kernel_rfl);go_wp2_with fail;refine yt.out.mono ?_;intro e w5 h;rcases h.get with ⟨hq,hd⟩|⟨hv,B5,hq,rfl,tq,xA⟩
 ·obtain ⟨rfl,hd2⟩:=hd;exact ⟨rfl,dw.no (by simp only [Ha,vX.out,yz.out,Y0.out,HY4.out,hq,Option.bind_some,Option.bind_none]) (dO.after (dO.bz ⟨rfl,hd2⟩) pV.out m4)⟩
 have Y1:=ae hq;have hk5:∀b,w.heap.size≤b→b<w4.heap.size→w5.heap[b]? =w4.heap[b]? :=fun b h1 h2=>xA.block b h2 (by omega) (by omega);have sH:=ae (bf uZ.out hk5);have qJ:=ae (bf HR4.out hk5);have VF:=ae (bf HT4.out hk5);have EU:=ae (pV.out.trans xA.bz);have rq:=ae (J6 M w5 rb eb (eo+1+7) t _ B5 tq xA.tgt (by rw [Array.getElem?_setIfInBounds_ne (by omega)];exact KL.out 8 (by decide) (by decide)) hM hne);clear tq xA yt hk5 h hq;go_wp2_with fail;refine rq.out.mono ?_;intro e w6 h;rcases h.get with ⟨hq,hd⟩|⟨ys,B6,hq,rfl,D,d,Ar,hp6,ho6,_⟩
 ·obtain ⟨rfl,hd2⟩:=hd;exact ⟨rfl,dw.no (by simp only [Ha,vX.out,yz.out,Y0.out,HY4.out,Y1.out,hq,Option.bind_some,Option.map_none]) (dO.after ⟨rfl,hd2⟩ EU.out (m4.set rfl))⟩
 have HY6:=ae hq;have hk6:∀b,w.heap.size≤b→b<w5.heap.size→w6.heap[b]? =w5.heap[b]? :=fun b h1 h2=>hp6.block b h2 (by omega) (by omega);have yH:=ae Ar;have yG:=ae (show ZnQo w.heap.size w6 ⟨A,a,B,b,C,c,D,d⟩ ⟨cal,st,ts,hv,ys⟩ from ⟨bf sH.out hk6,bf qJ.out hk6,bf VF.out hk6,aX ho6 EU.out.size⟩);have RQ:=ae (EU.out.trans hp6);clear Ar hp6 ho6 hk6 rq h hq;go_wp2_with fail
 go_end0
 refine dw.yes (a:=⟨nm,⟨cal,st,ts,hv,ys⟩⟩) (R:=B6) (by simp only [Ha,vX.out,yz.out,Y0.out,HY4.out,Y1.out,HY6.out,Option.bind_some,Option.map_some]) ?_;refine ⟨rfl,⟨A,a,B,b,C,c,D,d⟩,yH.out,?_,yG.out⟩;have h:=RQ.out;rw [←PK.out,←xg.out,←jr.out,←jS.out] at h;exact h
end Go.Proofs.YtdibbemgpikgjaaGreat
namespace Go.Proofs.YtdibbemgpikgjaaGreat
open Go Go.RowKit
theorem scan_skip (wd wk:Int) (n:Nat):∀(j:Nat) (d cn la:Int),(∀i:Nat,i<j→(d+i)%7≠wd)→gZ wd wk (j+n) d cn la=gZ wd wk n (d+j) cn la:=by
 intro j
 induction j with
 |zero=>intro d cn la _;rw [Nat.zero_add];congr 1;omega
 |succ j ih=>
  intro d cn la h;have h0:¬d%7=wd:=by have:=h 0 (by omega);simpa using this
  rw [show j+1+n=(j+n)+1 by omega];show (if d%7=wd then _ else gZ wd wk (j+n) (d+1) cn la)=_;rw [if_neg h0,ih (d+1) cn la (fun i hi=>by have:=h (i+1) (by omega);rw [show d+1+(i:Int)=d+((i+1:Nat):Int) by omega];exact this)];congr 1;omega
theorem Dw (wd wk:Int) (n:Nat) (d cn la:Int) (h:∀i:Nat,i<n→(d+i)%7≠wd):gZ wd wk n d cn la=(la,wk==5&&decide (0≤la)):=by
 have:=scan_skip wd wk 0 n d cn la h;rw [Nat.add_zero] at this;rw [this];rfl
theorem JR (wd wk:Int) (n:Nat) (d cn la:Int) (h:d%7=wd):gZ wd wk (n+1) d cn la=if cn+1=wk∧wk<5 then (d,true) else gZ wd wk n (d+1) (cn+1) d:=by
 show (if d%7=wd then _ else _)=_;rw [if_pos h]
def Aj (wd wk first m:Int):Int×Bool:=
 if wk=5 then (first+m - 1 - (first+m - 1 - wd)%7,decide (first≤first+m - 1 - (first+m - 1 - wd)%7))
 else (first+(wd - first)%7+7*(wk - 1),decide (first+(wd - first)%7+7*(wk - 1)<first+m))
def ydF (c:Cal) (bg y:Int) (r:Yr):Int×Bool:=Aj r.dm r.di (oW c bg y r.month) (ik c y r.month)
theorem Tv (wd wk d:Int) (m:Nat) (hm:m≤9) (h1:0≤wd∧wd≤6) (h2:1≤wk∧wk≤5) (hd:0≤d):
  (Aj wd wk d m).2=(gZ wd wk m d 0 (-1)).2∧((gZ wd wk m d 0 (-1)).2=true→(Aj wd wk d m).1=(gZ wd wk m d 0 (-1)).1):=by
 obtain ⟨j,hj⟩:∃j:Nat,(wd - d)%7=j:=⟨((wd - d)%7).toNat,by omega⟩;have hj7:j<7:=by omega
 have hjd:(d+j)%7=wd:=by omega
 have hjn:∀i:Nat,i<j→(d+i)%7≠wd:=fun i hi=>by omega
 by_cases hmj:m≤j
 ·rw [Dw wd wk m d 0 (-1) (fun i hi=>hjn i (by omega))];have e:(wk==5&&decide ((0:Int)≤ -1))=false:=by simp
  rw [e];refine ⟨?_,fun h=>by cases h⟩;unfold Aj;split
  ·exact decide_eq_false (by omega)
  ·exact decide_eq_false (by rw [hj];omega)
 ·obtain ⟨n,hn⟩:∃n,m=j+(n+1):=⟨m - j - 1,by omega⟩;rw [show gZ wd wk m d 0 (-1)=gZ wd wk (n+1) (d+j) 0 (-1) by rw [hn];exact scan_skip wd wk (n+1) j d 0 (-1) hjn,JR wd wk n (d+j) 0 (-1) hjd];by_cases hw1:(0:Int)+1=wk∧wk<5
  ·rw [if_pos hw1];unfold Aj;rw [if_neg (by omega),hj];exact ⟨decide_eq_true (by omega),fun _=>by show d+(j:Int)+7*(wk - 1)=d+j;omega⟩
  ·rw [if_neg hw1];by_cases h6:n≤6
   ·rw [Dw wd wk n (d+j+1) (0+1) (d+j) (fun i hi=>by omega)];unfold Aj;split
    ·rename_i h5;subst h5;have e:(((5:Int)==5)&&decide (0≤d+(j:Int)))=true:=by simp;omega
     rw [e];exact ⟨decide_eq_true (by omega),fun _=>by show d+(m:Int) - 1 - (d+m - 1 - wd)%7=d+j;omega⟩
    ·rename_i h5;have e:(wk==5&&decide (0≤d+(j:Int)))=false:=by simp [h5]
     rw [e];exact ⟨decide_eq_false (by rw [hj];omega),fun h=>by cases h⟩
   ·obtain ⟨q,hq⟩:∃q,n=6+(q+1):=⟨n - 7,by omega⟩;rw [show gZ wd wk n (d+j+1) (0+1) (d+j)=gZ wd wk (q+1) (d+j+1+(6:Nat)) (0+1) (d+j) by rw [hq];exact scan_skip wd wk (q+1) 6 (d+j+1) (0+1) (d+j) (fun i hi=>by omega),JR wd wk q _ (0+1) (d+j) (by omega)];by_cases hw2:(0:Int)+1+1=wk∧wk<5
    ·rw [if_pos hw2];unfold Aj;rw [if_neg (by omega),hj];exact ⟨decide_eq_true (by omega),fun _=>by show d+(j:Int)+7*(wk - 1)=d+j+1+(6:Nat);omega⟩
    ·rw [if_neg hw2];rw [Dw wd wk q _ _ _ (fun i hi=>by omega)];unfold Aj;split
     ·rename_i h5;subst h5;have e:(((5:Int)==5)&&decide (0≤d+(j:Int)+1+(6:Nat)))=true:=by simp;omega
      rw [e];exact ⟨decide_eq_true (by omega),fun _=>by show d+(m:Int) - 1 - (d+m - 1 - wd)%7=d+j+1+(6:Nat);omega⟩
     ·rename_i h5;have e:(wk==5&&decide (0≤d+(j:Int)+1+(6:Nat)))=false:=by simp [h5]
      rw [e];exact ⟨decide_eq_false (by rw [hj];omega),fun h=>by cases h⟩
theorem Yk (c:Cal) (bg y:Int) (r:Yr) (hc:iR c) (hr:yN r) (hb:0≤bg):(ydF c bg y r).2=(findF c bg y r).2∧((findF c bg y r).2=true→(ydF c bg y r).1=(findF c bg y r).1):=by
 have hm:=qP c y r.month hc hr.mo;have h1:=qP c y 1 hc (.inl rfl);have hf:0≤oW c bg y r.month:=by
  unfold oW;split<;>omega
 have h:=Tv r.dm r.di (oW c bg y r.month) (ik c y r.month).toNat (by omega) hr.wd hr.wk hf;rw [show (((ik c y r.month).toNat:Nat):Int)=ik c y r.month by omega] at h;exact h
theorem Qi (ts:List Tr) (t:Tr):(vJ ts t).Perm (ts++ [t]):=by
 unfold vJ;refine (List.perm_middle).trans ?_;rw [List.take_append_drop];exact (List.perm_append_comm (l₁:= [t]) (l₂:=ts))
theorem MO {ts us:List Tr} (t:Tr) (h:ts.Perm us):(vJ ts t).Perm (us++ [t]):=(Qi ts t).trans (List.Perm.append_right [t] h)
def FU (c:Cal) (bg y:Int) (r r':Yr) (out:List Tr):List Tr:=if (ydF c bg y r).2=true then out++ [⟨(ydF c bg y r).1*1440+r.minute - r'.off,r.off⟩] else out
def Dp (c:Cal) (r0 r1:Yr) (stop:Int):Nat→Int→Int→List Tr→List Tr
 |0,_,_,out=>out
 |n+1,bg,y,out=>if bg<stop then Dp c r0 r1 stop n (bg+je c y) (y+1) (FU c bg y r1 r0 (FU c bg y r0 r1 out)) else out
theorem FW {c:Cal} {bg y:Int} {r r':Yr} {ts us:List Tr} (hc:iR c) (hr:yN r) (hb:0≤bg) (h:ts.Perm us):(Gg c bg y r r' ts).Perm (FU c bg y r r' us):=by
 obtain ⟨h1,h2⟩:=Yk c bg y r hc hr hb;unfold Gg FU;rw [h1];by_cases hf:(findF c bg y r).2=true
 ·rw [if_pos hf,if_pos hf,h2 hf];exact MO _ h
 ·rw [if_neg hf,if_neg hf];exact h
theorem Qv {c:Cal} {r0 r1:Yr} {stop:Int} (hc:iR c) (hr0:yN r0) (hr1:yN r1):∀(f:Nat) (bg y:Int) (ts us:List Tr),0≤bg→ts.Perm us→(mr c r0 r1 stop f bg y ts).Perm (Dp c r0 r1 stop f bg y us):=by
 intro f
 induction f with
 |zero=>intro bg y ts us _ h;exact h
 |succ f ih=>
  intro bg y ts us hb h;unfold mr Dp;split
  ·have:=nI c y hc;exact ih _ _ _ _ (by omega) (FW hc hr1 hb (FW hc hr0 hb h))
  ·exact h
def XR (z:Zn) (r0 r1:Yr):List Tr:=Dp z.cal r0 r1 (z.cal.aI+kW z) 1400 z.cal.aI 1 []
theorem UH {z:Zn} {r0 r1:Yr} (hc:iR z.cal) (hy:z.az= [r0,r1]) (hr0:yN r0) (hr1:yN r1):(ry z).Perm (XR z r0 r1):=by
 unfold ry XR;rw [hy];exact Qv hc hr0 hr1 _ _ _ _ _ hc.ep.1 (List.Perm.refl _)
theorem GH {ts:List Tr} {size:Int} (h:dZ ts size=true) (i:Nat) (hi:i<ts.length):2160≤lK ts size i:=by
 unfold dZ at h;rw [List.all_eq_true] at h;exact of_decide_eq_true (h i (List.mem_range.2 hi))
theorem WX {ts:List Tr} {size:Int} (h:dZ ts size=true):∀(k i:Nat),i+k+1<ts.length→fU ts i<fU ts (i+k+1):=by
 intro k
 induction k with
 |zero=>
  intro i hi;have:=GH h i (by omega);unfold lK at this;rw [if_pos (by omega)] at this;rw [Nat.add_zero];omega
 |succ k ih=>
  intro i hi;have h1:=ih i (by omega);have h2:=GH h (i+k+1) (by omega);unfold lK at h2;rw [if_pos (by omega)] at h2;rw [show i+(k+1)+1=i+k+1+1 by omega];omega
theorem Gt {ts:List Tr} {i:Nat} (hi:i<ts.length):fU ts i=ts[i].at_:=by
 unfold fU;rw [dK hi];rfl
theorem Qc {ts:List Tr} {size:Int} (h:dZ ts size=true):ts.Pairwise (fun a b=>a.at_<b.at_):=by
 rw [List.pairwise_iff_getElem];intro i j hi hj hij;have:=WX h (j - i - 1) i (by omega);rw [show i+(j - i - 1)+1=j by omega,Gt hi,Gt hj] at this;exact this
theorem uU {ts us:List Tr} {size:Int} (h:dZ ts size=true) (hp:us.Perm ts) (hs:us.Pairwise (fun a b=>a.at_≤b.at_)):us=ts:=by
 have hw:=Qc h;refine List.Perm.eq_of_pairwise (le:=fun a b=>a.at_≤b.at_) ?_ hs (hw.imp (fun h=>by omega)) hp;intro a b ha hb h1 h2;obtain ⟨i,hi,rfl⟩:=List.mem_iff_getElem.1 (hp.mem_iff.1 ha);obtain ⟨j,hj,rfl⟩:=List.mem_iff_getElem.1 hb;rw [List.pairwise_iff_getElem] at hw;rcases Nat.lt_trichotomy i j with h3|h3|h3
 ·have:=hw i j hi hj h3;omega
 ·subst h3;rfl
 ·have:=hw j i hj hi h3;omega
section
open Go.Shelf
def Np:Go.Shelf.Ren:=⟨fun|6=>78|15=>104|14=>103|28=>125|29=>126|20=>117|21=>118|22=>119|23=>120|24=>121|25=>122|26=>123|27=>124|46=>132|47=>133|48=>134|49=>135|50=>136|57=>139|n=>n,fun|22=>48|24=>100|25=>172|3=>3|39=>206|0=>0|53=>189|55=>175|4=>4|46=>216|45=>215|50=>103|5=>5|9=>9|66=>225|70=>115|76=>233|77=>201|n=>n,fun|n=>n⟩
theorem UR:SlLaysF0.n6 Tryz.prog Np:= {
 mixed:=by kernel_rfl
 f6:=⟨Tryz.f78.name,by decide,Tryz.func78.trans (congrArg some (by kernel_rfl))⟩
 f14:=⟨Tryz.f103.name,by decide,Tryz.func103.trans (congrArg some (by kernel_rfl))⟩
 f15:=Tryz.func104.trans (congrArg some (by kernel_rfl))
 f20:=⟨Tryz.f117.name,by decide,Tryz.func117.trans (congrArg some (by kernel_rfl))⟩
 f21:=⟨Tryz.f118.name,by decide,Tryz.func118.trans (congrArg some (by kernel_rfl))⟩
 f22:=⟨Tryz.f119.name,by decide,Tryz.func119.trans (congrArg some (by kernel_rfl))⟩
 f23:=⟨Tryz.f120.name,by decide,Tryz.func120.trans (congrArg some (by kernel_rfl))⟩
 f24:=⟨Tryz.f121.name,by decide,Tryz.func121.trans (congrArg some (by kernel_rfl))⟩
 f25:=⟨Tryz.f122.name,by decide,Tryz.func122.trans (congrArg some (by kernel_rfl))⟩
 f26:=⟨Tryz.f123.name,by decide,Tryz.func123.trans (congrArg some (by kernel_rfl))⟩
 f27:=⟨Tryz.f124.name,by decide,Tryz.func124.trans (congrArg some (by kernel_rfl))⟩
 f28:=Tryz.func125.trans (congrArg some (by kernel_rfl))
 f29:=Tryz.func126.trans (congrArg some (by kernel_rfl))
 f46:=⟨Tryz.f132.name,by decide,Tryz.func132.trans (congrArg some (by kernel_rfl))⟩
 f47:=Tryz.func133.trans (congrArg some (by kernel_rfl))
 f48:=Tryz.func134.trans (congrArg some (by kernel_rfl))
 f49:=⟨Tryz.f135.name,by decide,Tryz.func135.trans (congrArg some (by kernel_rfl))⟩
 f50:=⟨Tryz.f136.name,by decide,Tryz.func136.trans (congrArg some (by kernel_rfl))⟩
 f57:=⟨Tryz.f139.name,by decide,Tryz.func139.trans (congrArg some (by kernel_rfl))⟩
 t0:=Tryz.underlying0
 a0:=Tryz.isAgg0
 z0:=Tryz.sizeOf0
 v0:=Tryz.zeroValue0
 t3:=Tryz.underlying3
 a3:=Tryz.isAgg3
 z3:=Tryz.sizeOf3
 v3:=Tryz.zeroValue3
 t4:=Tryz.underlying4
 a4:=Tryz.isAgg4
 z4:=Tryz.sizeOf4
 v4:=Tryz.zeroValue4
 t5:=Tryz.underlying5
 a5:=Tryz.isAgg5
 z5:=Tryz.sizeOf5
 v5:=Tryz.zeroValue5
 t9:=Tryz.underlying9
 a9:=Tryz.isAgg9
 z9:=Tryz.sizeOf9
 v9:=Tryz.zeroValue9
 t22:=Tryz.underlying48
 a22:=Tryz.isAgg48
 z22:=Tryz.sizeOf48
 v22:=Tryz.zeroValue48
 t25:=Tryz.underlying172
 a25:=Tryz.isAgg172
 z25:=Tryz.sizeOf172
 v25:=Tryz.zeroValue172
 t39:=Tryz.underlying206
 a39:=Tryz.isAgg206
 z39:=Tryz.sizeOf206
 v39:=Tryz.zeroValue206
 t45:=Tryz.underlying215
 a45:=Tryz.isAgg215
 z45:=Tryz.sizeOf215
 v45:=Tryz.zeroValue215
 t46:=Tryz.underlying216
 a46:=Tryz.isAgg216
 z46:=Tryz.sizeOf216
 v46:=Tryz.zeroValue216
 t50:=Tryz.underlying103
 a50:=Tryz.isAgg103
 z50:=Tryz.sizeOf103
 v50:=Tryz.zeroValue103
 t53:=Tryz.underlying189
 a53:=Tryz.isAgg189
 z53:=Tryz.sizeOf189
 v53:=Tryz.zeroValue189
 t55:=Tryz.underlying175
 a55:=Tryz.isAgg175
 z55:=Tryz.sizeOf175
 v55:=Tryz.zeroValue175
 t66:=Tryz.underlying225
 a66:=Tryz.isAgg225
 z66:=Tryz.sizeOf225
 v66:=Tryz.zeroValue225
 t70:=Tryz.underlying115
 a70:=Tryz.isAgg115
 z70:=Tryz.sizeOf115
 v70:=Tryz.zeroValue115
 t76:=Tryz.underlying233
 a76:=Tryz.isAgg233
 z76:=Tryz.sizeOf233
 v76:=Tryz.zeroValue233
 t77:=Tryz.underlying201
 a77:=Tryz.isAgg201
 z77:=Tryz.sizeOf201
 v77:=Tryz.zeroValue201}
def L6:Go.Shelf.Ren:=⟨fun|5=>80|7=>105|n=>n,fun|22=>3|3=>3|4=>4|n=>n,fun|n=>n⟩
theorem cmpInt:SlLaysC2.n5 Tryz.prog L6:= {
 mixed:=by kernel_rfl
 f5:=⟨Tryz.f80.name,by decide,Tryz.func80.trans (congrArg some (by kernel_rfl))⟩
 f7:=⟨Tryz.f105.name,by decide,Tryz.func105.trans (congrArg some (by kernel_rfl))⟩
 t3:=Tryz.underlying3
 a3:=Tryz.isAgg3
 z3:=Tryz.sizeOf3
 v3:=Tryz.zeroValue3
 t4:=Tryz.underlying4
 a4:=Tryz.isAgg4
 z4:=Tryz.sizeOf4
 v4:=Tryz.zeroValue4
 t22:=Tryz.underlying3
 a22:=Tryz.isAgg3
 z22:=Tryz.sizeOf3
 v22:=Tryz.zeroValue3}
end
instance:Inhabited Tr:=⟨⟨0,0⟩⟩
def Fp (x y:Tr):Int:=Lib.compareInt x.at_ y.at_
theorem Xu (x y:Tr):Go.Proofs.ltOf Fp x y=decide (x.at_<y.at_):=by
 unfold Go.Proofs.ltOf Fp Lib.compareInt;by_cases h1:x.at_<y.at_
 ·simp [h1]
 ·by_cases h2:y.at_<x.at_<;>simp [h1,h2]
theorem swoTr:Go.Sort.SWO (Go.Proofs.ltOf Fp) where
 irrefl x:=by rw [Xu];simp
 trans x y z h1 h2:=by rw [Xu] at*;simp at*;omega
 ntrans x y z h1 h2:=by rw [Xu] at*;simp at*;omega
theorem X8 (x y:Tr) (W:World):Calls Tryz.prog 79 #[.agg #[I x.at_,I x.off], .agg #[I y.at_,I y.off]] W fun e w'=>e= .returned (I (Fp x y))∧∃q os',w'=Go.Sort.grow (W.drewN q) os':=by
 have hcon:=fun W'=>Go.Proofs.AnyG.cmp_Compare_int cmpInt x.at_ y.at_ W';change∀W',Calls Tryz.prog 80 _ _ _ at hcon;have HC:=ae hcon;clear hcon;unfold Fp;generalize Lib.compareInt x.at_ y.at_=r at HC ⊢;go_enter Tryz.func79,Tryz.ntmps79;go_wp2_with fail;refine (HC.out _).mono ?_;rintro e w1 ⟨rfl,rfl⟩;go_wp2_with fail;go_ret;exact ⟨rfl,0,_,by rw [Go.Sort.alloc_eq_grow,Go.Sort.alloc_eq_grow,Go.Sort.grow_grow];rfl⟩
theorem Qx {w:World} {g m:Nat} {d:Array Tr} {os:Array Obj} {cur:Array Value} {t:TypeId} (h:w.heap[g]? =some (.cells cur t (0,0))):
  (Go.Proofs.sortWorldK Tr.cells 2 w g 0 m d os).heap[g]? =some (.cells (Go.Sort.putCells id 0 (Go.Sort.flatK Tr.cells 2 d) cur) t (0,0)):=by
 have hg:=(bY.1 h).1;unfold Go.Proofs.sortWorldK Go.Sort.grow Go.Sort.putRowK Go.Sort.putRow Go.Sort.mapBlock Go.Sort.ahead;simp only;rw [Array.getElem?_append_left (by simpa using hg),Array.getElem?_modify,if_pos rfl,h];rfl
theorem Nq {w:World} {g m:Nat} {d:Array Tr} {os:Array Obj}:w.grownBy (Go.Proofs.sortWorldK Tr.cells 2 w g 0 m d os) (some g):=by
 refine ⟨rfl,rfl,rfl,?_,fun k hk hn=>?_⟩
 ·unfold Go.Proofs.sortWorldK Go.Sort.grow Go.Sort.putRowK Go.Sort.putRow Go.Sort.mapBlock Go.Sort.ahead;simp
 ·have hne:g≠k:=fun e=>hn (by rw [e]);unfold Go.Proofs.sortWorldK Go.Sort.grow Go.Sort.putRowK Go.Sort.putRow Go.Sort.mapBlock Go.Sort.ahead;simp only;rw [Array.getElem?_append_left (by simpa using hk),Array.getElem?_modify,if_neg hne]
theorem Fv (d:Array Tr) (j:Nat) (hj:j<d.size*2):(Go.Sort.flatK Tr.cells 2 d)[j]? =(d.toList.flatMap Tr.cells)[j]? :=by
 have hq:j / 2<d.size:=by omega
 have hx:d.toList[j / 2]? =some d[j / 2]! :=by
  rw [Array.getElem?_toList,Array.getElem?_eq_getElem hq,getElem!_pos d (j / 2) hq]
 have h1:=flat_get (s:=2) Tr.cells d.toList (fun _ _=>rfl) (j / 2) (j%2) d[j / 2]! hx (by omega);rw [show j / 2*2+j%2=j by omega] at h1;rw [h1];unfold Go.Sort.flatK;rw [Array.getElem?_map,Array.getElem?_range,if_pos hj];have h2:j%2=0∨j%2=1:=by omega
 rcases h2 with h2|h2<;>rw [Option.map_some,h2]<;>rfl
theorem UT {lo g n c m:Nat} {w:World} {ts:List Tr} {d:Array Tr} {os:Array Obj} (h:iO lo w (some ⟨g,0,none⟩) n c ts) (hd:d.size=n):
  iO lo (Go.Proofs.sortWorldK Tr.cells 2 w g 0 m d os) (some ⟨g,0,none⟩) n c d.toList:=by
 obtain ⟨h0,⟨hv,hn⟩|⟨g',cap,cur,hv,hg,hh,hc,hm,hs,ht⟩⟩:=h
 ·cases hv
 ·injection hv with h1 h2 h3;injection h1 with h1;injection h1 with h1;subst h1 h3;have hfl:(d.toList.flatMap Tr.cells).length=n*2:=by rw [dP (s:=2) Tr.cells _ (fun _ _=>rfl),Array.length_toList,hd]
  refine ⟨hfl, .inr ⟨g,c,_,rfl,hg,Qx hh,hc,hm,by rw [←hs];simp [Go.Sort.putCells],?_⟩⟩;apply List.ext_getElem?;intro j;rw [List.getElem?_take];by_cases hj:j<n*2
  ·rw [if_pos hj,Array.getElem?_toList,←Fv d j (by rw [hd];exact hj)];have hfs:(Go.Sort.flatK Tr.cells 2 d).size=n*2:=by simp [Go.Sort.flatK,hd]
   have hcs:j<cur.size:=by rw [hs];exact dS hj (Nat.mul_le_mul_right 2 hc)
   unfold Go.Sort.putCells;rw [Array.getElem?_mapIdx,Array.getElem?_eq_getElem hcs,Option.map_some,if_pos ⟨Nat.zero_le _,by rw [hfs];omega⟩,Nat.sub_zero,Array.getElem?_eq_getElem (by rw [hfs];exact hj),getElem!_pos _ j (by rw [hfs];exact hj)];rfl
  ·rw [if_neg hj,List.getElem?_eq_none (by rw [hfl];omega)]
theorem WU (a b:Int) (hb:0<b):(a.tmod b<0→a%b=a.tmod b+b)∧(¬a.tmod b<0→a%b=a.tmod b):=by
 have h0:=Int.emod_nonneg a (show b≠0 by omega);have h1:=Int.emod_lt_of_pos a hb;have hn:((b.natAbs:Nat):Int)=b:=Int.natAbs_of_nonneg (by omega);by_cases hc:0≤a∨b∣a
 ·have e:=Int.tmod_eq_emod (a:=a) (b:=b);rw [if_pos hc] at e;constructor<;>intro h<;>omega
 ·have e:=Int.tmod_eq_emod (a:=a) (b:=b);rw [if_neg hc,hn] at e;constructor<;>intro h<;>omega
theorem MV (a b:Int) (w:World) (hb:0<b) (hb2:b≤1000000000):
  Calls Tryz.prog 138 #[I a,I b] w fun e w'=>e= .returned (I (a%b))∧w'=w:=by
 have h0:=Int.emod_nonneg a (show b≠0 by omega);have h1:=Int.emod_lt_of_pos a hb;have hb0:b≠0:=by omega
 have hb1:b≠ -1:=by omega
 obtain ⟨e1,e2⟩:=WU a b hb;obtain ⟨q,hq⟩:∃q,a.tmod b=q:=⟨_,rfl⟩;obtain ⟨p,hp⟩:∃p,a%b=p:=⟨_,rfl⟩;rw [hq] at e1 e2;rw [hp] at e1 e2 h0 h1 ⊢;by_cases hs:q<0
 ·have e3:=e1 hs;have hw:IntKind.i64.wrap (q+b)=q+b:=by rw [IntKind.wrap_i64];omega
  subst e3;clear e1 e2 hp;go_enter Tryz.func138,Tryz.ntmps138
  go_wp2
  go_ret;exact ⟨rfl,rfl⟩
 ·have e3:=e2 hs;subst e3;clear e1 e2 hp;go_enter Tryz.func138,Tryz.ntmps138
  go_wp2
  go_ret;exact ⟨rfl,rfl⟩
theorem MS (a b:Int) (w:World) (hb:0<b) (hb2:b≤1000000000):
  Calls Tryz.prog 131 #[I a,I b] w fun e w'=>e= .returned (.tuple #[I (a%b),I 0])∧w'=w:=by
 have hb1:¬b<1:=by omega
 have HM:=ae (MV a b w hb hb2);go_enter Tryz.func131,Tryz.ntmps131;go_wp2_with fail;refine HM.out.mono ?_;rintro e w1 ⟨rfl,rfl⟩;go_wp2_with fail;go_ret2;exact ⟨rfl,rfl⟩
theorem Ci (a b:Int) (w:World) (hb:0<b) (hb2:b≤1000000000):
  Calls Tryz.prog 116 #[I a,I b] w fun e w'=>e= .returned (I (a%b))∧w'=w:=by
 have HM:=ae (MS a b w hb hb2);go_enter Tryz.func116,Tryz.ntmps116;go_wp2_with fail;refine HM.out.mono ?_;rintro e w1 ⟨rfl,rfl⟩;go_wp2_with fail;go_ret;exact ⟨rfl,rfl⟩
theorem zU (a:Int) (w:World):
  Calls Tryz.prog 101 #[I a] w fun e w'=>e= .returned (I (a%7))∧w'=w:=by
 have HM:=ae (Ci a 7 w (by omega) (by omega));go_enter Tryz.func101,Tryz.ntmps101;go_wp2_with fail;refine HM.out.mono ?_;rintro e w1 ⟨rfl,rfl⟩;go_wp2_with fail;go_ret;exact ⟨rfl,rfl⟩
def ZF (ts:List Lr):Type:= {x:Nat×Lr // ts[x.1]? =some x.2}
def TA (ts:List Lr) (m:Nat):List (ZF ts):=if h:m<ts.length then [⟨(m,ts[m]),dK h⟩] else []
def Jg (ts:List Lr):Nat→List (ZF ts)
 |0=> []
 |k+1=>Jg ts k++TA ts (ts.length - 1 - k)
theorem Jh (ts:List Lr) (k m:Nat) (x:Lr) (hx:ts[m]? =some x) (hm:m=ts.length - 1 - k):Jg ts (k+1)=Jg ts k++ [⟨(m,x),hx⟩]:=by
 subst hm;obtain ⟨h1,h2⟩:=iP.1 hx;subst h2;show Jg ts k++TA ts (ts.length - 1 - k)=_;unfold TA;rw [dif_pos h1]
theorem LP (ts:List Lr) (k:Nat) (hk:k≤ts.length):(Jg ts k).length=k:=by
 induction k with
 |zero=>rfl
 |succ k ih=>
  show (Jg ts k++TA ts (ts.length - 1 - k)).length=k+1;unfold TA;rw [bF,ih (by omega),dif_pos (by omega)];rfl
def SI (w:World) (b off:Nat) (ts:List Lr):Prop:=∀j x,ts[j]? =some x→w.rangeAt b (off+j*3) x.cells∧x.cells.length=3
theorem PY (F:Fence) (n:Nat) (h7:F.fn 140) (hro:F.round=none) (hn:1≤n) (l Bs n₀ b off cap:Nat) (bs:List Lr) (hreach:bs.length≤100000) (hb:b<n₀) (J Jx:List (ZF bs)→World→Prop)
  (hY:∀pre x W,J pre W→pre.length<bs.length→YieldAt F (n - 1) Tryz.prog l #[.int .i64 (x.1.1:Int), .agg x.1.2.cells.toArray] W fun e W'=>
   (e= .returned (.bool true)∧J (pre++ [x]) W'∧BK n₀ Bs W W')∨(e= .returned (.bool false)∧Jx (pre++ [x]) W'))
  (W:World) (hBs:W.cell? ⟨Bs,0,none⟩=some (.slice (some ⟨b,off,none⟩) bs.length cap)) (hc:SI W b off bs) (h0:J [] W):
  CallsIn F n Tryz.prog 140 #[.func (.yield l) #[] #[], .pointer (some ⟨Bs,0,none⟩)] W fun e W'=>(∃v,e= .returned v)∧
   ((∃ys,ys=Jg bs bs.length∧J ys W')∨(∃pre,(∃k,k≤bs.length∧pre=Jg bs k)∧Jx pre W')):=by
 refine callsIn_of_wp Tryz.func140 rfl h7 ?_ hro;simp only [Tryz.ntmps140,List.size_toArray,List.length_cons,List.length_nil,Nat.reduceAdd,Nat.reduceSub,Array.replicate_succ,Array.replicate_zero,List.push_toArray,List.append_toArray,List.nil_append,List.cons_append]
 gi_wp2
 gi_loopw [3] (fun i wr=>∃k:Nat,k≤bs.length∧i= .int .i64 ((bs.length:Int) - 1 - k)∧J (Jg bs k) wr∧BK n₀ Bs W wr)
  (fun i _=>((intOf i)+1).toNat)
 case atStart=>exact ⟨0,Nat.zero_le _,by go_num,h0,BK.refl _ _ _⟩
 case round=>
  obtain ⟨k,hk,rfl,hJs,hnx⟩:=hrel;by_cases hlt:k<bs.length
  ·obtain ⟨m,hm⟩:∃m:Nat,m=bs.length - 1 - k:=⟨_,rfl⟩;have Uf:(bs.length:Int) - 1 - k=(m:Int):=by omega
   have hml:m<bs.length:=by omega
   obtain ⟨x,hxx⟩:∃x,bs[m]? =some x:=⟨_,dK hml⟩;have hcx:wr.rangeAt b (off+m*3) x.cells∧x.cells.length=3:=⟨aW (hc m x hxx).1 hnx.lo hb,(hc m x hxx).2⟩;obtain ⟨hcx,hc3⟩:=hcx;have N8:=ae hcx;have H3:Hid ((Tryz.prog.info? 134).map (·.size)=some x.cells.length):=ae (by rw [hc3];kernel_rfl);have hbx:wr.cell? ⟨Bs,0,none⟩=some (.slice (some ⟨b,off,none⟩) bs.length cap):=hnx.box.trans hBs;obtain ⟨fn,tmps,assign,body,hy,hR⟩:=hY _ ⟨(m,x),hxx⟩ wr hJs (by rw [LP _ _ hk];exact hlt);dsimp only at hy;rw [Uf];have HM:=ae hm;have KU:=ae Uf;have HX:Hid (Jg bs (k+1)=Jg bs k++ [⟨(m,x),hxx⟩]):=ae (Jh bs k m x hxx hm);clear hm Uf hcx hc3
   gi_wp2_with (with_reducible refine GI 134 ?_;refine nX rfl _ _ rfl b (off+m*3) rfl x.cells _ N8.out Tryz.underlying134 rfl H3.out ?_)
   refine hR.mono ?_;rintro e W3 (⟨rfl,hJ3,hk3⟩|⟨rfl,hJx3⟩)
   ·gi_wp2
    go_roundw
    case rel=>exact ⟨k+1,by omega,by have:=KU.out;congr 1;omega,by rw [HX.out];exact hJ3,hnx.trans hk3⟩
    case measure=>simp [intOf]
   ·gi_wp2
    refine bodyPost_ret (results_none rfl _ _ _) rfl ?_;exact ⟨⟨_,rfl⟩, .inr ⟨_,⟨k+1,by omega,by rw [HX.out]⟩,hJx3⟩⟩
  ·have hke:k=bs.length:=by omega
   have VZ:=ae hke;clear hke
   gi_wp2
   go_end0
   exact ⟨⟨_,rfl⟩, .inl ⟨_,by rw [VZ.out],hJs⟩⟩
theorem Eo (F:Fence) (n:Nat) (h7:F.fn 140) (hro:F.round=none) (l Bs:Nat) (A:Option Addr) (c:Nat) {α:Type} (J:List α→World→Prop) (W:World) (hBs:W.cell? ⟨Bs,0,none⟩=some (.slice A 0 c)) (h0:J [] W):
  CallsIn F n Tryz.prog 140 #[.func (.yield l) #[] #[], .pointer (some ⟨Bs,0,none⟩)] W fun e W'=>(∃v,e= .returned v)∧J [] W':=by
 refine callsIn_of_wp Tryz.func140 rfl h7 ?_ hro;simp only [Tryz.ntmps140,List.size_toArray,List.length_cons,List.length_nil,Nat.reduceAdd,Nat.reduceSub,Array.replicate_succ,Array.replicate_zero,List.push_toArray,List.append_toArray,List.nil_append,List.cons_append]
 gi_wp2
 gi_loopw [3] (fun i wr=>i= .int .i64 (-1)∧J [] wr) (fun _ _=>0)
 case atStart=>exact ⟨rfl,h0⟩
 case round=>
  obtain ⟨rfl,hJs⟩:=hrel
  gi_wp2
  go_end0
  exact ⟨⟨_,rfl⟩,hJs⟩
theorem SX (F:Fence) (n:Nat) (h5:F.fn 137) (hro:F.round=none) (a:Option Addr) (len cap:Nat) (w:World):
  CallsIn F n Tryz.prog 137 #[.slice a len cap] w fun e w'=>e= .returned (.func (.func 140) #[] #[.pointer (some ⟨w.heap.size,0,none⟩)])∧w'=w.alloc (.cells #[.slice a len cap] 45):=by
 refine callsIn_of_wp Tryz.func137 rfl h5 ?_ hro;simp only [Tryz.ntmps137,List.size_toArray,List.length_cons,List.length_nil,Nat.reduceAdd,Nat.reduceSub,Array.replicate_succ,Array.replicate_zero,List.push_toArray,List.append_toArray,List.nil_append,List.cons_append]
 gi_wp2
 go_ret;exact ⟨rfl,rfl⟩
theorem Je (F:Fence) (n:Nat) (h7:F.fn 140) (hro:F.round=none) (hn:1≤n) (Bs n₀:Nat) (A:Option Addr) (cap:Nat) (bs:List Lr) (hreach:bs.length≤100000) (w:World) (hBs:Bs<w.heap.size) (hn₀:n₀≤w.heap.size)
  (hc:w.cell? ⟨Bs,0,none⟩=some (.slice A bs.length cap)) (hI:bs.length=0∨∃b off,A=some ⟨b,off,none⟩∧b<n₀∧SI w b off bs):
  SeqStopsK F n Tryz.prog 140 #[.pointer (some ⟨Bs,0,none⟩)] (fun x:ZF bs=> #[Value.int .i64 (x.1.1:Int), .agg x.1.2.cells.toArray]) (BK n₀ Bs) (fun ys=>ys=Jg bs bs.length)
   (fun pre=>∃k,k≤bs.length∧pre=Jg bs k) bs.length w:=fun l J Jx W hW _ _ hY h0=>by
 have hc':=(hW.cell (p:=⟨Bs,0,none⟩) hBs).trans hc;rcases hI with h|⟨b,off,rfl,hb,hcs0⟩
 ·rw [h] at hc';exact (Eo F n h7 hro l Bs A cap J W hc' h0).mono fun e W' ⟨he,hj⟩=>⟨he, .inl ⟨_,by rw [h];rfl,hj⟩⟩
 ·exact PY F n h7 hro hn l Bs n₀ b off cap bs hreach hb J Jx hY W hc' (fun j x hx=>⟨aW (hcs0 j x hx).1 (hW.mono hn₀) hb,(hcs0 j x hx).2⟩) h0
end Go.Proofs.YtdibbemgpikgjaaGreat
