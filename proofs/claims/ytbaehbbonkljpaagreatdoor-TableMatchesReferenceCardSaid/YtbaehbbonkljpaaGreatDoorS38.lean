/- The texts Uc, Sd, Ud, Se, Ue, Sf, Uf, Lj, in this order. -/
import Derived.Test.YtbaehbbonkljpaaGreatDoorS00
import Derived.Test.YtbaehbbonkljpaaGreatDoorS01
import Derived.Test.YtbaehbbonkljpaaGreatDoorS03
import Derived.Test.YtbaehbbonkljpaaGreatDoorS19
import Derived.Test.YtbaehbbonkljpaaGreatDoorS28
import Derived.Test.YtbaehbbonkljpaaGreatDoorS35
import Derived.Test.YtbaehbbonkljpaaGreatDoorS37
set_option maxRecDepth 10000
set_option maxHeartbeats 8000000
namespace Go.Proofs.YtbaehbbonkljpaaGreatDoor
open Go Go.RowKit
attribute [local go_sem] dI dM dJ dN fM fO dG dK dH dL jd je
theorem JQ (M:Nat) (w:World) (rb cb co:Nat) (t:TypeId) (cs:Array Value) (B0:List UInt8) (hr:jO M w rb B0) (hp:w.heap[cb]? =some (.cells cs t (0,0))) (h0:co<cs.size) (h1:cs[co+1]? =some (.slice none 0 0)) (h2:cs[co+2]? =some (I 0)) (h3:cs[co+3]? =some (.slice none 0 0))
  (hM:M<=cb) (hne:cb≠rb):
  Calls Tryz.prog 83 #[.iface 134 (pt rb), .pointer (some ⟨cb,co,none⟩)] w (cu (Nk B0) (dD w rb cb t cs) fun c R=>TCalG M w rb cb co t cs c R):=by
 have hcl:cb<w.heap.size:=(bV.1 hp).1;have hlo:=hr.lo;have hrw:=hr.lt;have e1:co+1<cs.size:=(bV.1 h1).1;have e2:co+2<cs.size:=(bV.1 h2).1;have e3:co+3<cs.size:=(bV.1 h3).1;have mG:=ae (fE M w.drew rb cb co 4 t cs B0 hr.drew (by omega) hp h0 hM hne);have HX:Hid (cs[co+1]? =some (.slice none 0 0)/\cs[co+2]? =some (I 0)/\cs[co+3]? =some (.slice none 0 0)):=ae ⟨h1,h2,h3⟩;clear hr hp h1 h2 h3;go_enter Tryz.func83,Tryz.ntmps83;go_wp2_with fail;go_still_tail 7,(by kernel_rfl);go_wp2_with fail;refine mG.out.mono ?_;intro e w1 h;rcases h.get with ⟨hq,hd⟩|⟨ep,B1,hq,rfl,hr1,hp1⟩
 ·obtain ⟨rfl,hd2⟩:=hd;exact ⟨rfl,cu.no (by simp only [Nk,hq,Option.bind_none]) (dD.bT ⟨rfl,hd2⟩)⟩
 have kD:=ae hq;have sS:=ae hp1.bT;have HL:=ae (NJ M w1 rb cb (co+1) t (cs.setIfInBounds co (I ep)) B1 hr1 hp1.tgt (by rw [Array.getElem?_setIfInBounds_ne (by omega)];exact HX.out.1) hM hne);clear hr1 hp1 mG h hq;go_wp2_with fail;refine HL.out.mono ?_;intro e w2 h;rcases h.get with ⟨hq,hd⟩|⟨ms,B2,hq,rfl,A,a,hr2,hp2,ho2,_⟩
 ·obtain ⟨rfl,hd2⟩:=hd;exact ⟨rfl,cu.no (by simp only [Nk,kD.out,hq,Option.bind_some,Option.bind_none]) (dD.after ⟨rfl,hd2⟩ sS.out ((dO.refl cs).set rfl))⟩
 have jr:=ae hq;obtain ⟨n,hn⟩:∃n,ms.length=n:=⟨_,rfl⟩;have HN:=ae hn;rw [hn] at hp2 ho2;obtain ⟨C2,hC2⟩:∃C,(cs.setIfInBounds co (I ep)).setIfInBounds (co+1) (.slice A n a)=C:=⟨_,rfl⟩;rw [hC2] at hp2;have WJ:Hid (dO cs C2):=ae (by rw [<-hC2];exact ((dO.refl cs).set rfl).set rfl);have g2:C2[co+2]? =some (I 0):=by rw [<-hC2,Array.getElem?_setIfInBounds_ne (by omega),Array.getElem?_setIfInBounds_ne (by omega)];exact HX.out.2.1
 have g3:C2[co+3]? =some (.slice none 0 0):=by rw [<-hC2,Array.getElem?_setIfInBounds_ne (by omega),Array.getElem?_setIfInBounds_ne (by omega)];exact HX.out.2.2
 have HP2:=ae (sS.out.trans hp2);have rD:=ae (aX ho2 sS.out.size);have HE2:=ae hC2;have d2:w2.cell? ⟨cb,co+2,none⟩=some (I 0):=(hp2.cell (co+2)).trans g2;have hs2:=hp2.size;have hs1:=sS.out.size;have hb2:=ag w2 (.cells #[I 1] 3);have HB2:=ae hb2;have hrl:=hr2.lt;have HC2:=ae (fE M (w2.alloc (.cells #[I 1] 3)) rb w2.heap.size 0 1 3 #[I 1] B2 (hr2.below hb2 hrl) (by omega) (heap_alloc_last w2 _) (by decide) (by omega) (by omega));clear hr2 hp2 ho2 hC2 HL hb2 h hq hn;go_wp2_with fail;refine HC2.out.mono ?_;intro e w3 h;rcases h.get with ⟨hq,hd⟩|⟨lv,B3,hq,rfl,hr3,hp3⟩
 ·obtain ⟨rfl,D,hD,hT⟩:=hd;have hs3:=hT.size;rw [World.size_alloc] at hs3;have hk3:gB rb w2 w3:=⟨hT.os,hT.tape,hT.output,by omega,fun b hb hbr=>(hT.block b (by simp;omega) (by omega) hbr).trans (HB2.out.block b hb)⟩;exact ⟨rfl,cu.no (by simp only [Nk,kD.out,jr.out,hq,Option.bind_some,Option.bind_none]) ⟨rfl,C2,WJ.out,HP2.out.qZ hk3 (by omega) hne⟩⟩
 have yY:=ae hq;obtain ⟨m0,hm0,hm1⟩:=rQ hq;obtain ⟨lp,rfl⟩:∃lp,lv=lp+1:=⟨lv - 1,by omega⟩;have hlp0: -1<=lp:=by omega
 have hlp1:lp<=255:=by omega
 have hlpv:IntKind.i64.wrap (lp+1 - 1)=lp:=by rw [IntKind.wrap_i64];omega
 have d3:w3.cell? ⟨w2.heap.size,0,none⟩=some (I (lp+1)):=hp3.cell 0;have hs3:=hp3.size;rw [World.size_alloc] at hs3;have hk3:gB rb w2 w3:=⟨hp3.os,hp3.tape,hp3.output,by omega,fun b hb hbr=>(hp3.block b (by simp;omega) (by omega) hbr).trans (HB2.out.block b hb)⟩;have Gq:bH w rb cb t C2 w3:=HP2.out.qZ hk3 (by omega) hne;have e3':w3.cell? ⟨cb,co+2,none⟩=some (I 0):=(Gq.cell (co+2)).trans g2;have f3:=Gq.fZ (co+2);have xk:=ae (Gq.put (co+2) (I lp));have HR4:=ae (hr3.put (o:=co+2) hM hne (I lp));have ho3:w3.ownsRow w.heap.size 3 1 (.slice A n a) n (ms.map I):=Eb rD.out hk3 hrw;have Ey:=ae (eP (u:=I lp) (p:=⟨cb,co+2,none⟩) ho3 (eG ho3 cb hcl));clear hr3 hp3 hk3 Gq HC2 ho3 d2 h hq hm0 hm1;go_wp2_with fail;obtain ⟨w4,hw4⟩:∃W,w3.setCell ⟨cb,co+2,none⟩ (I lp)=W:=⟨_,rfl⟩;rw [hw4] at xk HR4 Ey ⊢;refine (JR M w4 rb cb (co+3) t _ B3 HR4.out xk.out.tgt (by rw [Array.getElem?_setIfInBounds_ne (by omega)];exact g3) hM hne).mono ?_;intro e w5 h;rcases h.get with ⟨hq,hd⟩|⟨rs,B4,hq,rfl,B,b,xw,RH,ho5,_⟩
 ·obtain ⟨rfl,hd2⟩:=hd;exact ⟨rfl,cu.no (by simp only [Nk,kD.out,jr.out,yY.out,hq,Option.bind_some,Option.map_none]) (dD.after ⟨rfl,hd2⟩ xk.out (WJ.out.set rfl))⟩
 have PR:=ae hq;have sV:=ae xw;have sQ:=ae (bI Ey.out (fun b h1 h2=>RH.block b h2 (by omega) (by omega)));have qU:=ae (aX ho5 xk.out.size);have Oa:=ae (xk.out.trans RH);clear xw RH ho5 hw4 d3 e3' f3 g2 g3 h hq;go_wp2_with fail
 go_end0
 refine cu.yes (a:=⟨ep,ms,lp,rs⟩) (R:=B4) (by simp only [Nk,kD.out,jr.out,yY.out,PR.out,Option.bind_some,Option.map_some,Int.add_sub_cancel]) ?_;refine ⟨rfl,A,a,B,b,sV.out,?_,?_,qU.out⟩
 ·have h:=Oa.out;rw [<-HE2.out] at h;simp only [HN.out];exact h
 ·simp only [HN.out];exact sQ.out
end Go.Proofs.YtbaehbbonkljpaaGreatDoor
namespace Go.Proofs.YtbaehbbonkljpaaGreatDoor
open Go Go.RowKit
attribute [local go_sem] dI dM dJ dN fM fO dG dK dH dL jd je
structure LC (lo:Nat) (w:World) (s:Zs) (z:Zn):Prop where
 au:w.ownsRow lo 3 1 (.slice s.A z.cal.au.length s.a) z.cal.au.length (z.cal.au.map I)
 rules:w.ownsRow lo 118 3 (.slice s.B z.cal.rules.length s.b) z.cal.rules.length (z.cal.rules.flatMap Lr.cells)
 trans:w.ownsRow lo 108 2 (.slice s.C z.trans.length s.c) z.trans.length (z.trans.flatMap Tr.cells)
 aH:w.ownsRow lo 110 5 (.slice s.D z.aH.length s.d) z.aH.length (z.aH.flatMap Yr.cells)
theorem LC.base {lo lo':Nat} {w:World} {s:Zs} {z:Zn} (h:LC lo w s z) (hl:lo'<=lo):LC lo' w s z:=
 ⟨aX h.au hl,aX h.rules hl,aX h.trans hl,aX h.aH hl⟩
theorem LC.at {lo:Nat} {w:World} {s:Zs} {z:Zn} (h:LC lo w s z):iP w w.heap.size s z:=
 ⟨aA.dR h.au,aA.dR h.rules,aA.dR h.trans,aA.dR h.aH⟩
def TEntG (M:Nat) (w:World) (rb eb eo:Nat) (t:TypeId) (cs:Array Value) (x:Ze) (R:List UInt8) (e:Ending) (w':World):Prop:=
 e= .returned (.tuple #[])/\∃s:Zs,jO M w' rb R/\bH w rb eb t (iR cs eo (⟨x,s⟩:dw).cells.toList) w'/\LC w.heap.size w' s x.z
end Go.Proofs.YtbaehbbonkljpaaGreatDoor
namespace Go.Proofs.YtbaehbbonkljpaaGreatDoor
open Go Go.RowKit
attribute [local go_sem] dI dM dJ dN fM fO dG dK dH dL jd je
theorem U9 (M:Nat) (w:World) (rb eb eo:Nat) (t:TypeId) (cs:Array Value) (B0:List UInt8) (hr:jO M w rb B0) (hp:w.heap[eb]? =some (.cells cs t (0,0))) (hz:∀j,j<9->cs[eo+j]? =qg[j]?) (hM:M<=eb) (hne:eb≠rb):
  Calls Tryz.prog 65 #[.iface 134 (pt rb), .pointer (some ⟨eb,eo,none⟩)] w (cu (OL B0) (dD w rb eb t cs) fun x R=>TEntG M w rb eb eo t cs x R):=by
 have hel:eb<w.heap.size:=(bV.1 hp).1;have hrw:=hr.lt;have hz0:cs[eo]? =some (.string ⟨#[]⟩):=hz 0 (by decide);have hz8:eo+8<cs.size:=(bV.1 ((hz 8 (by decide)).trans (rfl:qg[8]? =some (.slice none 0 0)))).1;have mG:=ae (NK M w.drew rb eb eo t cs ⟨#[]⟩ B0 hr.drew hp hz0 hM hne);have HZ:Hid (∀j,1<=j->j<9->cs[eo+j]? =qg[j]?):=ae fun j _ hj=>hz j hj;clear hr hp hz hz0;go_enter Tryz.func65,Tryz.ntmps65;go_wp2_with fail;go_still_tail 7,(by kernel_rfl);go_wp2_with fail;refine mG.out.mono ?_;intro e w1 h;rcases h.get with ⟨hq,hd⟩|⟨nm,B1,hq,rfl,hr1,hp1⟩
 ·obtain ⟨rfl,hd2⟩:=hd;exact ⟨rfl,cu.no (by simp only [OL,hq,Option.bind_none]) (dD.bT ⟨rfl,hd2⟩)⟩
 have Ia:=ae hq;obtain ⟨C1,hC1⟩:∃C,cs.setIfInBounds eo (.string nm)=C:=⟨_,rfl⟩;rw [hC1] at hp1;have k1:∀j,1<=j->j<9->C1[eo+j]? =qg[j]? :=fun j h1 h2=>by rw [<-hC1,Array.getElem?_setIfInBounds_ne (by omega)];exact HZ.out j h1 h2
 have l1:C1.size=cs.size:=by rw [<-hC1,Array.size_setIfInBounds]
 have m1:dO cs C1:=by rw [<-hC1];exact (dO.refl cs).set rfl
 have sS:=ae hp1.bT;have kD:=ae hC1;have HC2:=ae (JQ M w1 rb eb (eo+1) t C1 B1 hr1 hp1.tgt (by omega) (k1 2 (by decide) (by decide)) (k1 3 (by decide) (by decide)) (k1 4 (by decide) (by decide)) hM hne);have jP:=ae k1;clear hr1 hp1 mG hC1 k1 h hq;go_wp2_with fail;refine HC2.out.mono ?_;intro e w2 h;rcases h.get with ⟨hq,hd⟩|⟨cal,B2,hq,rfl,A,a,B,b,hr2,hp2,ho2,hq2⟩
 ·obtain ⟨rfl,hd2⟩:=hd;exact ⟨rfl,cu.no (by simp only [OL,Ia.out,hq,Option.bind_some,Option.bind_none]) (dD.after ⟨rfl,hd2⟩ sS.out m1)⟩
 have PZ:=ae hq;obtain ⟨C2,hC2⟩:∃C,iR C1 (eo+1) [I cal.bn, .slice A cal.au.length a,I cal.dA, .slice B cal.rules.length b]=C:=⟨_,rfl⟩;rw [hC2] at hp2;have k2:∀j,5<=j->j<9->C2[eo+j]? =qg[j]? :=fun j h1 h2=>by
  rw [<-hC2];unfold iR iR iR iR iR;rw [Array.getElem?_setIfInBounds_ne (by omega),Array.getElem?_setIfInBounds_ne (by omega),Array.getElem?_setIfInBounds_ne (by omega),Array.getElem?_setIfInBounds_ne (by omega)];exact jP.out j (by omega) h2
 have l2:C2.size=cs.size:=by rw [<-hC2,uC];exact l1
 have m2:dO cs C2:=by rw [<-hC2];unfold iR iR iR iR iR;exact (((m1.set rfl).set rfl).set rfl).set rfl
 have HP2:=ae (sS.out.trans hp2);have rD:=ae (aX ho2 sS.out.size);have HR2:=ae (aX hq2 sS.out.size);have jr:=ae hC2;have xX:=ae (yN M w2.drew rb eb (eo+1+4) t C2 B2 hr2.drew hp2.tgt (by omega) hM hne);have jA:=ae k2;clear hr2 hp2 ho2 hq2 HC2 hC2 k2 h hq;go_wp2_with fail;go_still_tail 7,(by kernel_rfl);go_wp2_with fail;refine xX.out.mono ?_;intro e w3 h;rcases h.get with ⟨hq,hd⟩|⟨st,B3,hq,rfl,hr3,hp3⟩
 ·obtain ⟨rfl,hd2⟩:=hd;exact ⟨rfl,cu.no (by simp only [OL,Ia.out,PZ.out,hq,Option.bind_some,Option.bind_none]) (dD.after (dD.bT ⟨rfl,hd2⟩) HP2.out m2)⟩
 have ZN:=ae hq;obtain ⟨C3,hC3⟩:∃C,C2.setIfInBounds (eo+1+4) (I st)=C:=⟨_,rfl⟩;rw [hC3] at hp3;have k3:∀j,6<=j->j<9->C3[eo+j]? =qg[j]? :=fun j h1 h2=>by rw [<-hC3,Array.getElem?_setIfInBounds_ne (by omega)];exact jA.out j (by omega) h2
 have l3:C3.size=cs.size:=by rw [<-hC3,Array.size_setIfInBounds];exact l2
 have m3:dO cs C3:=by rw [<-hC3];exact m2.set rfl
 have hk3:∀b,w.heap.size<=b->b<w2.heap.size->w3.heap[b]? =w2.heap[b]? :=fun b h1 h2=>hp3.block b h2 (by omega) (by omega);have tX:=ae (bI rD.out hk3);have HR3:=ae (bI HR2.out hk3);have gJ:=ae (HP2.out.trans hp3.bT);have yY:=ae hC3;have xZ:=ae (G5 M w3 rb eb (eo+1+5) t C3 B3 hr3 hp3.tgt (k3 6 (by decide) (by decide)) hM hne);have nC:=ae k3;clear hr3 hp3 xX hC3 k3 hk3 h hq;go_wp2_with fail;refine xZ.out.mono ?_;intro e w4 h;rcases h.get with ⟨hq,hd⟩|⟨ts,B4,hq,rfl,C,c,hr4,mr,Ua,_⟩
 ·obtain ⟨rfl,hd2⟩:=hd;exact ⟨rfl,cu.no (by simp only [OL,Ia.out,PZ.out,ZN.out,hq,Option.bind_some,Option.bind_none]) (dD.after ⟨rfl,hd2⟩ gJ.out m3)⟩
 have HY4:=ae hq;obtain ⟨C4,hC4⟩:∃D,C3.setIfInBounds (eo+1+5) (.slice C ts.length c)=D:=⟨_,rfl⟩;rw [hC4] at mr;have k4:∀j,7<=j->j<9->C4[eo+j]? =qg[j]? :=fun j h1 h2=>by rw [<-hC4,Array.getElem?_setIfInBounds_ne (by omega)];exact nC.out j (by omega) h2
 have l4:C4.size=cs.size:=by rw [<-hC4,Array.size_setIfInBounds];exact l3
 have m4:dO cs C4:=by rw [<-hC4];exact m3.set rfl
 have hk4:∀b,w.heap.size<=b->b<w3.heap.size->w4.heap[b]? =w3.heap[b]? :=fun b h1 h2=>mr.block b h2 (by omega) (by omega);have Ey:=ae (bI tX.out hk4);have HR4:=ae (bI HR3.out hk4);have HT4:=ae (aX Ua gJ.out.size);have xk:=ae (gJ.out.trans mr);have PR:=ae hC4;have PK:=ae (fE M w4.drew rb eb (eo+1+6) 8 t C4 B4 hr4.drew (by omega) mr.tgt (by omega) hM hne);have NZ:=ae k4;clear hr4 mr Ua xZ hC4 k4 hk4 h hq;go_wp2_with fail;go_still_tail 7,(by kernel_rfl);go_wp2_with fail;refine PK.out.mono ?_;intro e w5 h;rcases h.get with ⟨hq,hd⟩|⟨hv,B5,hq,rfl,xw,RH⟩
 ·obtain ⟨rfl,hd2⟩:=hd;exact ⟨rfl,cu.no (by simp only [OL,Ia.out,PZ.out,ZN.out,HY4.out,hq,Option.bind_some,Option.bind_none]) (dD.after (dD.bT ⟨rfl,hd2⟩) xk.out m4)⟩
 have HY5:=ae hq;have hk5:∀b,w.heap.size<=b->b<w4.heap.size->w5.heap[b]? =w4.heap[b]? :=fun b h1 h2=>RH.block b h2 (by omega) (by omega);have sQ:=ae (bI Ey.out hk5);have sV:=ae (bI HR4.out hk5);have Iz:=ae (bI HT4.out hk5);have Oa:=ae (xk.out.trans RH.bT);have xe:=ae (JS M w5 rb eb (eo+1+7) t _ B5 xw RH.tgt (by rw [Array.getElem?_setIfInBounds_ne (by omega)];exact NZ.out 8 (by decide) (by decide)) hM hne);clear xw RH PK hk5 h hq;go_wp2_with fail;refine xe.out.mono ?_;intro e w6 h;rcases h.get with ⟨hq,hd⟩|⟨ys,B6,hq,rfl,D,d,DI,hp6,ho6,_⟩
 ·obtain ⟨rfl,hd2⟩:=hd;exact ⟨rfl,cu.no (by simp only [OL,Ia.out,PZ.out,ZN.out,HY4.out,HY5.out,hq,Option.bind_some,Option.map_none]) (dD.after ⟨rfl,hd2⟩ Oa.out (m4.set rfl))⟩
 have HY6:=ae hq;have hk6:∀b,w.heap.size<=b->b<w5.heap.size->w6.heap[b]? =w5.heap[b]? :=fun b h1 h2=>hp6.block b h2 (by omega) (by omega);have yj:=ae DI;have zU:=ae (show LC w.heap.size w6 ⟨A,a,B,b,C,c,D,d⟩ ⟨cal,st,ts,hv,ys⟩ from ⟨bI sQ.out hk6,bI sV.out hk6,bI Iz.out hk6,aX ho6 Oa.out.size⟩);have PO:=ae (Oa.out.trans hp6);clear DI hp6 ho6 hk6 xe h hq;go_wp2_with fail
 go_end0
 refine cu.yes (a:=⟨nm,⟨cal,st,ts,hv,ys⟩⟩) (R:=B6) (by simp only [OL,Ia.out,PZ.out,ZN.out,HY4.out,HY5.out,HY6.out,Option.bind_some,Option.map_some]) ?_;refine ⟨rfl,⟨A,a,B,b,C,c,D,d⟩,yj.out,?_,zU.out⟩;have h:=PO.out;rw [<-PR.out,<-yY.out,<-jr.out,<-kD.out] at h;exact h
end Go.Proofs.YtbaehbbonkljpaaGreatDoor
namespace Go.Proofs.YtbaehbbonkljpaaGreatDoor
open Go Go.RowKit
attribute [local go_sem] dI dM dJ dN fM fO dG dK dH dL
def NY (lo g:Nat) (w:World) (A:Option Addr) (cs:List Value):Prop:=
 cs.length=0\/∃b off,A=some ⟨b,off,none⟩/\(lo<=b/\b<w.heap.size/\b≠g)/\∀j u,cs[j]? =some u->w.cell? ⟨b,off+j,none⟩=some u
theorem NY.of {lo g g':Nat} {w w':World} {A:Option Addr} {cs:List Value} (h:NY lo g w A cs) (hs:w.heap.size<=w'.heap.size) (hb:∀k,lo<=k->k<w.heap.size->k≠g->w'.heap[k]? =w.heap[k]? /\k≠g'):NY lo g' w' A cs:=by
 rcases h with h|⟨b,off,h1,⟨h2,h3,h4⟩,h5⟩
 ·exact .inl h
 ·obtain ⟨e1,e2⟩:=hb b h2 h3 h4;exact .inr ⟨b,off,h1,⟨h2,by omega,e2⟩,fun j u hu=>(World.cell?_of_block (a:=⟨b,off+j,none⟩) e1).trans (h5 j u hu)⟩
theorem NY.own {lo B g e s n c:Nat} {w:World} {A:Option Addr} {cs:List Value} (h:w.ownsRow B e s (.slice A n c) n cs) (hl:lo<=B) (hg:g<B):NY lo g w A cs:=by
 by_cases h0:n=0
 ·refine .inl ?_;have:=h.1;rw [h0] at this;omega
 ·obtain ⟨b,cap,h1,h2⟩:=gG h (by omega);injection h1 with h1 _ _;subst h1;have h3:=jC h;refine .inr ⟨b,0,rfl,by omega,fun j u hu=>?_⟩;rw [Nat.zero_add];exact pJ h j u hu
structure ZX (lo g:Nat) (w:World) (y:dw):Prop where
 au:NY lo g w y.s.A (y.e.z.cal.au.map I)
 rules:NY lo g w y.s.B (y.e.z.cal.rules.flatMap Lr.cells)
 trans:NY lo g w y.s.C (y.e.z.trans.flatMap Tr.cells)
 aH:NY lo g w y.s.D (y.e.z.aH.flatMap Yr.cells)
theorem ZX.of {lo g g':Nat} {w w':World} {y:dw} (h:ZX lo g w y) (hs:w.heap.size<=w'.heap.size) (hb:∀k,lo<=k->k<w.heap.size->k≠g->w'.heap[k]? =w.heap[k]? /\k≠g'):ZX lo g' w' y:=
 ⟨h.au.of hs hb,h.rules.of hs hb,h.trans.of hs hb,h.aH.of hs hb⟩
theorem NY.at {lo g:Nat} {w:World} {A:Option Addr} {cs:List Value} (h:NY lo g w A cs):aA w w.heap.size A cs:=by
 rcases h with h|⟨b,off,h1,⟨_,h3,_⟩,h5⟩
 ·exact .inl h
 ·exact .inr ⟨b,off,h1,h3,h5⟩
theorem ZX.at {lo g:Nat} {w:World} {y:dw} (h:ZX lo g w y):iP w w.heap.size y.s y.e.z:=⟨h.au.at,h.rules.at,h.trans.at,h.aH.at⟩
theorem NY.lower {lo lo' g:Nat} {w:World} {A:Option Addr} {cs:List Value} (h:NY lo g w A cs) (hl:lo'<=lo):NY lo' g w A cs:=by
 rcases h with h|⟨b,off,h1,⟨h2,h3,h4⟩,h5⟩
 ·exact .inl h
 ·exact .inr ⟨b,off,h1,⟨by omega,h3,h4⟩,h5⟩
theorem ZX.lower {lo lo' g:Nat} {w:World} {y:dw} (h:ZX lo g w y) (hl:lo'<=lo):ZX lo' g w y:=
 ⟨h.au.lower hl,h.rules.lower hl,h.trans.lower hl,h.aH.lower hl⟩
structure KI (lo:Nat) (w:World) (v:Value) (zs:List dw):Prop where
 row:w.ownsRow lo 76 9 v zs.length (aU zs)
 each:∀x∈zs,∃g,ZX lo g w x
 nil:zs.length=0->v= .slice none 0 0
theorem KI.aK {lo:Nat} {w w':World} {v:Value} {zs:List dw} (h:KI lo w v zs) (hs:w.heap.size<=w'.heap.size) (hb:∀k,lo<=k->k<w.heap.size->w'.heap[k]? =w.heap[k]?):KI lo w' v zs:=
 ⟨bI h.row hb,fun x hx=>by obtain ⟨g,hg⟩:=h.each x hx;exact ⟨g,hg.of hs fun k h1 h2 h3=>⟨hb k h1 h2,h3⟩⟩,h.nil⟩
theorem KI.below {lo:Nat} {w w':World} {v:Value} {zs:List dw} (h:KI lo w v zs) (hb:Below w.heap.size w w'):KI lo w' v zs:=h.aK hb.size fun k _ hk=>hb.block k hk
theorem KI.lower {lo lo':Nat} {w:World} {v:Value} {zs:List dw} (h:KI lo w v zs) (hl:lo'<=lo):KI lo' w v zs:=
 ⟨aX h.row hl,fun x hx=>by obtain ⟨g,hg⟩:=h.each x hx;exact ⟨g,hg.lower hl⟩,h.nil⟩
theorem KI.zes {lo:Nat} {w:World} {A:Option Addr} {n c:Nat} {zs:List dw} (h:KI lo w (.slice A n c) zs):kz w w.heap.size A zs:=by
 refine ⟨?_,fun x hx=>by obtain ⟨g,hg⟩:=h.each x hx;exact hg.at⟩;by_cases h0:zs.length=0
 ·rw [List.eq_nil_of_length_eq_zero h0];exact .inl rfl
 ·obtain ⟨b,cap,h1,h2⟩:=gG h.row (by omega);injection h1 with h1 _ _;subst h1;have h3:=jC h.row;refine .inr ⟨b,0,rfl,by omega,fun j u hu=>?_⟩;rw [Nat.zero_add];exact pJ h.row j u hu
theorem TB (ys:List dw) (x:Ze) (s:Zs):kM (aU ys++qg.toList) (ys.length*9) (⟨x,s⟩:dw).cells.toList=aU (ys++ [⟨x,s⟩]):=by
 have h:=qC (⟨x,s⟩:dw).cells.toList (aU ys) qg.toList rfl;rw [dX] at h;rw [h,Kr];unfold aU;rw [List.flatMap_cons,List.flatMap_nil,List.append_nil]
def TZeQ (M:Nat) (w:World) (rb pb po:Nat) (t:TypeId) (cs:Array Value) (zs:List Ze) (n:Nat) (R:List UInt8) (e:Ending) (w':World):Prop:=
 e= .returned (.tuple #[])/\∃A c ys,jO M w' rb R/\bH w rb pb t (cs.setIfInBounds po (.slice A n c)) w'/\KI w.heap.size w' (.slice A n c) ys/\ys.map (·.e)=zs
end Go.Proofs.YtbaehbbonkljpaaGreatDoor
namespace Go.Proofs.YtbaehbbonkljpaaGreatDoor
open Go Go.RowKit
attribute [local go_sem] dI dM dJ dN fM fO dG dK dH dL jd je
def RzuRel (M:Nat) (w:World) (rb pb po:Nat) (t:TypeId) (cs:Array Value) (n:Nat) (B:List UInt8) (i:Value) (wr:World):Prop:=
 ∃(k:Nat) (A:Option Addr) (c:Nat) (ys:List dw) (R:List UInt8),k<=n/\i= .int .i64 k/\gm OL k B=some (ys.map (·.e),R)/\jO M wr rb R/\bH w rb pb t (cs.setIfInBounds po (.slice A k c)) wr/\
  wr.ownsRow w.heap.size 76 9 (.slice A k c) k (aU ys)/\(∀y∈ys,∃g,A=some ⟨g,0,none⟩/\ZX w.heap.size g wr y)/\(k=0->A=none/\c=0)
theorem QR (M:Nat) (w:World) (rb pb po:Nat) (t:TypeId) (cs:Array Value) (B:List UInt8) (hr:jO M w rb B) (hp:w.heap[pb]? =some (.cells cs t (0,0))) (hpo:cs[po]? =some (.slice none 0 0)) (qO:M<=pb) (hne:pb≠rb):
  Calls Tryz.prog 64 #[.iface 134 (pt rb), .pointer (some ⟨pb,po,none⟩),I 1, .func (.func 65) #[] #[]] w (cu (jg 1 OL B) (dD w rb pb t cs) fun zs R=>TZeQ M w rb pb po t cs zs zs.length R):=by
 have hpl:pb<w.heap.size:=(bV.1 hp).1;have hlo:=hr.lo;have hrl:=hr.lt;have hcs:cs.setIfInBounds po (.slice none 0 0)=cs:=by
  apply Array.ext_getElem?;intro i;rw [Array.getElem?_setIfInBounds];split
  ·rename_i e;subst e;split
   ·exact hpo.symm
   ·rename_i e2;rw [Array.getElem?_eq_none (by omega)] at hpo;cases hpo
  ·rfl
 have hc0:w.cell? ⟨pb,po,none⟩=some (.slice none 0 0):=(cell_of_row w pb po _ _ _ hp).trans hpo;have hpos:po<cs.size:=(bV.1 hpo).1;have HC:=ae (oL M w.drew rb 1 0 B hr.drew (by omega));have Ob:Hid (bH w rb pb t cs w):=ae (bH.refl hp);have HP:Hid (bH w rb pb t (cs.setIfInBounds po (.slice none 0 0)) w):=ae (by rw [hcs];exact bH.refl hp);clear hr hp hpo hcs;obtain ⟨i0,hi,hz0,hz1,hz2⟩:=info_parts Gv;go_enter Tryz.func64,Tryz.ntmps64;go_wp2_with fail;go_still_tail 9,(by kernel_rfl);go_wp2_with fail;refine HC.out.mono ?_;intro e w1 h;rcases h.get with ⟨hq,hd⟩|⟨v,B1,hq,rfl,hr1,hk1⟩
 ·obtain ⟨rfl,hb⟩:=hd;exact ⟨rfl,cu.no (by unfold jg;rw [hq];rfl) ⟨rfl,cs,dO.refl cs,Ob.out.drew.grow hb hpl hne⟩⟩
 obtain ⟨n,rfl,hn⟩:=rQ hq;have HQ:Hid (jg 1 OL B=gm OL n B1):=ae (by unfold jg;rw [hq];rfl);have HR1:=ae hr1;have sS:=ae (HP.out.drew.qZ hk1 hpl hne);clear hr1 hk1 HC hc0 h hq Ob;go_wp2_with fail
 go_loopw [22] (fun i wr=>RzuRel M w rb pb po t cs n B1 i wr) (fun i _=>n - (intOf i).toNat)
 case atStart=>exact ⟨0,none,0,[],B1,Nat.zero_le _,rfl,rfl,HR1.out,sS.out,World.ownsRow_nil _ _ _ _,(fun _ h=>nomatch h),fun _=>⟨rfl,rfl⟩⟩
 case round=>
  obtain ⟨k,A,c,ys,R,hk,rfl,hit,hr,hp,hown,hym,hnl⟩:=hrel;have hyl:ys.length=k:=by have h:=mZ _ _ _ _ _ hit;rwa [List.length_map] at h
  have HIT:=ae hit;have HR:=ae hr;have sF:=ae hp;have HO:=ae hown;have qo:=ae hyl;have Xh:=ae hym;have yg:=ae hnl;have hcp:wr.cell? ⟨pb,po,none⟩=some (.slice A k c):=(hp.cell po).trans (by simp [hpos]);have hsw:=hp.size;clear hr hp hown hyl hit hym hnl HR1 sS HP;by_cases hlt:k<n
  ·have i0':(0:Int)<=(k:Int):=by omega
   have i1:(k:Int)<(n:Int):=by omega
   have KQ:Hid (∀j u,qg.toList[j]? =some u->(((wr.alloc (.cells qg 76)).alloc (.cells qg 76)).drew).cell? ((⟨wr.heap.size+1,0,none⟩:Addr).add j)=some u):=ae fun j u hu=>by
    rw [addr_add];have h:=(Row.new (wr.alloc (.cells qg 76)) qg 76).2 j;rw [World.size_alloc] at h;exact h.trans (by simpa using hu)
   have AU:Hid (∀u∈qg.toList,u.oneCell'=true):=ae (by
    intro u hu;have h:qg.all (·.oneCell')=true:=by kernel_rfl
    rw [Array.all_eq_true_iff_forall_mem] at h;exact h u (by simpa using hu))
   have hplw:pb<wr.heap.size:=by omega
   have hmx:k+1<=maxLen:=by unfold maxLen;omega
   have hby:(k+1)*144<=140737488355328:=by omega
   have VS:Hid (w.heap.size<=(((wr.alloc (.cells qg 76)).alloc (.cells qg 76)).drew).heap.size):=ae (by simp;omega);have dU:Hid ((((wr.alloc (.cells qg 76)).alloc (.cells qg 76)).drew).heap.size=wr.heap.size+2):=ae (by simp);have HOO:Hid ((((wr.alloc (.cells qg 76)).alloc (.cells qg 76)).drew).ownsRow w.heap.size 76 9 (.slice A k c) k (aU ys)):=ae ((HO.out.alloc _).alloc _).drew;have Ir:Hid (∀b,b<wr.heap.size->(((wr.alloc (.cells qg 76)).alloc (.cells qg 76)).drew).heap[b]? =wr.heap[b]?):=ae fun b hb=>(Below.heap_alloc (wr.alloc (.cells qg 76)) _ b (by simp;omega)).trans (Below.heap_alloc wr _ b hb);go_wp2_with fail
   go_region_law (refine step_append_lies _ (by rfl) _ _ _ (by rfl) w.heap.size 76 i0 (.agg qg) 9 144 Tryz.underlying22 hi hz0 hz1 hz2 (by rfl) (by omega) (.slice A k c) k (aU ys) (by rfl) HOO.out ⟨wr.heap.size+1,0,none⟩ 1 1 qg.toList (by rfl) (by rfl) KQ.out AU.out (by omega) hmx hby VS.out (wr.heap.size+2) dU.out ?_;intro g2 c2 w2 hown2 hgrow2 yE hlt2;have hbw:∀b,b<w.heap.size->w2.heap[b]? =wr.heap[b]? :=fun b hb=>(hgrow2.block b (Nat.lt_of_lt_of_eq (show b<wr.heap.size+2 by omega) dU.out.symm) (eG HO.out b hb)).trans (Ir.out b (by omega));have HP2:Hid (w2.heap[pb]? =some (.cells (cs.setIfInBounds po (.slice A k c)) t (0,0))):=ae ((hbw pb hpl).trans sF.out.tgt);have hcp2:w2.cell? ⟨pb,po,none⟩=some (.slice A k c):=(cell_of_row w2 pb po _ _ _ HP2.out).trans (by simp [hpos]);have Gp:=frozen_of_row w2 pb po _ _ HP2.out;have qh:=ae hbw;have rD:=ae hown2;have HG2:=ae hgrow2;have HA2:=ae yE;clear hbw hown2 hgrow2 yE)
   all_goals
    have hs2:wr.heap.size+2<=w2.heap.size:=Nat.le_trans (Nat.le_of_eq dU.out.symm) HG2.out.size;have hkeep:∀b,b<wr.heap.size->some b≠(Value.slice A k c).ownBlock->w2.heap[b]? =wr.heap[b]? :=fun b hb hne=>(HG2.out.block b (Nat.lt_of_lt_of_eq (show b<wr.heap.size+2 by omega) dU.out.symm) hne).trans (Ir.out b hb);have hlo2:=jC rD.out;have hP3:bH w rb pb t (cs.setIfInBounds po (.slice (some ⟨g2,0,none⟩) (k+1) c2)) (w2.setCell ⟨pb,po,none⟩ (.slice (some ⟨g2,0,none⟩) (k+1) c2)):=by
     have h:bH w rb pb t (cs.setIfInBounds po (.slice A k c)) w2:=⟨HG2.out.os.trans sF.out.os,HG2.out.tape.trans sF.out.tape,HG2.out.output.trans sF.out.output,by omega,fun b hb h1 h2=>(qh.out b hb).trans (sF.out.block b hb h1 h2),HP2.out⟩;have h:=h.put po (.slice (some ⟨g2,0,none⟩) (k+1) c2)
     rwa [Array.setIfInBounds_setIfInBounds] at h
    have OD:jO M (w2.setCell ⟨pb,po,none⟩ (.slice (some ⟨g2,0,none⟩) (k+1) c2)) rb R:=(HR.out.of (qh.out rb hrl) fun b hb=>qh.out b (by omega)).put qO hne _;have hO3:(w2.setCell ⟨pb,po,none⟩ (.slice (some ⟨g2,0,none⟩) (k+1) c2)).ownsRow w.heap.size 76 9 (.slice (some ⟨g2,0,none⟩) (k+1) c2) (k+1) (aU ys++qg.toList):=eP (p:=⟨pb,po,none⟩) rD.out (by intro e;injection e with e;simp only at e;omega);have hM3:∀y∈ys,ZX w.heap.size g2 (w2.setCell ⟨pb,po,none⟩ (.slice (some ⟨g2,0,none⟩) (k+1) c2)) y:=by
     intro y hy;obtain ⟨g,hA,hx⟩:=Xh.out y hy;refine hx.of (by simp [World.setCell];omega) fun b b2 b3 b4=>?_;have hne1:some b≠(Value.slice A k c).ownBlock:=by
      rw [hA];intro e;injection e with e;exact b4 e
     refine ⟨(heap_setCell_other w2 _ b _ (by show b≠pb;omega)).trans (hkeep b b3 hne1),?_⟩;rcases HA2.out with h|h
     ·rw [hA] at h;injection h with h;intro e;exact b4 (e.trans h.symm)
     ·omega
    have gJ:=ae hP3;have HR3:=ae OD;have tX:=ae hO3;have HM3:=ae hM3;clear hkeep hP3 OD hO3 hM3 HP2 qh rD HG2 HA2 hcp;go_wp2_with fail;obtain ⟨w3,hw3⟩:∃W,w2.setCell ⟨pb,po,none⟩ (.slice (some ⟨g2,0,none⟩) (k+1) c2)=W:=⟨_,rfl⟩;rw [hw3] at gJ HR3 tX HM3 ⊢;obtain ⟨cur,q1,q2,q3,q4,q5,q6,q7,_⟩:=lT tX.out;have hzz:∀j,j<9->cur[k*9+j]? =qg[j]? :=fun j hj=>by
     have h:(cur.toList.take ((k+1)*9))[k*9+j]? =(aU ys++qg.toList)[k*9+j]? :=by rw [q6]
     rw [List.getElem?_take_of_lt (by omega),List.getElem?_append_right (by rw [dX,qo.out];omega),dX,qo.out,show k*9+j - k*9=j by omega] at h;simpa using h
    refine (U9 M w3 rb g2 (k*9) 76 cur R HR3.out q1 hzz (by omega) (by omega)).mono ?_;intro e w4 xu;rcases xu.get with ⟨hq,hd⟩|⟨x,R4,hq,rfl,s4,hr4,mr,Ua⟩
    ·obtain ⟨rfl,D,hD,hT⟩:=hd;exact ⟨rfl,cu.no (HQ.out.trans (oK _ _ _ (nR _ HIT.out hq) _ (by omega))) ⟨rfl,_,(dO.refl cs).set rfl,⟨hT.os.trans gJ.out.os,hT.tape.trans gJ.out.tape,hT.output.trans gJ.out.output,Nat.le_trans gJ.out.size hT.size,fun b hb h1 h2=>(hT.block b (dP hb gJ.out.size) (by omega) h2).trans (gJ.out.block b hb h1 h2),(hT.block pb (dP hpl gJ.out.size) (by omega) hne).trans gJ.out.tgt⟩⟩⟩
    have FI:Hid (gm OL (k+1) B1=some ((ys++ [(⟨x,s4⟩:dw)]).map (·.e),R4)):=ae (by rw [List.map_append];exact nP _ HIT.out hq);have hO4:=Ak tX.out q1 mr;rw [<-qo.out,TB ys x s4,qo.out] at hO4;have OC:bH w rb pb t (cs.setIfInBounds po (.slice (some ⟨g2,0,none⟩) (k+1) c2)) w4:=⟨mr.os.trans gJ.out.os,mr.tape.trans gJ.out.tape,mr.output.trans gJ.out.output,Nat.le_trans gJ.out.size mr.size,fun b hb h1 h2=>(mr.block b (dP hb gJ.out.size) (by omega) h2).trans (gJ.out.block b hb h1 h2),(mr.block pb (dP hpl gJ.out.size) (by omega) hne).trans gJ.out.tgt⟩;have hs3:w3.heap.size=w2.heap.size:=by rw [<-hw3];simp [World.setCell]
    have hM4:∀y∈ys++ [(⟨x,s4⟩:dw)],∃g,(some ⟨g2,0,none⟩:Option Addr)=some ⟨g,0,none⟩/\ZX w.heap.size g w4 y:=by
     intro y hy;refine ⟨g2,rfl,?_⟩;rcases List.mem_append.1 hy with hy|hy
     ·exact (HM3.out y hy).of mr.size fun b b2 b3 b4=>⟨mr.block b b3 b4 (by omega),b4⟩
     ·rw [List.mem_singleton.1 hy];exact ⟨.own Ua.au (by omega) (by omega), .own Ua.rules (by omega) (by omega), .own Ua.trans (by omega) (by omega), .own Ua.aH (by omega) (by omega)⟩
    have HR4:=ae hr4;have xk:=ae OC;have Ey:=ae hO4;have FN:=ae hM4;clear hr4 mr Ua hO4 OC hM4 xu hq q1 q2 q3 q4 q5 q6 q7 hw3 hcp2 Gp hzz;go_wp2_with fail;go_roundw
    case rel=>exact ⟨k+1,some ⟨g2,0,none⟩,c2,_,R4,by omega,by go_num,FI.out,HR4.out,xk.out,Ey.out,FN.out,fun h=>by omega⟩
    case measure=>simp [intOf];omega
  ·have hkn:k=n:=by omega
   have oC:=ae hkn;have hlt':¬(k:Int)<(n:Int):=by omega
   clear hkn hlt hcp;go_wp2_with fail
   go_end0
   have hit:=HIT.out;rw [oC.out] at hit;have hzl:(ys.map (·.e)).length=n:=by rw [List.length_map];exact qo.out.trans oC.out
   refine cu.yes (HQ.out.trans hit) ?_;rw [hzl];refine ⟨rfl,A,c,ys,HR.out,?_,⟨?_,fun y hy=>?_,fun h=>?_⟩,rfl⟩
   ·have h:=sF.out
    rwa [oC.out] at h
   ·have h:=HO.out;rw [oC.out] at h;rw [qo.out,oC.out];exact h
   ·obtain ⟨g,_,h⟩:=Xh.out y hy;exact ⟨g,h⟩
   ·obtain ⟨h1,h2⟩:=yg.out (qo.out.symm.trans h);have h0:n=0:=by have:=qo.out;have:=oC.out;omega
    rw [h1,h2,h0]
end Go.Proofs.YtbaehbbonkljpaaGreatDoor
namespace Go.Proofs.YtbaehbbonkljpaaGreatDoor
open Go Go.RowKit
attribute [local go_sem] dI dM dJ dN fM fO dG dK dH dL
def TWhQ (M:Nat) (w:World) (rb tb:Nat) (t:Tb) (n:Nat) (R:List UInt8) (e:Ending) (w':World):Prop:=
 e= .returned (.tuple #[])/\∃A c ys,jO M w' rb R/\bH w rb tb 26 (ai {t with bP:=fU} (.slice A n c)) w'/\KI w.heap.size w' (.slice A n c) ys/\ys.map (·.e)=t.aF
end Go.Proofs.YtbaehbbonkljpaaGreatDoor
namespace Go.Proofs.YtbaehbbonkljpaaGreatDoor
open Go Go.RowKit
attribute [local go_sem] dI dM dJ dN fM fO dG dK dH dL jd je
theorem Va (M:Nat) (w:World) (rb tb:Nat) (B0:List UInt8) (hr:jO M w rb B0) (hp:w.heap[tb]? =some (.cells (ai bu (.slice none 0 0)) 26 (0,0))) (hM:M<=tb) (hne:tb≠rb):
  Calls Tryz.prog 43 #[.iface 134 (pt rb), .pointer (some ⟨tb,0,none⟩)] w (cu (Ii B0) (dD w rb tb 26 (ai bu (.slice none 0 0))) fun t R=>TWhQ M w rb tb t t.aF.length R):=by
 have hel:tb<w.heap.size:=(bV.1 hp).1;have hrw:=hr.lt;have hz:∀(u:Tb) (v:Value),u.prev.length=32->u.bP.length=32->(ai u v).size=68:=fun u v h1 h2=>bf u v h1 h2;have mG:=ae (fE M w.drew rb tb 0 1 26 _ B0 hr.drew (by omega) hp (by rw [hz _ _ rfl rfl];decide) hM hne);have HZ:=ae hz;have HZ0:Hid ((ai bu (.slice none 0 0)).size=68):=ae (hz _ _ rfl rfl);clear hr hp hz;go_enter Tryz.func43,Tryz.ntmps43;go_wp2_with fail;go_still_tail 7,(by kernel_rfl);go_wp2_with fail;refine mG.out.mono ?_;intro e w1 h;rcases h.get with ⟨hq,hd⟩|⟨vi,B1,hq,rfl,hr1,hp1⟩
 ·obtain ⟨rfl,hd2⟩:=hd;exact ⟨rfl,cu.no (by simp only [Ii,hq,Option.bind_none]) (dD.bT ⟨rfl,hd2⟩)⟩
 have Ia:=ae hq;rw [GU] at hp1;have sS:=ae hp1.bT;have HC2:=ae (fE M w1.drew rb tb 1 1 26 _ B1 hr1.drew (by omega) hp1.tgt (by rw [HZ.out _ _ rfl rfl];decide) hM hne);clear hr1 hp1 mG h hq;go_wp2_with fail;go_still_tail 7,(by kernel_rfl);go_wp2_with fail;refine HC2.out.mono ?_;intro e w2 h;rcases h.get with ⟨hq,hd⟩|⟨vv,B2,hq,rfl,hr2,hp2⟩
 ·obtain ⟨rfl,hd2⟩:=hd;exact ⟨rfl,cu.no (by simp only [Ii,Ia.out,hq,Option.bind_some,Option.bind_none]) (dD.after (dD.bT ⟨rfl,hd2⟩) sS.out ⟨by rw [HZ.out _ _ rfl rfl,HZ0.out],fun _=>aT _ _ _ _⟩)⟩
 have PZ:=ae hq;rw [Eh] at hp2;have HP2:=ae (sS.out.trans hp2.bT);have xX:=ae (fE M w2.drew rb tb 2 1 26 _ B2 hr2.drew (by omega) hp2.tgt (by rw [HZ.out _ _ rfl rfl];decide) hM hne);clear hr2 hp2 HC2 h hq;go_wp2_with fail;go_still_tail 7,(by kernel_rfl);go_wp2_with fail;refine xX.out.mono ?_;intro e w3 h;rcases h.get with ⟨hq,hd⟩|⟨vw,B3,hq,rfl,hr3,hp3⟩
 ·obtain ⟨rfl,hd2⟩:=hd;exact ⟨rfl,cu.no (by simp only [Ii,Ia.out,PZ.out,hq,Option.bind_some,Option.bind_none]) (dD.after (dD.bT ⟨rfl,hd2⟩) HP2.out ⟨by rw [HZ.out _ _ rfl rfl,HZ0.out],fun _=>aT _ _ _ _⟩)⟩
 have ZN:=ae hq;rw [zX] at hp3;have gJ:=ae (HP2.out.trans hp3.bT);have xZ:=ae (GZ M w3.drew rb tb 4 26 _ B3 hr3.drew hp3.tgt (by rw [HZ.out _ _ rfl rfl];decide) hM hne);clear hr3 hp3 xX h hq;go_wp2_with fail;go_still_tail 7,(by kernel_rfl);go_wp2_with fail;refine xZ.out.mono ?_;intro e w4 h;rcases h.get with ⟨hq,hd⟩|⟨pv,B4,hq,rfl,hr4,mr⟩
 ·obtain ⟨rfl,hd2⟩:=hd;exact ⟨rfl,cu.no (by simp only [Ii,Ia.out,PZ.out,ZN.out,hq,Option.bind_some,Option.bind_none]) (dD.after (dD.bT ⟨rfl,hd2⟩) gJ.out ⟨by rw [HZ.out _ _ rfl rfl,HZ0.out],fun _=>aT _ _ _ _⟩)⟩
 have hpl:pv.length=32:=by
  have h:=hq;unfold pD at h;split at h
  ·simp only [Option.some.injEq,Prod.mk.injEq] at h;rw [<-h.1,List.length_take];omega
  ·simp at h
 have HY4:=ae hq;rw [NG _ _ _ rfl hpl] at mr;have xk:=ae (gJ.out.trans mr.bT);have PK:=ae (QR M w4 rb tb 3 26 _ B4 hr4 mr.tgt (bC _ _) hM hne);clear hr4 mr xZ h hq;go_wp2_with fail;refine PK.out.mono ?_;intro e w5 h;rcases h.get with ⟨hq,hd⟩|⟨zs,B5,hq,rfl,A,c,ys,xw,RH,ho5,he5⟩
 ·obtain ⟨rfl,hd2⟩:=hd;exact ⟨rfl,cu.no (by simp only [Ii,Ia.out,PZ.out,ZN.out,HY4.out,hq,Option.bind_some,Option.map_none]) (dD.after ⟨rfl,hd2⟩ xk.out ⟨by rw [HZ.out _ _ hpl rfl,HZ0.out],fun _=>aT _ _ _ _⟩)⟩
 have HY5:=ae hq;rw [qE] at RH;have sV:=ae xw;have Oa:=ae (xk.out.trans RH);have sQ:=ae (ho5.lower xk.out.size);have HE5:=ae he5;clear xw RH ho5 he5 PK h hq;go_wp2_with fail
 go_end0
 refine cu.yes (a:=⟨vi,vv,vw,pv,fU,zs⟩) (R:=B5) (by simp only [Ii,Ia.out,PZ.out,ZN.out,HY4.out,HY5.out,Option.bind_some,Option.map_some]) ?_;exact ⟨rfl,A,c,ys,sV.out,Oa.out,sQ.out,HE5.out⟩
end Go.Proofs.YtbaehbbonkljpaaGreatDoor
namespace Go.Proofs.YtbaehbbonkljpaaGreatDoor
open Go Go.RowKit
attribute [local go_sem] dI dM dJ dN fM fO dG dK dH dL
theorem GV (b:Nat) (w:World) (v:Value) (hq:w.heap[b]? =some (.cells #[v] 4 (0,0))):
  CallsD Tryz.prog 66 #[.pointer (some ⟨b,0,none⟩)] (.panicking nJ) w fun e u' w'=>e= .returned (.tuple #[])/\u'= .panicking [{v:= .iface 132 (.agg #[]),recovered:=true}]/\gB b w w'/\w'.heap[b]? =some (.cells #[.bool false] 4 (0,0)):=by
 have hnn:∀w,(binOp .neq 20 (.iface 132 (.agg #[])) .nilIface).run Tryz.prog w= .ok (.bool true) w:=by intro w;simp [go_sem]
 have hta:∀w,(Instr.typeAssert (.iface 132 (.agg #[])) 20 132 true).run Tryz.prog w= .ok (.tuple #[.agg #[], .bool true]) w:=by intro w;kernel_rfl
 have HB1:=ae (ag w (.cells #[] 132));have hq1:(w.alloc (.cells #[] 132)).heap[b]? =some (.cells #[v] 4 (0,0)):=(HB1.out.block _ (lu hq)).trans hq;have hcc:=cell_of_row _ b 0 _ _ _ hq1;have hfc:=frozen_of_row _ b 0 _ _ hq1;have HK:Hid (gB b w ((w.alloc (.cells #[] 132)).setCell ⟨b,0,none⟩ (.bool false))):=ae ⟨rfl,rfl,rfl,by simp [World.setCell],fun k hk hn=>(heap_setCell_other _ ⟨b,0,none⟩ k _ hn).trans (Below.heap_alloc w _ k hk)⟩;have HQ:Hid (((w.alloc (.cells #[] 132)).setCell ⟨b,0,none⟩ (.bool false)).heap[b]? =some (.cells #[.bool false] 4 (0,0))):=ae (by rw [heap_setCell_same _ b 0 _ _ _ hq1];rfl);clear hq hq1 HB1;unfold nJ;refine callsD_of_wpS Tryz.func66 rfl fun c₀ cs hu=>?_;apply wpS_seq;apply wpS_region;simp [wpOpsS,go_sem,recoverD,hu,Tryz.ntmps66,Exit.thenS];refine wpS_of_wp ?_;simp only [Array.replicate_succ,Array.replicate_zero,List.push_toArray,List.append_toArray,List.nil_append,List.cons_append,List.setIfInBounds_toArray,List.set_cons_zero,List.set_cons_succ];go_wp2_with fail;simp [bodyPostS,results,Tryz.results66];exact ⟨HK.out,HQ.out⟩
end Go.Proofs.YtbaehbbonkljpaaGreatDoor
