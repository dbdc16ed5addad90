/- The texts TrC, TbV, TbP, in this order. -/
import Derived.Test.YtdibbemgpikgjaaGreatZ00
import Derived.Test.YtdibbemgpikgjaaGreatZ03
import Derived.Test.YtdibbemgpikgjaaGreatZ04
import Derived.Test.YtdibbemgpikgjaaGreatZ05
set_option maxRecDepth 10000
set_option maxHeartbeats 8000000
namespace Go.Proofs.YtdibbemgpikgjaaGreat
open Go Go.RowKit
attribute [local go_sem] eQ fA eU fC iZ ja eH eX eP eY
def Jq (M:Nat) (w:World) (rb:Nat) (R:List UInt8) (e:Ending) (w':World):Prop:=e= .returned (.tuple #[])∧gB M w' rb R∧kM rb w w'
theorem uQ {rb:Nat} {w w':World} (h:kM rb w.drew w'):kM rb w w':=⟨h.os,h.tape,h.output,h.size,h.block⟩
theorem zn (M:Nat) (w:World) (rb lb lo:Nat) (A:Option Addr) (c:Nat) (R:List UInt8) (hp:w.cell? ⟨lb,lo,none⟩=some (.slice A 0 c)) (hr:gB M w rb (le 0 1++R)):
  Calls Tryz.prog 87 #[.iface 109 (pt rb), .pointer (some ⟨lb,lo,none⟩),I 1, .func (.func 88) #[] #[]] w (Jq M w rb R):=by
 have HC:=ae (fH M w.drew rb 1 0 0 0 R hr.drew (by omega) (jA 0 (by omega) (by omega) R));clear hr;go_enter Tryz.func87,Tryz.ntmps87;go_wp2_with fail;go_still_tail 9,(by kernel_rfl);go_wp2_with fail;refine HC.out.mono ?_;rintro e w1 ⟨rfl,hr1,hk1⟩;have HR1:=ae hr1;have iP:=ae (uQ hk1);clear hr1 hk1 HC hp;go_wp2_with fail
 go_loop [22] (fun i=>i= .int .i64 0) (fun _=>0)
 case atStart=>rfl
 case round=>
  subst hrel;go_wp2_with fail
  go_end0
  exact ⟨rfl,HR1.out,iP.out⟩
theorem qh (M:Nat) (w:World) (rb lb lo:Nat) (A:Option Addr) (c:Nat) (R:List UInt8) (hp:w.cell? ⟨lb,lo,none⟩=some (.slice A 0 c)) (hr:gB M w rb (le 0 2++R)):
  Calls Tryz.prog 62 #[.iface 109 (pt rb), .pointer (some ⟨lb,lo,none⟩),I 2, .func (.func 63) #[] #[]] w (Jq M w rb R):=by
 have HC:=ae (fH M w.drew rb 2 0 0 0 R hr.drew (by omega) ((Rq 0 R).trans (by decide)));clear hr;go_enter Tryz.func62,Tryz.ntmps62;go_wp2_with fail;go_still_tail 9,(by kernel_rfl);go_wp2_with fail;refine HC.out.mono ?_;rintro e w1 ⟨rfl,hr1,hk1⟩;have HR1:=ae hr1;have iP:=ae (uQ hk1);clear hr1 hk1 HC hp;go_wp2_with fail
 go_loop [22] (fun i=>i= .int .i64 0) (fun _=>0)
 case atStart=>rfl
 case round=>
  subst hrel;go_wp2_with fail
  go_end0
  exact ⟨rfl,HR1.out,iP.out⟩
theorem zq (M:Nat) (w:World) (rb lb lo:Nat) (A:Option Addr) (c:Nat) (R:List UInt8) (hp:w.cell? ⟨lb,lo,none⟩=some (.slice A 0 c)) (hr:gB M w rb (le 0 1++R)):
  Calls Tryz.prog 64 #[.iface 109 (pt rb), .pointer (some ⟨lb,lo,none⟩),I 1, .func (.func 65) #[] #[]] w (Jq M w rb R):=by
 have HC:=ae (fH M w.drew rb 1 0 0 0 R hr.drew (by omega) (jA 0 (by omega) (by omega) R));clear hr;go_enter Tryz.func64,Tryz.ntmps64;go_wp2_with fail;go_still_tail 9,(by kernel_rfl);go_wp2_with fail;refine HC.out.mono ?_;rintro e w1 ⟨rfl,hr1,hk1⟩;have HR1:=ae hr1;have iP:=ae (uQ hk1);clear hr1 hk1 HC hp;go_wp2_with fail
 go_loop [22] (fun i=>i= .int .i64 0) (fun _=>0)
 case atStart=>rfl
 case round=>
  subst hrel;go_wp2_with fail
  go_end0
  exact ⟨rfl,HR1.out,iP.out⟩
def WI (M:Nat) (w:World) (rb cb co:Nat) (t:TypeId) (cs:Array Value) (c:Cal) (R:List UInt8) (e:Ending) (w':World):Prop:=
 e= .returned (.tuple #[])∧∃A a,gB M w' rb R∧bU w rb cb t (((cs.setIfInBounds co (I c.aN)).setIfInBounds (co+1) (.slice A c.au.length a)).setIfInBounds (co+2) (I (-1))) w'∧w'.ownsRow w.heap.size 3 1 (.slice A c.au.length a) c.au.length (c.au.map I)
theorem qX (M:Nat) (w:World) (rb cb co:Nat) (t:TypeId) (cs:Array Value) (c:Cal) (R:List UInt8) (hc:zC c) (hr:gB M w rb (jw c++R)) (hp:w.heap[cb]? =some (.cells cs t (0,0))) (h0:co<cs.size) (h1:cs[co+1]? =some (.slice none 0 0)) (h2:cs[co+2]? =some (I 0)) (h3:cs[co+3]? =some (.slice none 0 0))
  (hM:M≤cb) (hne:cb≠rb):
  Calls Tryz.prog 61 #[.iface 109 (pt rb), .pointer (some ⟨cb,co,none⟩)] w (WI M w rb cb co t cs c R):=by
 have hcl:cb<w.heap.size:=(aZ.1 hp).1;have hlo:=hr.lo;have hrw:=hr.lt;have e1:co+1<cs.size:=(aZ.1 h1).1;have e2:co+2<cs.size:=(aZ.1 h2).1;have e3:co+3<cs.size:=(aZ.1 h3).1;obtain ⟨n,hn⟩:∃n,c.au.length=n:=⟨_,rfl⟩;have hn2:n≤16:=by have:=hc.mo.2;omega
 have hr':gB M w.drew rb (le c.aN 4++((le n 1++dn c.au)++(le 0 1++(le 0 1++R)))):=by
  have h:=hr.drew;unfold jw at h;rw [hn] at h;simpa only [List.append_assoc] using h
 have jf:=ae (dD M w.drew rb cb co 4 t cs c.aN c.aN _ hr' (by omega) (Xh _ hc.ep.1 (by have:=hc.ep.2;omega) _) hp h0 hM hne);have HN:=ae hn;have HM:Hid (∀z∈c.au,0≤z∧z<256):=ae fun z hz=>by have:=hc.all z hz;omega
 have HX:Hid (cs[co+1]? =some (.slice none 0 0)∧cs[co+2]? =some (I 0)∧cs[co+3]? =some (.slice none 0 0)):=ae ⟨h1,h2,h3⟩;clear hc hr hr' hp hn h1 h2 h3;unfold WI;go_enter Tryz.func61,Tryz.ntmps61;go_wp2_with fail;go_still_tail 7,(by kernel_rfl);go_wp2_with fail;refine jf.out.mono ?_;rintro e w1 ⟨rfl,hr1,hp1⟩;have mY:=ae hp1.dB;have HL:=ae (Eb M w1 rb cb (co+1) n t (cs.setIfInBounds co (I c.aN)) c.au _ HN.out (by omega) HM.out hr1 hp1.tgt (by rw [Array.getElem?_setIfInBounds_ne (by omega)];exact HX.out.1) hM hne);clear hr1 hp1 jf;go_wp2_with fail;refine HL.out.mono ?_;rintro e w2 ⟨rfl,A,a,hr2,hp2,ho2⟩;obtain ⟨C2,hC2⟩:∃C,(cs.setIfInBounds co (I c.aN)).setIfInBounds (co+1) (.slice A n a)=C:=⟨_,rfl⟩;rw [hC2] at hp2;have g2:C2[co+2]? =some (I 0):=by rw [←hC2,Array.getElem?_setIfInBounds_ne (by omega),Array.getElem?_setIfInBounds_ne (by omega)];exact HX.out.2.1
 have g3:C2[co+3]? =some (.slice none 0 0):=by rw [←hC2,Array.getElem?_setIfInBounds_ne (by omega),Array.getElem?_setIfInBounds_ne (by omega)];exact HX.out.2.2
 have HP2:=ae (mY.out.trans hp2);have kW:=ae (aX ho2 mY.out.size);have lL:=ae hC2;have d2:w2.cell? ⟨cb,co+2,none⟩=some (I 0):=(hp2.cell (co+2)).trans g2;have hs2:=hp2.size;have hs1:=mY.out.size;have hb2:=ag w2 (.cells #[I 1] 3);have HB2:=ae hb2;have hrl:=hr2.lt;have HC2:=ae (dD M (w2.alloc (.cells #[I 1] 3)) rb w2.heap.size 0 1 3 #[I 1] 0 0 _ (hr2.below hb2 hrl) (by omega) (jA 0 (by omega) (by omega) _) (heap_alloc_last w2 _) (by decide) (by omega) (by omega));clear hr2 hp2 ho2 hC2 HL hb2;go_wp2_with fail;refine HC2.out.mono ?_;rintro e w3 ⟨rfl,hr3,hp3⟩;have d3:w3.cell? ⟨w2.heap.size,0,none⟩=some (I 0):=hp3.cell 0;have hs3:=hp3.size;rw [World.size_alloc] at hs3;have hk3:kM rb w2 w3:=⟨hp3.os,hp3.tape,hp3.output,by omega,fun b hb hbr=>(hp3.block b (by simp;omega) (by omega) hbr).trans (HB2.out.block b hb)⟩;have vV:bU w rb cb t C2 w3:=HP2.out.mP hk3 (by omega) hne;have e3':w3.cell? ⟨cb,co+2,none⟩=some (I 0):=(vV.cell (co+2)).trans g2;have f3:=vV.gm (co+2);have qo:=ae (vV.put (co+2) (I (-1)));have HR4:=ae (hr3.put (o:=co+2) hM hne (I (-1)));have ho3:w3.ownsRow w.heap.size 3 1 (.slice A n a) n (c.au.map I):=jC kW.out hk3 hrw;have uF:=ae (dA (u:=I (-1)) (p:=⟨cb,co+2,none⟩) ho3 (dV ho3 cb hcl));clear hr3 hp3 hk3 vV HC2 ho3 d2;go_wp2_with fail;obtain ⟨w4,hw4⟩:∃W,w3.setCell ⟨cb,co+2,none⟩ (I (-1))=W:=⟨_,rfl⟩;rw [hw4] at qo HR4 uF ⊢;refine (zn M w4 rb cb (co+3) none 0 R ((qo.out.cell (co+3)).trans (by rw [Array.getElem?_setIfInBounds_ne (by omega)];exact g3)) HR4.out).mono ?_;rintro e w5 ⟨rfl,oL,hk5⟩;have oN:=ae oL;have Eo:=ae (qo.out.mP hk5 (dR hcl qo.out.size) hne);have qQ:=ae (jC uF.out hk5 hrw);clear oL hk5 hw4 d3 e3' f3 g2 g3;go_wp2_with fail
 go_end0
 refine ⟨rfl,A,a,oN.out,?_,?_⟩
 ·have h:=Eo.out;rw [←lL.out] at h;rw [HN.out];exact h
 ·rw [HN.out];exact qQ.out
def rV (cs:Array Value) (eo:Nat) (e:Ze) (A:Option Addr) (a:Nat):Array Value:=
 (((((cs.setIfInBounds eo (.string e.name)).setIfInBounds (eo+1) (I e.z.cal.aN)).setIfInBounds (eo+1+1) (.slice A e.z.cal.au.length a)).setIfInBounds (eo+1+2) (I (-1))).setIfInBounds (eo+1+4) (I e.z.start)).setIfInBounds (eo+1+6) (I e.z.hor)
def WO (M:Nat) (w:World) (rb eb eo:Nat) (t:TypeId) (cs:Array Value) (x:Ze) (R:List UInt8) (e:Ending) (w':World):Prop:=
 e= .returned (.tuple #[])∧∃A a,gB M w' rb R∧bU w rb eb t (rV cs eo x A a) w'∧w'.ownsRow w.heap.size 3 1 (.slice A x.z.cal.au.length a) x.z.cal.au.length (x.z.cal.au.map I)
theorem Ff (M:Nat) (w:World) (rb eb eo:Nat) (t:TypeId) (cs:Array Value) (x:Ze) (R:List UInt8) (hf:gZ x.z) (hs:x.name.size≤32) (hr:gB M w rb (nS x++R)) (hp:w.heap[eb]? =some (.cells cs t (0,0))) (hz:∀j,j<9→cs[eo+j]? =fM[j]?) (hM:M≤eb) (hne:eb≠rb):
  Calls Tryz.prog 43 #[.iface 109 (pt rb), .pointer (some ⟨eb,eo,none⟩)] w (WO M w rb eb eo t cs x R):=by
 have hel:eb<w.heap.size:=(aZ.1 hp).1;have hrw:=hr.lt;have hz0:cs[eo]? =some (.string ⟨#[]⟩):=hz 0 (by decide);have hz8:eo+8<cs.size:=(aZ.1 ((hz 8 (by decide)).trans (rfl:fM[8]? =some (.slice none 0 0)))).1;have hr':gB M w.drew rb ((le x.name.size 1++x.name.data.toList)++(jw x.z.cal++(le x.z.start 2++(le 0 2++(le x.z.hor 8++(le 0 1++R)))))):=by
  have h:=hr.drew;unfold nS at h;simpa only [List.append_assoc] using h
 have jf:=ae (xK M w.drew rb eb eo t cs ⟨#[]⟩ x.name _ hr' (by omega) hp hz0 hM hne);have HZ:Hid (∀j,1≤j→j<9→cs[eo+j]? =fM[j]?):=ae fun j _ hj=>hz j hj;have HF:=ae hf;have N9:=hf.start;have hho0:=hf.hor;clear hf hs hr hr' hp hz hz0;unfold WO;go_enter Tryz.func43,Tryz.ntmps43;go_wp2_with fail;go_still_tail 7,(by kernel_rfl);go_wp2_with fail;refine jf.out.mono ?_;rintro e w1 ⟨rfl,hr1,hp1⟩;obtain ⟨C1,G6⟩:∃C,cs.setIfInBounds eo (.string x.name)=C:=⟨_,rfl⟩;rw [G6] at hp1;have k1:∀j,1≤j→j<9→C1[eo+j]? =fM[j]? :=fun j h1 h2=>by rw [←G6,Array.getElem?_setIfInBounds_ne (by omega)];exact HZ.out j h1 h2
 have l1:C1.size=cs.size:=by rw [←G6,Array.size_setIfInBounds]
 have mY:=ae hp1.dB;have oG:=ae G6;have HC2:=ae (qX M w1 rb eb (eo+1) t C1 x.z.cal _ HF.out.cal hr1 hp1.tgt (by omega) (k1 2 (by decide) (by decide)) (k1 3 (by decide) (by decide)) (k1 4 (by decide) (by decide)) hM hne);have iP:=ae k1;clear hr1 hp1 jf G6 k1;go_wp2_with fail;refine HC2.out.mono ?_;rintro e w2 ⟨rfl,A,a,hr2,hp2,ho2⟩;obtain ⟨C2,hC2⟩:∃C,((C1.setIfInBounds (eo+1) (I x.z.cal.aN)).setIfInBounds (eo+1+1) (.slice A x.z.cal.au.length a)).setIfInBounds (eo+1+2) (I (-1))=C:=⟨_,rfl⟩;rw [hC2] at hp2;have k2:∀j,4≤j→j<9→C2[eo+j]? =fM[j]? :=fun j h1 h2=>by rw [←hC2,Array.getElem?_setIfInBounds_ne (by omega),Array.getElem?_setIfInBounds_ne (by omega),Array.getElem?_setIfInBounds_ne (by omega)];exact iP.out j (by omega) h2
 have l2:C2.size=cs.size:=by rw [←hC2,Array.size_setIfInBounds,Array.size_setIfInBounds,Array.size_setIfInBounds];exact l1
 have HP2:=ae (mY.out.trans hp2);have kW:=ae (aX ho2 mY.out.size);have lL:=ae hC2;have oD:=ae (mX M w2.drew rb eb (eo+1+4) t C2 x.z.start _ hr2.drew (by omega) (by omega) hp2.tgt (by omega) hM hne);have jc:=ae k2;clear hr2 hp2 ho2 HC2 hC2 k2;go_wp2_with fail;go_still_tail 7,(by kernel_rfl);go_wp2_with fail;refine oD.out.mono ?_;rintro e w3 ⟨rfl,hr3,hp3⟩;obtain ⟨C3,G7⟩:∃C,C2.setIfInBounds (eo+1+4) (I x.z.start)=C:=⟨_,rfl⟩;rw [G7] at hp3;have k3:∀j,6≤j→j<9→C3[eo+j]? =fM[j]? :=fun j h1 h2=>by rw [←G7,Array.getElem?_setIfInBounds_ne (by omega)];exact jc.out j (by omega) h2
 have l3:C3.size=cs.size:=by rw [←G7,Array.size_setIfInBounds];exact l2
 have hk3:∀b,w.heap.size≤b→b<w2.heap.size→w3.heap[b]? =w2.heap[b]? :=fun b h1 h2=>hp3.block b h2 (by omega) (by omega);have nK:=ae (aY kW.out hk3);have iV:=ae (HP2.out.trans hp3.dB);have zZ:=ae G7;have oM:=ae (qh M w3 rb eb (eo+1+5) none 0 _ ((hp3.cell _).trans (k3 6 (by decide) (by decide))) hr3);have kU:=ae k3;clear hr3 hp3 oD G7 k3 hk3;go_wp2_with fail;refine oM.out.mono ?_;rintro e w4 ⟨rfl,hr4,hk4⟩;have qo:=ae (iV.out.mP hk4 (dR hel iV.out.size) hne);have uF:=ae (jC nK.out hk4 hrw);have wW:=ae (dD M w4.drew rb eb (eo+1+6) 8 t C3 x.z.hor x.z.hor _ hr4.drew (by omega) (ML _ (by unfold fits;omega) _) qo.out.tgt (by omega) hM hne);clear hr4 hk4 oM;go_wp2_with fail;go_still_tail 7,(by kernel_rfl);go_wp2_with fail;refine wW.out.mono ?_;rintro e w5 ⟨rfl,oL,vW⟩;have hk5:∀b,w.heap.size≤b→b<w4.heap.size→w5.heap[b]? =w4.heap[b]? :=fun b h1 h2=>vW.block b h2 (by omega) (by omega);have qQ:=ae (aY uF.out hk5);have Eo:=ae (qo.out.trans vW.dB);have qm:=ae (zq M w5 rb eb (eo+1+7) none 0 R ((vW.cell _).trans (by rw [Array.getElem?_setIfInBounds_ne (by omega)];exact kU.out 8 (by decide) (by decide))) oL);clear oL vW wW hk5;go_wp2_with fail;refine qm.out.mono ?_;rintro e w6 ⟨rfl,wY,hk6⟩;have vF:=ae wY;have Ep:=ae (Eo.out.mP hk6 (dR hel Eo.out.size) hne);have xk:=ae (jC qQ.out hk6 hrw);clear wY hk6 qm;go_wp2_with fail
 go_end0
 refine ⟨rfl,A,a,vF.out,?_,xk.out⟩;have h:=Ep.out;rw [←zZ.out,←lL.out,←oG.out] at h;exact h
end Go.Proofs.YtdibbemgpikgjaaGreat
namespace Go.Proofs.YtdibbemgpikgjaaGreat
open Go Go.RowKit
structure TV (w:World) (cs:Array Value) (A:Option Addr) (zs:List dm) (W:World):Prop where
 row:Row W w.heap.size cs
 mem:Dy W w.heap.size A zs
 up:Below w.heap.size w W
theorem TV.below {w W W':World} {cs:Array Value} {A:Option Addr} {zs:List dm} (h:TV w cs A zs W) (hb:Below W.heap.size W W'):TV w cs A zs W':=
 ⟨h.row.keep hb,h.mem.keep (hb.mono h.up.size),ah h.up hb⟩
def gK (zs:List dm):Nat→ByteArray
 |0=>⟨#[]⟩
 |k+1=>(zs[k]?.map (·.e.name)).getD ⟨#[]⟩
theorem oh (w:World) (r:List UInt8) (h:r.length=32):(Op.equalIn 10000 24 (.agg (r.map Extern.Stop.cell).toArray) (.agg (r.map Extern.Stop.cell).toArray)).run Tryz.prog w= .ok true w:=by
 rw [run_equalIn_bytes w 9998 24 5 32 Tryz.underlying24 Tryz.underlying5 (fun w=>MN w) r r h h,beq_self_eq_true]
def oO (zs:List dm):Prop:=∀k x,zs[k]? =some x→Op.bytesLess x.e.name.toList (gK zs k).toList=false∧(x.e.name.toList==(gK zs k).toList)=false
attribute [local go_sem] jY jZ ku bH
theorem zi (t:Tb) (A:Option Addr) (n c:Nat) (zs:List dm) (w:World) (h:kG t) (hz:t.aS=zs.map (·.e)) (hn:zs.length=n) (hA:Dy w w.heap.size A zs) (hup:oO zs):
  Calls Tryz.prog 19 #[.agg (ai t (.slice A n c))] w (Gives (I 0) w):=by
 have HR0:=ae (Row.new w (ai t (.slice A n c)) 32);have HB0:=ae (ag w (.cells (ai t (.slice A n c)) 32));have k0:=HR0.out.2;have q1:=h.bz.1;have q2:=h.bz.2;have q3:=h.version.1;have q4:=h.version.2;have q5:=h.aJ.1;have q6:=h.aJ.2;have q7:¬(128:Int)<(n:Int):=by
  have:=h.num;rw [hz,List.length_map,hn] at this;omega
 have HF:=ae h;have HZ:=ae hz;have Jd:Hid (TV w (ai t (.slice A n c)) A zs (w.alloc (.cells (ai t (.slice A n c)) 32))):=ae ⟨HR0.out,hA.keep HB0.out,HB0.out⟩;have zX:=ae hn;have um:=ae hup;clear h hz hA hn HR0 HB0 hup;by_cases hv:t.version=1
 ·have hpz:t.prev=aO:=HF.out.first hv;have hneq:∀W,(binOp .neq 24 (.agg (az t.prev).toArray) (.agg (az aO).toArray)).run Tryz.prog W= .ok (.bool false) W:=fun W=>by
   rw [hpz];unfold az;rw [run_neq_struct,Go.Proofs.YtdibbemgpikgjaaGreat.oh W aO rfl];simp [Result.andThen]
  have h32:(Tryz.prog.info? 24).map (·.size)=some (az t.prev).length:=by rw [show (az t.prev).length=32 by simp [az,HF.out.prev]];kernel_rfl
  have HP:=ae (pg t (.slice A n c) Jd.out.row);have SL:=ae h32;clear hpz h32;rw [qO] at hneq;go_enter Tryz.func19,Tryz.ntmps19;go_wp2_with (with_reducible refine dI 24 ?_;refine bC rfl _ _ rfl w.heap.size 4 rfl (az t.prev) HP.out _ Tryz.underlying24 rfl SL.out ?_);clear hneq
  go_loopw [3,56] (fun l i wr=>∃k:Nat,k≤n∧l= .string (gK zs k)∧i=I k∧TV w (ai t (.slice A n c)) A zs wr) (fun _ i _=>n - (intOf i).toNat)
  case atStart=>exact ⟨0,Nat.zero_le _,rfl,rfl,Jd.out⟩
  case round=>
   obtain ⟨k,hk,rfl,rfl,BX⟩:=hrel;have HV:=ae BX;have k1:=BX.row.2;have hlt1:=BX.row.1;clear BX Jd k0;by_cases hlt:k<n
   ·have hkz:k<zs.length:=by rw [zX.out];exact hlt
    obtain ⟨x,hx⟩:∃x,zs[k]? =some x:=⟨_,dE hkz⟩;obtain ⟨b,rfl,hbl,hr,hi⟩:∃b,A=some ⟨b,0,none⟩∧b<w.heap.size∧wr.rangeAt b (k*9) x.cells.toList∧fE wr w.heap.size x.s.A x.e.z.cal.au:=by
     rcases HV.out.mem with h|⟨b,h1,h2,h3⟩
     ·omega
     ·exact ⟨b,h1,h2,h3 k x hx⟩
    have i0:(0:Int)≤(k:Int):=by omega
    have i1:(k:Int)<(n:Int):=by omega
    have c0:wr.cell? ⟨b,k*9,none⟩=some (.string x.e.name):=hr 0 _ rfl;have c1:wr.cell? ⟨b,k*9+1,none⟩=some (I x.e.z.cal.aN):=hr 1 _ rfl;have c2:wr.cell? ⟨b,k*9+2,none⟩=some (.slice x.s.A x.e.z.cal.au.length x.s.a):=hr 2 _ rfl;have c3:wr.cell? ⟨b,k*9+3,none⟩=some (I x.e.z.cal.bu):=hr 3 _ rfl;have c4:wr.cell? ⟨b,k*9+4,none⟩=some (.slice x.s.B x.e.z.cal.rules.length x.s.b):=hr 4 _ rfl;have c5:wr.cell? ⟨b,k*9+5,none⟩=some (I x.e.z.start):=hr 5 _ rfl;have c6:wr.cell? ⟨b,k*9+6,none⟩=some (.slice x.s.C x.e.z.trans.length x.s.c):=hr 6 _ rfl;have c7:wr.cell? ⟨b,k*9+7,none⟩=some (I x.e.z.hor):=hr 7 _ rfl;have c8:wr.cell? ⟨b,k*9+8,none⟩=some (.slice x.s.D x.e.z.ay.length x.s.d):=hr 8 _ rfl;have HX:=ae hx;have HI:=ae hi;have hxm:x.e∈t.aS:=by rw [HZ.out];exact List.mem_map_of_mem (fK hx)
    have F7:=ae (HF.out.flat _ hxm);have q8:¬(32:Int)<(x.e.name.size:Int):=by have:=HF.out.short _ hxm;omega
    obtain ⟨s1,s2⟩:=um.out k x hx;obtain ⟨L,hL⟩:∃L,gK zs k=L:=⟨_,rfl⟩;have Jo:Hid (∀w',Below wr.heap.size wr w'→Calls Tryz.prog 39 #[.agg #[I x.e.z.cal.aN, .slice x.s.A x.e.z.cal.au.length x.s.a,I x.e.z.cal.bu, .slice x.s.B x.e.z.cal.rules.length x.s.b,I x.e.z.start, .slice x.s.C x.e.z.trans.length x.s.c,I x.e.z.hor, .slice x.s.D x.e.z.ay.length x.s.d]] w' (Gives (I 0) w')):=ae fun w' hb=>
     sW x.e.z x.s w' F7.out (((HI.out.more HV.out.up.size).keep hb).more hb.size)
    rw [hL] at s1 s2 ⊢;have hlb:b<wr.heap.size:=by omega
    have HB2:=ae (ag wr (.cells x.cells 55));have Ll:Hid (gK zs (k+1)=x.e.name):=ae (by show (zs[k]?.map (·.e.name)).getD ⟨#[]⟩=_;rw [hx];rfl);clear hx hr hi hxm hkz hL;go_wp2_with fail;refine (Jo.out _ HB2.out).mono ?_;rintro e w2 ⟨rfl,hb2⟩;have ni:=ae (HV.out.below (ah HB2.out hb2));have d0:w2.cell? ⟨wr.heap.size,0,none⟩=some (.string x.e.name):=((Row.new wr x.cells 55).keep hb2).2 0;clear hb2 c0 c1 c2 c3 c4 c5 c6 c7 c8 k1 Jo;go_wp2_with fail;go_roundw
    case rel=>exact ⟨k+1,by omega,by rw [Ll.out],by go_num,ni.out⟩
    case measure=>simp [intOf];omega
   ·go_wp2_with fail;go_ret;exact ⟨rfl,HV.out.up⟩
 ·go_enter Tryz.func19,Tryz.ntmps19;go_wp2_with fail
  go_loopw [3,56] (fun l i wr=>∃k:Nat,k≤n∧l= .string (gK zs k)∧i=I k∧TV w (ai t (.slice A n c)) A zs wr) (fun _ i _=>n - (intOf i).toNat)
  case atStart=>exact ⟨0,Nat.zero_le _,rfl,rfl,Jd.out⟩
  case round=>
   obtain ⟨k,hk,rfl,rfl,BX⟩:=hrel;have HV:=ae BX;have k1:=BX.row.2;have hlt1:=BX.row.1;clear BX Jd k0;by_cases hlt:k<n
   ·have hkz:k<zs.length:=by rw [zX.out];exact hlt
    obtain ⟨x,hx⟩:∃x,zs[k]? =some x:=⟨_,dE hkz⟩;obtain ⟨b,rfl,hbl,hr,hi⟩:∃b,A=some ⟨b,0,none⟩∧b<w.heap.size∧wr.rangeAt b (k*9) x.cells.toList∧fE wr w.heap.size x.s.A x.e.z.cal.au:=by
     rcases HV.out.mem with h|⟨b,h1,h2,h3⟩
     ·omega
     ·exact ⟨b,h1,h2,h3 k x hx⟩
    have i0:(0:Int)≤(k:Int):=by omega
    have i1:(k:Int)<(n:Int):=by omega
    have c0:wr.cell? ⟨b,k*9,none⟩=some (.string x.e.name):=hr 0 _ rfl;have c1:wr.cell? ⟨b,k*9+1,none⟩=some (I x.e.z.cal.aN):=hr 1 _ rfl;have c2:wr.cell? ⟨b,k*9+2,none⟩=some (.slice x.s.A x.e.z.cal.au.length x.s.a):=hr 2 _ rfl;have c3:wr.cell? ⟨b,k*9+3,none⟩=some (I x.e.z.cal.bu):=hr 3 _ rfl;have c4:wr.cell? ⟨b,k*9+4,none⟩=some (.slice x.s.B x.e.z.cal.rules.length x.s.b):=hr 4 _ rfl;have c5:wr.cell? ⟨b,k*9+5,none⟩=some (I x.e.z.start):=hr 5 _ rfl;have c6:wr.cell? ⟨b,k*9+6,none⟩=some (.slice x.s.C x.e.z.trans.length x.s.c):=hr 6 _ rfl;have c7:wr.cell? ⟨b,k*9+7,none⟩=some (I x.e.z.hor):=hr 7 _ rfl;have c8:wr.cell? ⟨b,k*9+8,none⟩=some (.slice x.s.D x.e.z.ay.length x.s.d):=hr 8 _ rfl;have HX:=ae hx;have HI:=ae hi;have hxm:x.e∈t.aS:=by rw [HZ.out];exact List.mem_map_of_mem (fK hx)
    have F7:=ae (HF.out.flat _ hxm);have q8:¬(32:Int)<(x.e.name.size:Int):=by have:=HF.out.short _ hxm;omega
    obtain ⟨s1,s2⟩:=um.out k x hx;obtain ⟨L,hL⟩:∃L,gK zs k=L:=⟨_,rfl⟩;have Jo:Hid (∀w',Below wr.heap.size wr w'→Calls Tryz.prog 39 #[.agg #[I x.e.z.cal.aN, .slice x.s.A x.e.z.cal.au.length x.s.a,I x.e.z.cal.bu, .slice x.s.B x.e.z.cal.rules.length x.s.b,I x.e.z.start, .slice x.s.C x.e.z.trans.length x.s.c,I x.e.z.hor, .slice x.s.D x.e.z.ay.length x.s.d]] w' (Gives (I 0) w')):=ae fun w' hb=>
     sW x.e.z x.s w' F7.out (((HI.out.more HV.out.up.size).keep hb).more hb.size)
    rw [hL] at s1 s2 ⊢;have hlb:b<wr.heap.size:=by omega
    have HB2:=ae (ag wr (.cells x.cells 55));have Ll:Hid (gK zs (k+1)=x.e.name):=ae (by show (zs[k]?.map (·.e.name)).getD ⟨#[]⟩=_;rw [hx];rfl);clear hx hr hi hxm hkz hL;go_wp2_with fail;refine (Jo.out _ HB2.out).mono ?_;rintro e w2 ⟨rfl,hb2⟩;have ni:=ae (HV.out.below (ah HB2.out hb2));have d0:w2.cell? ⟨wr.heap.size,0,none⟩=some (.string x.e.name):=((Row.new wr x.cells 55).keep hb2).2 0;clear hb2 c0 c1 c2 c3 c4 c5 c6 c7 c8 k1 Jo;go_wp2_with fail;go_roundw
    case rel=>exact ⟨k+1,by omega,by rw [Ll.out],by go_num,ni.out⟩
    case measure=>simp [intOf];omega
   ·go_wp2_with fail;go_ret;exact ⟨rfl,HV.out.up⟩
end Go.Proofs.YtdibbemgpikgjaaGreat
namespace Go.Proofs.YtdibbemgpikgjaaGreat
open Go Go.RowKit
attribute [local go_sem] lV lZ lW l7 pY qc lT lX lU lY
theorem Jz (t:Tb) (A:Option Addr) (c lo:Nat) (zs:List dm) (w:World) (hz:∀x∈zs,gZ x.e.z) (hn1:zs.length≤128) (h32:t.prev.length=32) (hm:t.bK.length=32) (hO:gX lo w (.slice A zs.length c) zs):
  Calls Tryz.prog 22 #[.agg (ai t (.slice A zs.length c))] w (ClT w t zs):=by
 rcases hO.form with ⟨h1,h2⟩|⟨h1,g,c',h2,h3,h4⟩
 ·subst h1;rw [h2];exact GU t h32 hm w
 ·injection h2 with e1 e2 e3;subst e1 e3;exact GV t g c zs.length zs w (fun x hx=>⟨hz x hx,hO.Zx x hx⟩) rfl h1 hn1 h32 hm (fun j u hu=>jW hO.row j u hu) h4 (fun x hx=>(hO.au x hx).ints)
def fP (zs:List Ze):List UInt8:=zs.flatMap nS
theorem FK (zs:List Ze) (x:Ze):fP (zs++ [x])=fP zs++nS x:=by simp [fP]
theorem yP (zs:List Ze) (h:∀e∈zs,gZ e.z∧e.name.size≤32):(fP zs).length≤zs.length*69:=by
 induction zs with
 |nil=>exact Nat.zero_le _
 |cons x zs ih=>
  have h1:=ih fun e he=>h e (List.mem_cons_of_mem _ he);have h2:=BN x (h x List.mem_cons_self).1 (h x List.mem_cons_self).2;unfold fP at h1 ⊢;rw [List.flatMap_cons,bJ,List.length_cons];omega
def WzRel (w:World) (g:Nat) (v:Value) (bs:List UInt8) (n:Nat) (zs:List Ze) (i:Value) (wr:World):Prop:=
 ∃k:Nat,k≤n∧i= .int .i64 k∧∃v',eu wr g v' (bs++(le n 1++fP (zs.take k)))∧iy g v w v' wr
theorem wS (w:World) (g lb lo:Nat) (A:Option Addr) (c:Nat) (v:Value) (bs:List UInt8) (hp:w.cell? ⟨lb,lo,none⟩=some (.slice A 0 c)) (hl:bs.length≤100000000) (hst:eu w g v bs):
  Calls Tryz.prog 42 #[.iface 71 (pt g), .pointer (some ⟨lb,lo,none⟩),I 1, .func (.func 43) #[] #[]] w (eG w g v (bs++le 0 1)):=by
 have HC:=ae (fG w.drew g v bs 0 1 (by omega) (by omega) (by omega) (by omega) hst.drew);clear hst;go_enter Tryz.func42,Tryz.ntmps42;go_wp2_with fail;go_still_tail 9,(by kernel_rfl);go_wp2_with fail;refine HC.out.mono ?_;rintro e w1 ⟨rfl,v1,hs1,hk1⟩;have jQ:=ae hs1;have iP:=ae (aI hk1);clear hs1 hk1 HC hp;go_wp2_with fail
 go_loop [22] (fun i=>i= .int .i64 0) (fun _=>0)
 case atStart=>rfl
 case round=>
  subst hrel;go_wp2_with fail
  go_end0
  exact ⟨rfl,v1,jQ.out,iP.out⟩
theorem Fz (w:World) (g lb lo zg n c:Nat) (zs:List dm) (v:Value) (bs:List UInt8) (hn:zs.length=n) (hn2:n≤128) (hp:w.cell? ⟨lb,lo,none⟩=some (.slice (some ⟨zg,0,none⟩) n c)) (JG:lb<g) (hzg:zg<g)
  (hcl:∀j u,(aP zs)[j]? =some u→w.cell? ⟨zg,j,none⟩=some u) (hfz:∀j,w.frozen? ⟨zg,j,none⟩=false) (hfl:∀x∈zs,gZ x.e.z∧x.e.name.size≤32) (hI:∀x∈zs,fE w g x.s.A x.e.z.cal.au)
  (hl:bs.length≤1000000) (hst:eu w g v bs):
  Calls Tryz.prog 42 #[.iface 71 (pt g), .pointer (some ⟨lb,lo,none⟩),I 1, .func (.func 43) #[] #[]] w (eG w g v (bs++(le n 1++fP (zs.map (·.e))))):=by
 have HC:=ae (fG w.drew g v bs n 1 (by omega) (by omega) (by omega) (by omega) hst.drew);have HST:=ae hst;have HN:=ae hn;have HF:=ae hfl;have fU:=ae hcl;have HFZ:=ae hfz;have HI:=ae hI;have HP:=ae hp;have hgl:=hst.lt;clear hst hn hfl hcl hfz hI;go_enter Tryz.func42,Tryz.ntmps42;go_wp2_with fail;go_still_tail 9,(by kernel_rfl);go_wp2_with fail;refine HC.out.mono ?_;rintro e w1 ⟨rfl,v1,hs1,hk1⟩;have jQ:=ae hs1;have iP:=ae (aI hk1);clear hs1 hk1 HC hp;go_wp2_with fail
 go_loopw [22] (fun i wr=>WzRel w g v bs n (zs.map (·.e)) i wr) (fun i _=>n - (intOf i).toNat)
 case atStart=>exact ⟨0,Nat.zero_le _,rfl,v1,by simpa [fP] using jQ.out,iP.out⟩
 case round=>
  obtain ⟨k,hk,rfl,v2,hs2,hk2⟩:=hrel;have hb2:=bD HST.out hk2;have HB2:=ae hb2;have HS2:=ae hs2;have jc:=ae hk2;have hp2:wr.cell? ⟨lb,lo,none⟩=some (.slice (some ⟨zg,0,none⟩) n c):=(hb2.cell (p:=⟨lb,lo,none⟩) JG).trans HP.out;clear hs2 hk2 hb2 jQ iP;by_cases hlt:k<n
  ·have hkz:k<zs.length:=by rw [HN.out];exact hlt
   obtain ⟨x,hx⟩:∃x,zs[k]? =some x:=⟨_,dE hkz⟩;have hxm:=fK hx;have hlen:(bs++(le (n:Int) 1++fP ((zs.map (·.e)).take k))).length≤9000000:=by
    have h1:=yP ((zs.map (·.e)).take k) fun e he=>by
     obtain ⟨y,hy,rfl⟩:=List.mem_map.1 (List.mem_of_mem_take he);exact HF.out y hy
    have h2:((zs.map (·.e)).take k).length≤128:=by rw [List.length_take,List.length_map,HN.out];omega
    simp only [bJ,aA];omega
   have HM:=ae (IC wr g zg (k*9) x v2 _ (HF.out x hxm).1 (HF.out x hxm).2 (fun j u hu=>(HB2.out.cell (p:=⟨zg,k*9+j,none⟩) hzg).trans (fU.out _ _ (by
    have hj:j<9:=(iU.1 hu).1;rw [kR zs k j x hx hj];simpa using hu))) ((HB2.out.frozen (p:=⟨zg,k*9+1+2,none⟩) hzg).trans (HFZ.out _)) hzg ((HI.out x hxm).keep HB2.out) hlen HS2.out)
   have HX:=ae hx;have i0:(0:Int)≤(k:Int):=by omega
   have i1:(k:Int)<(n:Int):=by omega
   have i2:((k:Int)==(n:Int))=false:=by simp;omega
   clear hkz hx hlen hxm;go_wp2_with fail;refine HM.out.mono ?_;rintro e w3 ⟨rfl,v3,hs3,hk3⟩;have mZ:=ae hs3;have kU:=ae (jc.out.trans hk3);clear hs3 hk3 hp2;go_wp2_with fail;go_roundw
   case rel=>exact ⟨k+1,by omega,by go_num,v3,by rw [iw (zs.map (·.e)) k x.e (by rw [List.getElem?_map,HX.out];rfl),FK,←List.append_assoc (le _ _),←List.append_assoc];exact mZ.out,kU.out⟩
   case measure=>simp [intOf];omega
  ·have hkn:k=n:=by omega
   have lG:=ae hkn;clear hkn;go_wp2_with fail
   go_end0
   exact ⟨rfl,v2,by have h:=HS2.out;rwa [lG.out,List.take_of_length_le (by rw [List.length_map,HN.out];exact Nat.le_refl _)] at h,jc.out⟩
structure Dz (g:Nat) (w:World) (A:Option Addr) (zs:List dm):Prop where
 row:zs.length=0∨∃zg,A=some ⟨zg,0,none⟩∧zg<g∧(∀j u,(aP zs)[j]? =some u→w.cell? ⟨zg,j,none⟩=some u)∧∀j,w.frozen? ⟨zg,j,none⟩=false
 au:∀x∈zs,fE w g x.s.A x.e.z.cal.au
theorem Dz.keep {g:Nat} {w w':World} {A:Option Addr} {zs:List dm} (h:Dz g w A zs) (hb:Below g w w'):Dz g w' A zs:=
 ⟨h.row.elim .inl fun ⟨zg,h1,h2,h3,h4⟩=> .inr ⟨zg,h1,h2,fun j u hu=>(hb.cell (p:=⟨zg,j,none⟩) h2).trans (h3 j u hu),fun j=>(hb.frozen (p:=⟨zg,j,none⟩) h2).trans (h4 j)⟩,fun x hx=>(h.au x hx).keep hb⟩
theorem gX.low {lo n c:Nat} {w:World} {A:Option Addr} {zs:List dm} (h:gX lo w (.slice A n c) zs):Dz w.heap.size w A zs:=by
 refine ⟨?_,fun x hx=>(h.au x hx).ints⟩;rcases h.form with ⟨h1,_⟩|⟨_,g,c',h2,_,h4⟩
 ·exact .inl (by rw [h1];rfl)
 ·injection h2 with e1 e2 e3;subst e1 e2;exact .inr ⟨g,rfl,h4,fun j u hu=>jW h.row j u hu,wF h.row⟩
def ed (t:Tb):List UInt8:=le t.bz 1++(le t.version 1++(le t.aJ 1++(t.prev++(le t.aS.length 1++fP t.aS))))
theorem Ij (t:Tb) (h:kG t):36≤(ed t).length∧(ed t).length≤9000:=by
 have h1:=yP t.aS fun e he=>⟨h.flat e he,h.short e he⟩;have h2:=h.num;have h3:=h.prev;simp only [ed,bJ,aA];omega
theorem IG (w:World) (g lb lo n c:Nat) (A:Option Addr) (zs:List dm) (v:Value) (bs:List UInt8) (hn:zs.length=n) (hn2:n≤128) (hp:w.cell? ⟨lb,lo,none⟩=some (.slice A n c)) (JG:lb<g) (hz:Dz g w A zs) (hfl:∀x∈zs,gZ x.e.z∧x.e.name.size≤32)
  (hl:bs.length≤1000000) (hst:eu w g v bs):
  Calls Tryz.prog 42 #[.iface 71 (pt g), .pointer (some ⟨lb,lo,none⟩),I 1, .func (.func 43) #[] #[]] w (eG w g v (bs++(le n 1++fP (zs.map (·.e))))):=by
 by_cases h0:n=0
 ·subst h0;have:=wS w g lb lo A c v bs hp (by omega) hst;rw [List.eq_nil_of_length_eq_zero hn];simpa [fP] using this
 ·rcases hz.row with h|⟨zg,rfl,h2,h3,h4⟩
  ·omega
  ·exact Fz w g lb lo zg n c zs v bs hn hn2 hp JG h2 h3 h4 hfl hz.au hl hst
attribute [local go_sem] jY jZ ku bH
theorem IJ (w:World) (g tb n c:Nat) (t:Tb) (A:Option Addr) (zs:List dm) (v:Value) (h:kG t) (hzz:t.aS=zs.map (·.e)) (hn:zs.length=n) (htb:tb<g) (hr:Row w tb (ai t (.slice A n c))) (hz:Dz g w A zs) (hst:eu w g v []):
  Calls Tryz.prog 23 #[.iface 71 (pt g), .pointer (some ⟨tb,0,none⟩)] w (eG w g v (ed t)):=by
 have hgl:=hst.lt;have c0:=hr.2 0;have c1:w.cell? ⟨tb,1,none⟩=some (I t.version):=(hr.2 1).trans (jZ _ _);have c2:w.cell? ⟨tb,2,none⟩=some (I t.aJ):=(hr.2 2).trans (ku _ _);have c3:w.cell? ⟨tb,3,none⟩=some (.slice A n c):=(hr.2 3).trans (bH _ _);have hn2:n≤128:=by have:=h.num;rw [hzz,List.length_map] at this;omega
 have q1:=h.bz;have q2:=h.version;have q3:=h.aJ;have jf:=ae (bP w.drew g ⟨tb,0,none⟩ v [] t.bz 1 (by omega) (by omega) (by omega) (by decide) hst.lt hst.drew (c0.trans (jY _ _)));have ZZ:=ae (pg t (.slice A n c) hr);have HST:=ae hst;have HF:=ae h;have HZ:=ae hz;have Yj:=ae hzz;have HN:=ae hn;have zU:Hid (∀j u,Below g w u→u.cell? ⟨tb,j,none⟩=w.cell? ⟨tb,j,none⟩):=ae fun j u hb=>hb.cell (p:=⟨tb,j,none⟩) htb;have F7:Hid (∀x∈zs,gZ x.e.z∧x.e.name.size≤32):=ae fun x hx=>by
  have hm:x.e∈t.aS:=by rw [hzz];exact List.mem_map_of_mem hx
  exact ⟨h.flat _ hm,h.short _ hm⟩
 clear h hr hst hz hzz hn c0;go_enter Tryz.func23,Tryz.ntmps23;go_wp2_with fail;go_still_tail 7,(by kernel_rfl);go_wp2_with fail;refine jf.out.mono ?_;rintro e w1 ⟨rfl,v1,hs1,hk1⟩;obtain ⟨B1,hB1⟩:∃B,[]++le t.bz 1=B:=⟨_,rfl⟩;have hl1:B1.length≤1:=by rw [←hB1];simp [aA]
 rw [hB1] at hs1;have hb1:=bD HST.out (aI hk1);have HB1:=ae hb1;have jQ:=ae hs1;have iP:=ae (aI hk1);have oG:=ae hB1;have HC2:=ae (bP w1.drew g ⟨tb,1,none⟩ v1 B1 t.version 1 (by omega) (by omega) (by omega) (by omega) hs1.lt hs1.drew ((zU.out _ _ hb1).trans c1));clear hs1 hk1 hb1 jf hB1 c1;go_wp2_with fail;go_still_tail 7,(by kernel_rfl);go_wp2_with fail;refine HC2.out.mono ?_;rintro e w2 ⟨rfl,v2,hs2,hk2⟩;obtain ⟨B2,hB2⟩:∃B,B1++le t.version 1=B:=⟨_,rfl⟩;have hl2:B2.length≤2:=by rw [←hB2,bJ,aA];omega
 rw [hB2] at hs2;have hb2:=HB1.out.trans (bD jQ.out (aI hk2));have HB2:=ae hb2;have HS2:=ae hs2;have jc:=ae (iP.out.trans (aI hk2));have lL:=ae hB2;have oD:=ae (bP w2.drew g ⟨tb,2,none⟩ v2 B2 t.aJ 1 (by omega) (by omega) (by omega) (by omega) hs2.lt hs2.drew ((zU.out _ _ hb2).trans c2));clear hs2 hk2 hb2 HC2 hB2 c2;go_wp2_with fail;go_still_tail 7,(by kernel_rfl);go_wp2_with fail;refine oD.out.mono ?_;rintro e w3 ⟨rfl,v3,hs3,hk3⟩;obtain ⟨B3,hB3⟩:∃B,B2++le t.aJ 1=B:=⟨_,rfl⟩;have hl3:B3.length≤3:=by rw [←hB3,bJ,aA];omega
 rw [hB3] at hs3;have hb3:=HB2.out.trans (bD HS2.out (aI hk3));have HB3:=ae hb3;have mZ:=ae hs3;have kU:=ae (jc.out.trans (aI hk3));have zZ:=ae hB3;have oM:=ae (yJ w3.drew g tb 4 v3 B3 t.prev (by omega) (fun j u hu=>(zU.out _ _ hb3).trans (ZZ.out j u hu)) HF.out.prev hs3.drew);clear hs3 hk3 hb3 oD hB3;go_wp2_with fail;go_still_tail 7,(by kernel_rfl);go_wp2_with fail;refine oM.out.mono ?_;rintro e w4 ⟨rfl,v4,hs4,hk4⟩;obtain ⟨B4,hB4⟩:∃B,B3++t.prev=B:=⟨_,rfl⟩;have hl4:B4.length≤35:=by rw [←hB4,bJ,HF.out.prev];omega
 rw [hB4] at hs4;have hb4:=HB3.out.trans (bD mZ.out (aI hk4));have yf:=ae hs4;have IX:=ae (kU.out.trans (aI hk4));have S9:=ae hB4;have wW:=ae (IG w4 g tb 3 n c A zs v4 B4 HN.out hn2 ((zU.out _ _ hb4).trans c3) htb (HZ.out.keep hb4) F7.out (by omega) hs4);clear hs4 hk4 hb4 oM hB4 c3;go_wp2_with fail;refine wW.out.mono ?_;rintro e w5 ⟨rfl,v5,hs5,hk5⟩;have rC:=ae hs5;have tu:=ae (IX.out.trans hk5);clear hs5 hk5 wW;go_wp2_with fail
 go_end0
 refine ⟨rfl,v5,?_,tu.out⟩;have hh:=rC.out;rw [←S9.out,←zZ.out,←lL.out,←oG.out] at hh;unfold ed;rw [Yj.out,List.length_map,HN.out];simpa only [List.append_assoc,List.nil_append] using hh
end Go.Proofs.YtdibbemgpikgjaaGreat
