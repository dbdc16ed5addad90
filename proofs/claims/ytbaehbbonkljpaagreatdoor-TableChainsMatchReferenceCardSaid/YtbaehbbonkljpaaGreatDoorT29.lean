/- The texts TrZ, TrW, BEq, TrR, Lc, DgR, in this order. -/
import Derived.Test.YtbaehbbonkljpaaGreatDoorT28
set_option maxRecDepth 10000
set_option maxHeartbeats 8000000
namespace Go.Proofs.YtbaehbbonkljpaaGreatDoor
open Go Go.RowKit
section
attribute [local go_sem] Oa Og Ob Oh PX PZ N8 Oc N9 Oe
theorem Vz (ls bs:ag ah)(j:Nat)(v:ah)(hj:j<bs.length):(ls++bs).set (ls.length+j) v=ls++bs.set j v:=by
 have h:=set_mid ls bs [] j v hj;rw[iq,iq] at h;exact h
def aim (xs:ag ah)(eo:Nat)(e:Ze)(A:aj Addr)(a:Nat):ag ah:=
 (((((xs.set eo (.string e.name)).set (eo+1) (I e.z.cal.KI)).set (eo+1+1) (.slice A e.z.cal.JQ.length a)).set (eo+1+2) (I (-1))).set (eo+1+4) (I e.z.start)).set (eo+1+6) (I e.z.hor)
theorem ain (cs:ax ah)(eo m:Nat)(e:Ze)(A:aj Addr)(a:Nat):(U9 cs eo e A a).toList.take m=aim (cs.toList.take m) eo e A a:=by
 unfold U9 aim;simp only[jR,oC]
theorem aks (ys:ag L9)(x:Ze)(hx:Tz x.z)(A:aj Addr)(a:Nat):aim (KC ys++Qr.toList) (ys.length*9) x A a=KC (ys++ [⟨x,⟨A,a,none,0,none,0,none,0⟩⟩]):=by
 rw[aeM];unfold aim;rw[<-MB];have h9:Qr.toList.length=9:=rfl;have e0:(KC ys).length=(KC ys).length+0:=rfl;rw[e0,Vz _ _ 0 _ (by omega),jX,Vz _ _ 1 _ (by simp[h9])];rw[show(KC ys).length+1+1=(KC ys).length+2 from rfl,Vz _ _ 2 _ (by simp[h9])];rw[show(KC ys).length+1+2=(KC ys).length+3 from rfl,Vz _ _ 3 _ (by simp[h9])];rw[show(KC ys).length+1+4=(KC ys).length+5 from rfl,Vz _ _ 5 _ (by simp[h9])];rw[show(KC ys).length+1+6=(KC ys).length+7 from rfl,Vz _ _ 7 _ (by simp[h9])];congr 1;unfold KC L9.cells Qr;simp[hx.cal.le,hx.cal.ru,hx.trans,hx.J6]
theorem aoi {W W':ae}{lo g n m cap rb eo:Nat}{xs:ag ah}{e:Ze}{A:aj Addr}{a:Nat}{cur:ax ah}(h:W.ownsRow lo 76 9 (.slice (some ⟨g,0,none⟩) n cap) m xs)(hg:W.heap[g]? =some (.cells cur 76 (0,0)))(hp:Md W rb g 76 (U9 cur eo e A a) W'):
  W'.ownsRow lo 76 9 (.slice (some ⟨g,0,none⟩) n cap) m (aim xs eo e A a):=by
 obtain⟨cur',h1,h2,h3,h4,h5,h6,h7,rfl⟩:=RH h;rw[hg] at h1;injection h1 with h1;injection h1 with h1;subst h1;refine af4 hp.tgt h2 h3 h4 ?_ (by rw[ain,h6]) (by unfold aim;simp only[eu];exact h7);unfold U9;simp only[di];exact h5
def avW (M:Nat)(w:ae)(rb pb po:Nat)(t:TypeId)(cs:ax ah)(n:Nat)(zs:ag Ze)(R:ag au)(i:ah)(wr:ae):Prop:=
 ∃(k:Nat) (A:aj Addr) (c:Nat) (ys:ag L9),k<=n/\i=.int .i64 k/\ys.length=k/\ys.map (·.e)=zs.take k/\PV M wr rb (RN (zs.drop k)++R)/\Md w rb pb t (cs.setIfInBounds po (.slice A k c)) wr/\
  wr.ownsRow w.heap.size 76 9 (.slice A k c) k (KC ys)/\(∀y∈ys,agX y.s/\∃g,A=some ⟨g,0,none⟩/\LX w.heap.size g wr y.s.A y.e.z.cal.JQ)/\(k=0->A=none/\c=0)
def azW (M:Nat)(w:ae)(rb pb po:Nat)(t:TypeId)(cs:ax ah)(zs:ag Ze)(n:Nat)(R:ag au)(e:Ending)(w':ae):Prop:=
 e=.returned (.tuple #[])/\∃A c ys,PV M w' rb R/\Md w rb pb t (cs.setIfInBounds po (.slice A n c)) w'/\OI w.heap.size w' (.slice A n c) ys/\ys.map (·.e)=zs
theorem alS (M:Nat)(w:ae)(rb pb po n:Nat)(t:TypeId)(cs:ax ah)(zs:ag Ze)(R:ag au)(hn:zs.length=n)(hn2:n<=128)(hfl:∀x∈zs,Tz x.z/\x.name.size<=32)(hr:PV M w rb ((le n 1++RN zs)++R))(hp:w.heap[pb]? =some (.cells cs t (0,0)))(hpo:cs[po]? =some (.slice none 0 0))(hMp:M<=pb)(hne:pb≠rb):
  Calls Tryz.prog 64 #[.iface 134 (pt rb),.pointer (some ⟨pb,po,none⟩),I 1,.func (.func 65) #[] #[]] w (azW M w rb pb po t cs zs n R):=by
 rw[aH] at hr;have hpl:pb<w.heap.size:=(KY.1 hp).1;have hlo:=hr.lo;have hrl:=hr.lt;have hcs:cs.setIfInBounds po (.slice none 0 0)=cs:=by
  apply jG;intro i;rw[iZ];split
  ·rename_i e;subst e;split
   ·exact hpo.symm
   ·rename_i e2;rw[iI (by omega)] at hpo;cases hpo
  ·rfl
 have hc0:w.cell? ⟨pb,po,none⟩=some (.slice none 0 0):=(aC w pb po _ _ _ hp).trans hpo;have hpos:po<cs.size:=(KY.1 hpo).1;have HC:=JJ (Px M w.drew rb 1 0 n n (RN zs++R) hr.drew (by omega) (Td _ (by omega) (by omega) _));have HP:Hid (Md w rb pb t (cs.setIfInBounds po (.slice none 0 0)) w):=JJ (by rw[hcs];exact Md.refl hp);have HN:=JJ hn;have HF:=JJ hfl;clear hr hp hpo hcs hn hfl;obtain⟨i0,hi,hz0,hz1,hz2⟩:=dN YV;go_enter nN,mP;go_wp2_with fail;go_still_tail 9,(by kernel_rfl);go_wp2_with fail;refine HC.out.mono ?_;rintro e w1 ⟨rfl,hr1,hk1⟩;have HR1:=JJ hr1;have WZ:=JJ (HP.out.drew.Vd hk1 hpl hne);clear hr1 hk1 HC hc0;go_wp2_with fail
 go_loopw [22] (fun i wr=>avW M w rb pb po t cs n zs R i wr) (fun i _=>n - (intOf i).toNat)
 case atStart=>exact⟨0,none,0,[],aG _,rfl,rfl,rfl,HR1.out,WZ.out,dD _ _ _ _,(fun _ h=>nomatch h),fun _=>⟨rfl,rfl⟩⟩
 case round=>
  obtain⟨k,A,c,ys,hk,rfl,hyl,hye,hr,hp,hown,hym,hnl⟩:=hrel;have HR:=JJ hr;have Zd:=JJ hp;have HO:=JJ hown;have SN:=JJ hyl;have HYE:=JJ hye;have HYM:=JJ hym;have HNL:=JJ hnl;have hcp:wr.cell? ⟨pb,po,none⟩=some (.slice A k c):=(hp.cell po).trans (by simp[hpos]);have hsw:=hp.size;clear hr hp hown hyl hye hym hnl HR1 WZ HP;by_cases hlt:k<n
  ·have i0':(0:Int)<=(k:Int):=by omega
   have i1:(k:Int)<(n:Int):=by omega
   have hkz:k<zs.length:=by rw[HN.out];exact hlt
   obtain⟨x,hx⟩:∃x,zs[k]? =some x:=⟨_,KL hkz⟩;have hxf:=HF.out x (LQ hx);have HX:=JJ hx;have HXF:=JJ hxf;clear hx hxf;have aqQ:Hid (∀j u,Qr.toList[j]? =some u->(((wr.alloc (.cells Qr 76)).alloc (.cells Qr 76)).drew).cell? ((⟨wr.heap.size+1,0,none⟩:Addr).add j)=some u):=JJ fun j u hu=>by
    rw[addr_add];have h:=(Row.new (wr.alloc (.cells Qr 76)) Qr 76).2 j;rw[dO] at h;exact h.trans (by simpa using hu)
   have afd:Hid (∀u∈Qr.toList,u.oneCell'=true):=JJ (by
    intro u hu;have h:Qr.all (·.oneCell')=true:=by kernel_rfl
    rw[dS] at h;exact h u (by simpa using hu))
   have aAw:pb<wr.heap.size:=by omega
   have hmx:k+1<=maxLen:=by unfold maxLen;omega
   have hby:(k+1)*144<=140737488355328:=by omega
   have HBS:Hid (w.heap.size<=(((wr.alloc (.cells Qr 76)).alloc (.cells Qr 76)).drew).heap.size):=JJ (by simp;omega);have L6:Hid ((((wr.alloc (.cells Qr 76)).alloc (.cells Qr 76)).drew).heap.size=wr.heap.size+2):=JJ (by simp);have HOO:Hid ((((wr.alloc (.cells Qr 76)).alloc (.cells Qr 76)).drew).ownsRow w.heap.size 76 9 (.slice A k c) k (KC ys)):=JJ ((HO.out.alloc _).alloc _).drew;have am6:Hid (∀b,b<wr.heap.size->(((wr.alloc (.cells Qr 76)).alloc (.cells Qr 76)).drew).heap[b]? =wr.heap[b]?):=JJ fun b hb=>(aV (wr.alloc (.cells Qr 76)) _ b (by simp;omega)).trans (aV wr _ b hb);go_wp2_with fail
   go_region_law (refine fP _ (by rfl) _ _ _ (by rfl) w.heap.size 76 i0 (.agg Qr) 9 144 iY hi hz0 hz1 hz2 (by rfl) (by omega) (.slice A k c) k (KC ys) (by rfl) HOO.out ⟨wr.heap.size+1,0,none⟩ 1 1 Qr.toList (by rfl) (by rfl) aqQ.out afd.out (by omega) hmx hby HBS.out (wr.heap.size+2) L6.out ?_;intro g2 c2 w2 hown2 hgrow2 afK hlt2;have hbw:∀b,b<w.heap.size->w2.heap[b]? =wr.heap[b]? :=fun b hb=>(hgrow2.block b (lQ (show b<wr.heap.size+2 by omega) L6.out.symm) (MV HO.out b hb)).trans (am6.out b (by omega));have HP2:Hid (w2.heap[pb]? =some (.cells (cs.setIfInBounds po (.slice A k c)) t (0,0))):=JJ ((hbw pb hpl).trans Zd.out.tgt);have hcp2:w2.cell? ⟨pb,po,none⟩=some (.slice A k c):=(aC w2 pb po _ _ _ HP2.out).trans (by simp[hpos]);have anV:=aP w2 pb po _ _ HP2.out;have Rx:=JJ hbw;have SI:=JJ hown2;have HG2:=JJ hgrow2;have HA2:=JJ afK;clear hbw hown2 hgrow2 afK)
   all_goals
    have hs2:wr.heap.size+2<=w2.heap.size:=aO (iT L6.out.symm) HG2.out.size;have hkeep:∀b,b<wr.heap.size->some b≠(Value.slice A k c).ownBlock->w2.heap[b]? =wr.heap[b]? :=fun b hb hne=>(HG2.out.block b (lQ (show b<wr.heap.size+2 by omega) L6.out.symm) hne).trans (am6.out b hb);have hlo2:=Qx SI.out;have hP3:Md w rb pb t (cs.setIfInBounds po (.slice (some ⟨g2,0,none⟩) (k+1) c2)) (w2.setCell ⟨pb,po,none⟩ (.slice (some ⟨g2,0,none⟩) (k+1) c2)):=by
     have h:Md w rb pb t (cs.setIfInBounds po (.slice A k c)) w2:=⟨HG2.out.os.trans Zd.out.os,HG2.out.tape.trans Zd.out.tape,HG2.out.output.trans Zd.out.output,by omega,fun b hb h1 h2=>(Rx.out b hb).trans (Zd.out.block b hb h1 h2),HP2.out⟩;have h:=h.put po (.slice (some ⟨g2,0,none⟩) (k+1) c2)
     rwa [gq] at h
    have hR3:PV M (w2.setCell ⟨pb,po,none⟩ (.slice (some ⟨g2,0,none⟩) (k+1) c2)) rb (RN (zs.drop k)++R):=(HR.out.of (Rx.out rb hrl) fun b hb=>Rx.out b (by omega)).put hMp hne _;have hO3:(w2.setCell ⟨pb,po,none⟩ (.slice (some ⟨g2,0,none⟩) (k+1) c2)).ownsRow w.heap.size 76 9 (.slice (some ⟨g2,0,none⟩) (k+1) c2) (k+1) (KC ys++Qr.toList):=Nl (p:=⟨pb,po,none⟩) SI.out (by intro e;injection e with e;simp only at e;omega);have hM3:∀y∈ys,agX y.s/\LX w.heap.size g2 (w2.setCell ⟨pb,po,none⟩ (.slice (some ⟨g2,0,none⟩) (k+1) c2)) y.s.A y.e.z.cal.JQ:=by
     intro y hy;obtain⟨h1,g,hA,b,off,b1,b2,b3,b4,b5⟩:=HYM.out y hy;have hne1:some b≠(Value.slice A k c).ownBlock:=by
      rw[hA];intro e;injection e with e;exact b4 e
     refine⟨h1,b,off,b1,b2,by simp[World.setCell];omega,?_,fun j hj=>?_⟩
     ·rcases HA2.out with h|h
      ·rw[hA] at h;injection h with h;intro e;exact b4 (e.trans h.symm)
      ·omega
     ·exact(bI (a:=⟨b,off+j,none⟩) ((aN w2 _ b _ (by show b≠pb;omega)).trans (hkeep b b3 hne1))).trans (b5 j hj)
    have SG:=JJ hP3;have HR3:=JJ hR3;have VJ:=JJ hO3;have HM3:=JJ hM3;clear hkeep hP3 hR3 hO3 hM3 HP2 Rx SI HG2 HA2 hcp;go_wp2_with fail;obtain⟨w3,hw3⟩:∃W,w2.setCell ⟨pb,po,none⟩ (.slice (some ⟨g2,0,none⟩) (k+1) c2)=W:=⟨_,rfl⟩;rw[hw3] at SG HR3 VJ HM3⊢;obtain⟨cur,q1,q2,q3,q4,q5,q6,q7,_⟩:=RH VJ.out;have hcz:RN (zs.drop k)++R=Y3 x++(RN (zs.drop (k+1))++R):=by
     have hd:zs.drop k=x::zs.drop (k+1):=by
      rw[eF hkz];have h:=HX.out;rw[KL hkz] at h;injection h with h;rw[h]
     rw[hd];simp[RN]
    have hr3:=HR3.out;rw[hcz] at hr3;have hzz:∀j,j<9->cur[k*9+j]? =Qr[j]? :=fun j hj=>by
     have h:(cur.toList.take ((k+1)*9))[k*9+j]? =(KC ys++Qr.toList)[k*9+j]? :=by rw[q6]
     rw[dK (by omega),bH (by rw[MB,SN.out];omega),MB,SN.out,show k*9+j - k*9=j by omega] at h;simpa using h
    refine(acM M w3 rb g2 (k*9) 76 cur x _ HXF.out.1 HXF.out.2 hr3 q1 hzz (by omega) (by omega)).mono ?_;rintro e w4 ⟨rfl,A4,a4,hr4,U0,ho4⟩;have hO4:=aoi VJ.out q1 U0;rw[<-SN.out,aks ys x HXF.out.1 A4 a4,SN.out] at hO4;have hP4:Md w rb pb t (cs.setIfInBounds po (.slice (some ⟨g2,0,none⟩) (k+1) c2)) w4:=⟨U0.os.trans SG.out.os,U0.tape.trans SG.out.tape,U0.output.trans SG.out.output,aO SG.out.size U0.size,fun b hb h1 h2=>(U0.block b (LK hb SG.out.size) (by omega) h2).trans (SG.out.block b hb h1 h2),(U0.block pb (LK hpl SG.out.size) (by omega) hne).trans SG.out.tgt⟩;have hs3:w3.heap.size=w2.heap.size:=by rw[<-hw3];simp[World.setCell]
    have hM4:∀y∈ys++ [(⟨x,⟨A4,a4,none,0,none,0,none,0⟩⟩:L9)],agX y.s/\∃g,(some ⟨g2,0,none⟩:aj Addr)=some ⟨g,0,none⟩/\LX w.heap.size g w4 y.s.A y.e.z.cal.JQ:=by
     intro y hy;rcases dm.1 hy with hy|hy
     ·obtain⟨h1,b,off,b1,b2,b3,b4,b5⟩:=HM3.out y hy;exact⟨h1,g2,rfl,b,off,b1,b2,LK b3 U0.size,b4,fun j hj=>(bI (a:=⟨b,off+j,none⟩) (U0.block b b3 b4 (by omega))).trans (b5 j hj)⟩
     ·rw[aY.1 hy];obtain⟨g4,cc4,e4,_⟩:=LW ho4 (by have:=HXF.out.1.cal.mo.1;omega);injection e4 with e4 _ _;subst e4;exact⟨⟨⟨rfl,rfl⟩,⟨rfl,rfl⟩,⟨rfl,rfl⟩⟩,g2,rfl,LX.Le ho4 (by omega) (by omega)⟩
    have HR4:=JJ hr4;have HP4:=JJ hP4;have HO4:=JJ hO4;have HM4:=JJ hM4;have HE4:Hid ((ys++ [(⟨x,⟨A4,a4,none,0,none,0,none,0⟩⟩:L9)]).map (·.e)=zs.take (k+1)):=JJ (by rw[bY,HYE.out,Oq zs k x HX.out];rfl);clear hr4 U0 ho4 hO4 hP4 hM4 hr3 hcz q1 q2 q3 q4 q5 q6 q7 hw3 hcp2 anV hzz;go_wp2_with fail;go_roundw
    case rel=>exact⟨k+1,some ⟨g2,0,none⟩,c2,_,by omega,by go_num,by rw[KN,SN.out];rfl,HE4.out,HR4.out,HP4.out,HO4.out,HM4.out,fun h=>by omega⟩
    case measure=>simp[intOf];omega
  ·have hkn:k=n:=by omega
   have WY:=JJ hkn;have hlt':¬(k:Int)<(n:Int):=by omega
   clear hkn hlt hcp;go_wp2_with fail
   go_end0
   refine⟨rfl,A,c,ys,?_,?_,⟨?_,fun y hy=>?_,fun y hy=>(HYM.out y hy).1,fun h=>?_⟩,?_⟩
   ·have h:=HR.out;rw[WY.out,dW (by rw[HN.out];exact ay _)] at h;exact h
   ·have h:=Zd.out
    rwa [WY.out] at h
   ·have h:=HO.out;rw[WY.out] at h;rw[SN.out,WY.out];exact h
   ·obtain⟨_,g,_,h⟩:=HYM.out y hy;exact h.li
   ·obtain⟨h1,h2⟩:=HNL.out (SN.out.symm.trans h);have h0:n=0:=by have:=SN.out;have:=WY.out;omega
    rw[h1,h2,h0]
   ·rw[HYE.out,WY.out,aU (by rw[HN.out];exact ay _)]
end
section
attribute [local go_sem] Oa Og Ob Oh PX PZ N8 Oc N9 Oe
def J8:Tb:=⟨0,0,0,KA,KA,[]⟩
theorem KQ:(Tryz.prog.info? 26).map (fun i=>(i.zero,i.size))=some (some (.agg (JK J8 (.slice none 0 0))),(JK J8 (.slice none 0 0)).size):=by kernel_rfl
theorem RU:Tryz.zeroCells26=JK J8 (.slice none 0 0):=by kernel_rfl
theorem Xp (t:Tb)(v:ah)(n:Int):(JK t v).setIfInBounds 0 (I n)=JK {t with J5:=n} v:=by simp[JK,MW]
theorem V9 (t:Tb)(v:ah)(n:Int):(JK t v).setIfInBounds 1 (I n)=JK {t with version:=n} v:=by simp[JK,MW]
theorem UJ (t:Tb)(v:ah)(n:Int):(JK t v).setIfInBounds 2 (I n)=JK {t with JU:=n} v:=by simp[JK,MW]
theorem aai (t:Tb)(v:ah)(xs:ag au)(h:t.prev.length=32)(hx:xs.length=32):putRow (JK t v) 4 (JO xs)=JK {t with prev:=xs} v:=by
 unfold putRow splice JK MW;have h1:(JO xs).length=32:=by simp[JO,hx]
 have h2:(JO t.prev).length=32:=by simp[JO,h]
 rw[h1];simp[h2]
def av2 (M:Nat)(w:ae)(rb tb:Nat)(t:Tb)(n:Nat)(R:ag au)(e:Ending)(w':ae):Prop:=
 e=.returned (.tuple #[])/\∃A c ys,PV M w' rb R/\Md w rb tb 26 (JK {t with Ku:=KA} (.slice A n c)) w'/\OI w.heap.size w' (.slice A n c) ys/\ys.map (·.e)=t.JX
theorem aoL (M:Nat)(w:ae)(rb tb n:Nat)(t:Tb)(R:ag au)(h:RY t)(hn:t.JX.length=n)(hr:PV M w rb (NR t++R))(hp:w.heap[tb]? =some (.cells (JK J8 (.slice none 0 0)) 26 (0,0)))(hM:M<=tb)(hne:tb≠rb):
  Calls Tryz.prog 43 #[.iface 134 (pt rb),.pointer (some ⟨tb,0,none⟩)] w (av2 M w rb tb t n R):=by
 have hel:tb<w.heap.size:=(KY.1 hp).1;have hrw:=hr.lt;have hz:∀(u:Tb) (v:ah),u.prev.length=32->u.Ku.length=32->(JK u v).size=68:=fun u v h1 h2=>Kq u v h1 h2;have hr':PV M w.drew rb (le t.J5 1++(le t.version 1++(le t.JU 1++(t.prev++((le n 1++RN t.JX)++R))))):=by
  have h:=hr.drew;unfold NR at h;rw[hn] at h;simpa only[aH] using h
 have q1:=h.J5;have q2:=h.version;have q3:=h.JU;have hn2:n<=128:=by have:=h.num;omega
 have Rj:=JJ (Ot M w.drew rb tb 0 1 26 _ t.J5 t.J5 _ hr' (by omega) (Td _ (by omega) (by omega) _) hp (by rw[hz _ _ rfl rfl];decide) hM hne);have HF:=JJ h;have HZ:=JJ hz;have HN:=JJ hn;clear h hr hr' hp hz hn;unfold av2;go_enter Tryz.func43,Tryz.ntmps43;go_wp2_with fail;go_still_tail 7,(by kernel_rfl);go_wp2_with fail;refine Rj.out.mono ?_;rintro e w1 ⟨rfl,hr1,hp1⟩;rw[Xp] at hp1;have WZ:=JJ hp1.NP;have HC2:=JJ (Ot M w1.drew rb tb 1 1 26 _ t.version t.version _ hr1.drew (by omega) (Td _ (by omega) (by omega) _) hp1.tgt (by rw[HZ.out _ _ rfl rfl];decide) hM hne);clear hr1 hp1 Rj;go_wp2_with fail;go_still_tail 7,(by kernel_rfl);go_wp2_with fail;refine HC2.out.mono ?_;rintro e w2 ⟨rfl,hr2,hp2⟩;rw[V9] at hp2;have HP2:=JJ (WZ.out.trans hp2.NP);have Wh:=JJ (Ot M w2.drew rb tb 2 1 26 _ t.JU t.JU _ hr2.drew (by omega) (Td _ (by omega) (by omega) _) hp2.tgt (by rw[HZ.out _ _ rfl rfl];decide) hM hne);clear hr2 hp2 HC2;go_wp2_with fail;go_still_tail 7,(by kernel_rfl);go_wp2_with fail;refine Wh.out.mono ?_;rintro e w3 ⟨rfl,hr3,hp3⟩;rw[UJ] at hp3;have SG:=JJ (HP2.out.trans hp3.NP);have WT:=JJ (Yj M w3.drew rb tb 4 26 _ t.prev _ hr3.drew HF.out.prev hp3.tgt (by rw[HZ.out _ _ rfl rfl];decide) hM hne);clear hr3 hp3 Wh;go_wp2_with fail;go_still_tail 7,(by kernel_rfl);go_wp2_with fail;refine WT.out.mono ?_;rintro e w4 ⟨rfl,hr4,U0⟩;rw[aai _ _ _ rfl HF.out.prev] at U0;have HP4:=JJ (SG.out.trans U0.NP);have HC5:=JJ (alS M w4 rb tb 3 n 26 _ t.JX R HN.out hn2 (fun x hx=>⟨HF.out.flat x hx,HF.out.short x hx⟩) hr4 U0.tgt (LD _ _) hM hne);clear hr4 U0 WT;go_wp2_with fail;refine HC5.out.mono ?_;rintro e w5 ⟨rfl,A,c,ys,VX,hp5,ho5,he5⟩;rw[Rf] at hp5;have Tv:=JJ VX;have Zc:=JJ (HP4.out.trans hp5);have RP:=JJ (ho5.lower HP4.out.size);have HE5:=JJ he5;clear VX hp5 ho5 he5 HC5;go_wp2_with fail
 go_end0
 exact⟨rfl,A,c,ys,Tv.out,Zc.out,RP.out,HE5.out⟩
end
def aiV (bs:ag au):ByteArray:=⟨bs.toArray⟩
theorem Yh (xs:ag au):(aiV xs).toList=xs:=by rw[Lib.toList_data];rfl
theorem ZC (A:aj Addr)(bs:ag au)(c:Nat)(w:ae)(B:Nat)(h:BytesAt w B A bs):
  (convert 55 9 (.slice A bs.length c)).run Tryz.prog w=.ok (.string (aiV bs)) w:=by
 have e:aiV bs=strOfNums (bs.map fun x=>(x.toNat:Int)):=by
  unfold aiV strOfNums;congr 1;rw[List.map_map];congr 1;rw[show((fun n:Int=>UInt8.ofNat n.toNat) ∘ fun x:au=>(x.toNat:Int))=id from by funext x;simp];simp
 rcases h with h|⟨b,off,rfl,_,hc⟩
 ·obtain rfl:=bu h;exact run_convert_bytes_zero w _ _ bC gW A c _ gV
 ·rw[e];refine kU w _ _ bC gW b off bs.length c _ (by simp) (fun i hi=>?_) _ gV;rw[hc i hi];simp[List.getD,hi,Extern.Stop.cell]
theorem Zz (w:ae)(A A':aj Addr)(xs ys:ag au)(c d B B':Nat)(h1:BytesAt w B A xs)(h2:BytesAt w B' A' ys):
  Calls Tryz.prog 46 #[.slice A xs.length c,.slice A' ys.length d] w fun e w'=>e=.returned (.bool (xs==ys))/\w'=w:=by
 have e1:=ZC A xs c w B h1;have e2:=ZC A' ys d w B' h2;clear h1 h2;go_enter Tryz.func46,Tryz.ntmps46
 go_wp2
 go_ret;exact⟨by show Ending.returned (.bool ((aiV xs).toList==(aiV ys).toList))=_;rw[Yh,Yh],rfl⟩
theorem TS {P:Program}{fn:Func}{p q:Tmp}{t1 t2:TypeId}(h:fn.results= #[.cell p t1,.cell q t2])(tmps:ax ah)(w:ae)(g g2:Nat)(t:TypeId)(cs:ax ah)(fr:Nat×Nat)(d:TypeDesc)(v:ah)
  (hp:tmps.getD p undef=.pointer (some ⟨g,0,none⟩))(hg:w.heap[g]? =some (.cells cs t fr))(hu:P.underlying t1=some d)(hd:(match d with| .struct _| .array _ _=>true|_=>false)=true)(hi:(P.info? t1).map (·.size)=some cs.size)
  (hq:tmps.getD q undef=.pointer (some ⟨g2,0,none⟩))(hv:(loadVar t2 ⟨g2,0,none⟩).run P w=.ok v w):
  (results fn tmps).run P w=.ok (.tuple #[.agg cs,v]) w:=by
 have hp':tmps[p]?.getD undef=.pointer (some ⟨g,0,none⟩):=by simpa using hp
 have hq':tmps[q]?.getD undef=.pointer (some ⟨g2,0,none⟩):=by simpa using hq
 simp[results,h,hp',hq',asAddr,run_loadVar_row w g t t1 cs fr d hg hu hd hi,hv]
theorem aey (p:Addr)(w:ae):
  CallsD Tryz.prog 66 #[.pointer (some p)] .returning w fun e u' w'=>e=.returned (.tuple #[])/\u'=.returning/\w'=w:=by
 have hnn:∀w,(binOp .neq 20 .nilIface .nilIface).run Tryz.prog w=.ok (.bool false) w:=fun w=>Lib.run_neq_nil_nil w Tryz.underlying20;refine callsD_of_wpS Tryz.func66 rfl fun c₀ cs hu=>?_;apply wpS_seq;apply wpS_region;simp[wpOpsS,go_sem,recoverD,hu,Tryz.ntmps66,Exit.thenS];apply wpS_seq;apply wpS_region;simp[wpOpsS,go_sem,hnn,Exit.thenS];refine wpS_cond (t:=false) (by simp[Act.eval,Array.replicate]) ?_;simp only[kC,sG];refine wpS_of_wp (wp_skip ?_);cases c₀
 simp_all[bodyPostS,results,Tryz.results66]
section
variable {P:Program}{ops:ax Oper}{Q:Exit->Act->ae->Prop}{md:Region.Mode}{S:ae->Prop}{i:Nat}{oi:Oper}{v:ah}{fuel:Nat}{listed:ax Bool}{a:Act}{w:ae}
theorem aoT (d:aj Tmp)(hi:ops[i]? =some oi)(hd:oi.dst=d)
  (hs:Region.noSelect ops=true)(hf:Region.free md ops listed i=true)(hr:(Region.ready md ops listed).contains i=true)
  (hQ:∀c a w,Q (.panic c) (a.put d v) w->Q (.panic c) a w)(hy:YieldsIf P ops S oi v a)(hS:S w)
  (h:wpAnyH P md ops Q S fuel (listed.setIfInBounds i true) (a.put d v) w):wpAnyH P md ops Q S (fuel+1) listed a w:=by
 subst hd;exact wpAnyH_take hi hs hf hr hQ hy hS h
theorem YE (hr:Region.ready md ops listed= [i])(ho:ops[i]? =some oi)(hw:Region.wanted oi (yielded ops a.tmps)=true)(ty:TypeId)(x y:Operand)(hop:oi.op=.store ty x y)(hd:oi.dst=none)
  (g:Nat)(cells:ax ah)(hx:a.eval x=.pointer (some ⟨g,0,none⟩))(hy:a.eval y=.agg cells)(t:TypeId)(old:ax ah)(hg:w.heap[g]? =some (.cells old t (0,0)))(hi:(P.info? ty).map (·.size)=some cells.size)(hold:old.size=cells.size)(h1:cells.all (·.oneCell')=true)
  (hS:S (w.setRow g cells))(h:S (w.setRow g cells)->wpAnyH P md ops Q S fuel (listed.setIfInBounds i true) a (w.setRow g cells)):wpAnyH P md ops Q S (fuel+1) listed a w:=by
 refine jH (rs:= [i]) hr (by simp) ?_;refine dV ho (fun K hK=>?_) jq;rw[bD hw];refine pg ty x y hop g cells hx hy t old hg hi hold h1 ?_;rw[hd];exact hK.out a _ hS h
end
theorem Md.grown {M:Nat}{w0 w w':ae}{rb pb:Nat}{t:TypeId}{cs:ax ah}(h:Md w rb pb t cs w')(hb:ai M w0 w)(h1:M<=pb)(h2:M<=rb)(hp:pb<w.heap.size):ai M w0 w':=
 hb.trans ⟨h.os,h.tape,h.output,h.size,fun k hk=>h.block k (by omega) (by omega) (by omega)⟩
def azX (w:ae)(t:Tb)(n:Nat)(e:Ending)(w':ae):Prop:=
 ∃A c ys,e=.returned (.tuple #[.agg (JK {t with Ku:=KA} (.slice A n c)),.bool true])/\OI w.heap.size w' (.slice A n c) ys/\ys.map (·.e)=t.JX/\ai w.heap.size w w'
theorem agk (w:ae)(t:Tb)(n N b off c:Nat)(h:RY t)(hn:t.JX.length=n)(hN:(NR t).length=N)(hbl:b<w.heap.size)(hc1:N<=c)(hc2:c<=9223372036854775807)
  (hA:∀j,j<N->w.cell? ⟨b,off+j,none⟩=some (Extern.Stop.cell ((NR t)[j]?.getD 0))):
  Calls Tryz.prog 45 #[.slice (some ⟨b,off,none⟩) N c] w (azX w t n):=by
 have hmf:∀(fn:Fn) (first cap:ax ah) (w:ae),(Instr.makeFunc fn first cap).run Tryz.prog w=.ok (.func fn first cap) w:=fun _ _ _ _=>rfl;have HF:=JJ h;have L6:Hid (∀v,(Tryz.prog.info? 26).map (·.size)=some (JK {t with Ku:=KA} v).size):=JJ fun v=>Ky _ v h.prev rfl;have HN:=JJ hn;have HNN:=JJ hN;obtain⟨W,hW⟩:∃W,((w.alloc (.cells (JK J8 (.slice none 0 0)) 26)).alloc (.cells #[.bool false] 4)).alloc (.cells #[.slice (some ⟨b,off,none⟩) N c] 135)=W:=⟨_,rfl⟩;have hB:ai w.heap.size w W:=by rw[<-hW];exact(((aW _ w).alloc (ay _) _).alloc (by simp) _).alloc (by simp;omega) _
 have hs:W.heap.size=w.heap.size+3:=by rw[<-hW];simp
 have ht:W.heap[w.heap.size]? =some (.cells (JK J8 (.slice none 0 0)) 26 (0,0)):=by rw[<-hW];exact(aV _ _ _ (by simp;omega)).trans (dJ w _ _)
 have ho:W.heap[w.heap.size+1]? =some (.cells #[.bool false] 4 (0,0)):=by rw[<-hW];exact(aV _ _ _ (by simp)).trans (bW w _ _)
 have hr:PV w.heap.size W (w.heap.size+2) (NR t++ []):=by
  rw[iq];refine⟨⟨b,off,c,?_,by rw[hN];exact hc1,hc2,hbl,fun j hj=>(hB.cell (p:=⟨b,off+j,none⟩) hbl).trans (hA j (by omega))⟩,by omega⟩;rw[<-hW,hN];have:=aF ((w.alloc (.cells (JK J8 (.slice none 0 0)) 26)).alloc (.cells #[.bool false] 4)) (.cells #[.slice (some ⟨b,off,none⟩) N c] 135);simpa using this
 have HB:=JJ hB;have HS:=JJ hs;have HO:=JJ ho;have HC:=JJ (aoL w.heap.size W (w.heap.size+2) w.heap.size n t [] h hn hr ht (ay _) (by omega));clear h hn hN hA hB hs ht ho hr
 go_enter_defers Tryz.func45,Tryz.ntmps45
 go_wp2_with fail;rw[RU,hW];refine HC.out.mono ?_;rintro e w2 ⟨rfl,A,cz,ys,hr2,hp2,hz2,he2⟩;have hs0:=HS.out;have ho2:w2.heap[w.heap.size+1]? =some (.cells #[.bool false] 4 (0,0)):=(hp2.block _ (by omega) (by omega) (by omega)).trans HO.out;have HB2:=JJ (hp2.grown HB.out (ay _) (by omega) (by omega));have HV:=JJ hp2.tgt;have HZ2:=JJ (hz2.lower (lo':=w.heap.size+3) (by omega));have HRW:=JJ (Row.Nk hp2.tgt);have SI:=JJ ho2;have HE2:=JJ he2;have hlt2:w.heap.size+3<=w2.heap.size:=by have:=hp2.size;omega
 obtain⟨bb,o2,c2,hq,_⟩:=hr2.at_;have hc2:w2.cell? ⟨w.heap.size+1+1,0,none⟩=some (.slice (some ⟨bb,o2,none⟩) 0 c2):=aC w2 (w.heap.size+2) 0 _ _ _ hq;clear hr2 hp2 hz2 he2 ho2 hW HC hq HO HB HS;go_wp2_with fail;refine wp_region_noPanic ?_;refine dG (S:=fun W=>Row W w.heap.size (JK {t with Ku:=KA} (.slice A n cz))/\W.cell? ⟨w.heap.size+1+1,0,none⟩=some (.slice (some ⟨bb,o2,none⟩) 0 c2)) (by kernel_rfl) ⟨⟨HRW.out.1,HRW.out.2⟩,hc2⟩ (fun hH=>?_);refine LG 0 _ 12 rfl rfl hH (bF (by rfl) _ _ rfl w.heap.size 0 rfl (JK {t with Ku:=KA} (.slice A n cz)).toList _ (fun W hW j v hv=>by rw[aT,hW.1.2 j];simpa using hv) az rfl (by rw[L6.out,dF])) ?_;refine JZ 1 (pt (w.heap.size+1+1)) 13 hH ?_;refine JZ 2 (pt (w.heap.size+1+1)) 14 hH ?_;refine JZ 3 (pt (w.heap.size+1+1)) 15 hH ?_;refine JZ 4 (.slice (some ⟨bb,o2,none⟩) 0 c2) 16 hH ?_;refine JZ 5 (I 0) 17 hH ?_;refine JZ 6 (.bool true) 18 hH ?_;have hv2:w2.drew.heap[w.heap.size]? =some (.cells (JK {t with Ku:=KA} (.slice A n cz)) 26 (0,0)):=HV.out;have HW3:Hid ((w2.drew.setRow w.heap.size (JK {t with Ku:=KA} (.slice A n cz))).heap[w.heap.size]? =some (.cells (JK {t with Ku:=KA} (.slice A n cz)) 26 (0,0))):=JJ (aQ _ _ _ _ _ _ hv2);have SE:Hid (∀k,k≠w.heap.size->(w2.drew.setRow w.heap.size (JK {t with Ku:=KA} (.slice A n cz))).heap[k]? =w2.heap[k]?):=JJ fun k hk=>cZ _ _ k _ hk;have HL3:Hid ((w2.drew.setRow w.heap.size (JK {t with Ku:=KA} (.slice A n cz))).heap.size=w2.heap.size):=JJ (by show(w2.setRow w.heap.size _).heap.size=_;simp[World.setRow]);have HD3:Hid ((w2.drew.setRow w.heap.size (JK {t with Ku:=KA} (.slice A n cz))).os=w2.os/\(w2.drew.setRow w.heap.size (JK {t with Ku:=KA} (.slice A n cz))).tape=w2.tape/\(w2.drew.setRow w.heap.size (JK {t with Ku:=KA} (.slice A n cz))).output=w2.output):=JJ ⟨rfl,rfl,rfl⟩;have hc3:(w2.drew.setRow w.heap.size (JK {t with Ku:=KA} (.slice A n cz))).cell? ⟨w.heap.size+1+1,0,none⟩=some (.slice (some ⟨bb,o2,none⟩) 0 c2):=(bI (a:=⟨w.heap.size+1+1,0,none⟩) (SE.out _ (by show w.heap.size+1+1≠w.heap.size;omega))).trans hc2;refine YE (i:=7) (by kernel_rfl) rfl (by rfl) _ _ _ rfl rfl w.heap.size (JK {t with Ku:=KA} (.slice A n cz)) rfl rfl 26 (JK {t with Ku:=KA} (.slice A n cz)) hv2 (L6.out _) rfl (J9 _ _ _ _) ⟨Row.Nk HW3.out,hc3⟩ (fun hH3=>?_);clear hH hH3;generalize w2.drew.setRow w.heap.size (JK {t with Ku:=KA} (.slice A n cz))=w3 at HW3 SE HL3 HD3 hc3⊢;have ho3:w3.heap[w.heap.size+1]? =some (.cells #[.bool false] 4 (0,0)):=(SE.out _ (by omega)).trans SI.out;have hcc:=aC _ (w.heap.size+1) 0 _ _ _ ho3;have hfc:=aP _ (w.heap.size+1) 0 _ _ ho3;have VJ:=JJ ho3;have hS4:Row (w3.setCell ⟨w.heap.size+1,0,none⟩ (.bool true)) w.heap.size (JK {t with Ku:=KA} (.slice A n cz))/\(w3.setCell ⟨w.heap.size+1,0,none⟩ (.bool true)).cell? ⟨w.heap.size+1+1,0,none⟩=some (.slice (some ⟨bb,o2,none⟩) 0 c2):=
  ⟨Row.Nk ((aN w3 _ w.heap.size _ (by show w.heap.size≠w.heap.size+1;omega)).trans HW3.out),(bI (a:=⟨w.heap.size+1+1,0,none⟩) (aN w3 _ _ _ (by show w.heap.size+1+1≠w.heap.size+1;omega))).trans hc3⟩
 have HS4:=JJ hS4;clear hv2 ho3 hS4;refine KX 8 (fun K hK=>?_);go_simp;refine hK.out _ _ HS4.out (fun hH4=>?_);refine dC (by kernel_rfl) ?_ _;refine NoPanic.normal ?_;clear hK K hH4;go_wp2_with fail;refine leaves_cons (f:=66) (args:= #[.pointer (some ⟨w.heap.size+1,0,none⟩)]) (by simp) (by simp[go_sem]) ?_;refine(aey _ _).mono ?_;rintro e u' w11 ⟨rfl,rfl,rfl⟩;have hbl:∀k,k≠w.heap.size->k≠w.heap.size+1->(w3.setCell ⟨w.heap.size+1,0,none⟩ (.bool true)).heap[k]? =w2.heap[k]? :=fun k h1 h2=>
  (aN _ _ k _ h2).trans (SE.out k h1)
 have hsz:(w3.setCell ⟨w.heap.size+1,0,none⟩ (.bool true)).heap.size=w2.heap.size:=by rw[<-HL3.out];simp[World.setCell]
 have hv4:(w3.setCell ⟨w.heap.size+1,0,none⟩ (.bool true)).heap[w.heap.size]? =some (.cells (JK {t with Ku:=KA} (.slice A n cz)) 26 (0,0)):=(aN w3 ⟨w.heap.size+1,0,none⟩ w.heap.size _ (by show w.heap.size≠w.heap.size+1;omega)).trans HW3.out;have hc4:=aC _ (w.heap.size+1) 0 _ _ _ (bJ _ (w.heap.size+1) 0 _ _ (.bool true) VJ.out);refine⟨_,TS rfl _ _ w.heap.size (w.heap.size+1) _ (JK {t with Ku:=KA} (.slice A n cz)) (0,0) _ (.bool true) rfl hv4 az rfl (L6.out _) rfl (Sm _ _ _ hc4),A,cz,ys,rfl,?_,HE2.out,?_⟩
 ·exact(HZ2.out.Kr (iT hsz.symm) fun k h1 h2=>hbl k (by omega) (by omega)).lower (by omega)
 ·exact HB2.out.trans ⟨HD3.out.1,HD3.out.2.1,HD3.out.2.2,iT hsz.symm,fun k hk=>hbl k (by omega) (by omega)⟩
def VP (cs:ax ah)(o:Nat):ag ah->ax ah
 | []=>cs
 |v::r=>VP (cs.setIfInBounds o v) (o+1) r
theorem abJ:∀(vs pre old:ag ah),old.length=vs.length->VP (pre++old).toArray pre.length vs=(pre++vs).toArray
 | [],pre,old,h=>by
  have:old= []:=bu h;simp[VP,this]
 |v::r,pre,old,h=>by
  obtain⟨x,old',rfl⟩:∃x old',old=x::old':=by
   cases old with
   |nil=>simp at h
   |cons x o=>exact⟨x,o,rfl⟩
  have h2:=abJ r (pre++ [v]) old' (by simpa using h);have e:(pre++x::old').toArray.setIfInBounds pre.length v=((pre++ [v])++old').toArray:=by simp
  unfold VP;rw[e];simpa using h2
theorem V6:∀(vs:ag ah) (w:ae) (b o:Nat) (cs:ax ah) (t:TypeId),w.heap[b]? =some (.cells cs t (0,0))->(w.setCells b o vs).heap[b]? =some (.cells (VP cs o vs) t (0,0))
 | [],_,_,_,_,_,h=>h
 |v::r,w,b,o,_,t,h=>V6 r _ b (o+1) _ t (bJ w b o _ _ v h)
theorem Ro:∀(vs:ag ah) (w:ae) (b o k:Nat),k≠b->(w.setCells b o vs).heap[k]? =w.heap[k]?
 | [],_,_,_,_,_=>rfl
 |v::r,w,b,o,k,h=>(Ro r _ b (o+1) k h).trans (aN w _ k v h)
theorem Vj:∀(vs:ag ah) (w:ae) (b o:Nat),(w.setCells b o vs).heap.size=w.heap.size
 | [],_,_,_=>rfl
 |v::r,w,b,o=>(Vj r _ b (o+1)).trans (by simp[World.setCell])
theorem Qa {B b:Nat}{w0:ae}(h:B<=b):∀(vs:ag ah) (w:ae) (o:Nat),ai B w0 w->ai B w0 (w.setCells b o vs)
 | [],_,_,hb=>hb
 |v::r,_,o,hb=>Qa h r _ (o+1) (hb.setCell (p:=⟨b,o,none⟩) h v)
theorem Ti (t:Tb)(v:ah):MW t v=([I t.J5,I t.version,I t.JU,v]++JO t.prev)++JO t.Ku:=by simp[MW]
theorem aaj (t:Tb)(v:ah)(m:ag au)(hp:t.prev.length=32)(h1:t.Ku.length=32)(h2:m.length=32):VP (JK t v) 36 (JO m)=JK {t with Ku:=m} v:=by
 have h:=abJ (JO m) ([I t.J5,I t.version,I t.JU,v]++JO t.prev) (JO t.Ku) (by simp[JO,h1,h2]);have hl:([I t.J5,I t.version,I t.JU,v]++JO t.prev).length=36:=by simp[JO,hp]
 rw[hl] at h;unfold JK;rw[Ti,Ti];exact h
theorem PG (m:ag au)(h:m.length=32):(Tryz.prog.info? 24).map (·.size)=some (cD m).size:=by rw[OW,h];kernel_rfl
theorem aev (t:Tb)(h:YP t)(hp:t.prev.length=32):0<(Rq t).length/\(Rq t).length<=400:=by
 have e:=ag6 UX t.JX 103 t.JX.length (fun e he=>aoY e (h.JX e he).made (by obtain⟨j,hj⟩:=fU he;rw[h.names j e hj,aaB];omega));rw[jB] at e;have h2:=h.num;unfold Rq;simp only[KN,bG,dE,J4,hp];omega
structure SlS (w:ae)(ks ts:ax ah)(W:ae):Prop where
 k:AV w.heap.size 24 ks W
 t:AV (w.heap.size+1) 26 ts W
 r:AV (w.heap.size+2) 26 (JK J8 (.slice none 0 0)) W
 lo:ai w.heap.size w W
theorem SlS.start (w:ae)(ks ts:ax ah):SlS w ks ts (((w.alloc (.cells ks 24)).alloc (.cells ts 26)).alloc (.cells (JK J8 (.slice none 0 0)) 26)):=by
 obtain⟨W,hW⟩:∃W,(w.alloc (.cells ks 24)).alloc (.cells ts 26)=W:=⟨_,rfl⟩;have hs:W.heap.size=w.heap.size+2:=by rw[<-hW];simp
 have hb:ai w.heap.size w W:=by rw[<-hW];exact JL (JM w _) (JM _ _)
 have h1:AV w.heap.size 24 ks W:=by rw[<-hW];exact⟨dJ w _ _⟩
 have h2:AV (w.heap.size+1) 26 ts W:=by rw[<-hW];exact⟨bW w _ _⟩
 have h3:=AV.new W (JK J8 (.slice none 0 0)) 26;rw[hs] at h3;rw[hW];exact⟨h1.below (JM W _),h2.below (JM W _),h3,JL hb (JM W _)⟩
theorem SlS.grow {w W W':ae}{ks ts:ax ah}(h:SlS w ks ts W)(hb:ai W.heap.size W W'):SlS w ks ts W':=⟨h.k.below hb,h.t.below hb,h.r.below hb,JL h.lo hb⟩
theorem AV.asQ {b:Nat}{t:TypeId}{cs:ax ah}{W:ae}(h:AV b t cs W)(o:Nat)(vs:ag ah):AV b t (VP cs o vs) (W.setCells b o vs):=⟨V6 vs W b o cs t h.var⟩
theorem AV.aio {b g:Nat}{t:TypeId}{cs:ax ah}{W:ae}(h:AV b t cs W)(hn:b≠g)(o:Nat)(vs:ag ah):AV b t cs (W.setCells g o vs):=⟨(Ro vs W g o b hn).trans h.var⟩
theorem AV.there {b:Nat}{t:TypeId}{cs:ax ah}{W:ae}(h:AV b t cs W)(o n:Nat)(hn:o+n<=cs.size):W.there b o n:=fun j hj=>⟨by rw[h.cell (o+j),fC (by omega)];rfl,h.Oo _⟩
theorem aor (x k s:Int)(w:ae)(hk:bits BinOp.and IntKind.u64 (IntKind.u64.wrap k) 31=s)(h0:0<=s)(h1:s<=31):
  Calls Tryz.prog 119 #[.int .u32 x,I k] w fun e w'=>e=.returned (.int .u32 (Qg x s))/\w'=w:=by
 have hd:IntKind.u64.wrap (32 - s)=32 - s:=by rw[l7];omega
 go_enter Tryz.func119,Tryz.ntmps119;go_wp2_with fail;go_ret;exact⟨rfl,rfl⟩
def amt (k:Int):Int:=bits BinOp.and IntKind.u64 (IntKind.u64.wrap k) 31
theorem af9 (x k:Int)(w:ae)(h:(decide (0<=amt k)&&decide (amt k<=31))=true):
  Calls Tryz.prog 119 #[.int .u32 x,I k] w fun e w'=>e=.returned (.int .u32 (Qg x (amt k)))/\w'=w:=by
 rw[eX,eP,eP] at h;exact aor x k (amt k) w rfl h.1 h.2
end Go.Proofs.YtbaehbbonkljpaaGreatDoor
