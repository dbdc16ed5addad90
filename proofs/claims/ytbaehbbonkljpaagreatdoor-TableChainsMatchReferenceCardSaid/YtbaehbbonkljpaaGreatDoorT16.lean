/- The texts TbY2, Oc, Jo, TbP, TbB, Od, Jp, in this order. -/
import Derived.Test.YtbaehbbonkljpaaGreatDoorT15
set_option maxRecDepth 10000
set_option maxHeartbeats 8000000
namespace Go.Proofs.YtbaehbbonkljpaaGreatDoor
open Go Go.RowKit
section
attribute [local go_sem] O8 Pj O9 Pm QY QZ O6 Pg O7 Ph
def TL (c:Cal):ag au:=le c.KI 4++((le c.JQ.length 1++Ls c.JQ)++(le 0 1++le 0 1))
def Y3 (e:Ze):ag au:=(le e.name.size 1++e.name.data.toList)++(TL e.z.cal++(le e.z.start 2++(le 0 2++(le e.z.hor 8++le 0 1))))
end
section
attribute [local go_sem] O8 Pj O9 Pm QY QZ O6 Pg O7 Ph
def acd (c:Cal):ag au:=le c.KI 4++((le c.JQ.length 1++Ls c.JQ)++(le (c.Lm+1) 1++(le c.rules.length 1++c.rules.flatMap Qw)))
def znB (z:Zn):ag au:=acd z.cal++(le z.start 2++((le z.trans.length 2++z.trans.flatMap PO)++(le z.hor 8++(le z.J6.length 1++z.J6.flatMap QD))))
def zeB (e:Ze):ag au:=(le e.name.size 1++e.name.data.toList)++znB e.z
end
section
attribute [local go_sem] O8 Pj O9 Pm QY QZ O6 Pg O7 Ph
theorem ad8:∀(rs:ag Lr) (y:Nat),(PK rs y).isSome=true->∀r∈rs,(1<=r.every/\r.every<=400)/\0<=r.rest/\r.rest<r.every
 | [],_,_,_,h=>nomatch h
 |r::rs,y,hs,x,hx=>by
  unfold PK at hs;split at hs
  ·cases hs
  ·rename_i hb;split at hs
   ·cases hs
   ·rcases dQ.1 hx with rfl|hx
    ·omega
    ·exact ad8 rs _ hs x hx
theorem abq {c:Cal}(h:MR c):(acd c).length<=110:=by
 unfold acd;simp only[KN,J4,QO,Wl Qw 5 Yc];have:=h.ml;have:=h.rl;omega
theorem SV.len {z:Zn}(h:SV z):z.J6.length<=2:=by
 rcases h with e|⟨r0,r1,e,_⟩<;>rw[e]<;>simp
theorem SV.mem {z:Zn}(h:SV z):∀y∈z.J6,U5 z.cal.JQ.length y:=by
 intro y hy;rcases h with e|⟨r0,r1,e,h0,h1⟩
 ·rw[e] at hy;cases hy
 ·rw[e] at hy;rcases dQ.1 hy with rfl|hy
  ·exact h0
  ·rw[aY.1 hy];exact h1
theorem YR.trs {z:Zn}(h:YR z):∀x∈z.trans,(-1080<=x.off/\x.off<=1080)/\ -2251799813685248<=x.at_/\x.at_<=2251799813685248:=by
 intro x hx;obtain⟨i,hi⟩:=fU hx;have hl:=(MF.1 hi).1;obtain⟨h1,h2,_⟩:=h.tr i hl;have e1:Pn z.trans i=x.off:=by unfold Pn;rw[hi];rfl
 have e2:Nz z.trans i=x.at_:=by unfold Nz;rw[hi];rfl
 rw[e1] at h1;rw[e2] at h2;exact⟨h1,h2⟩
theorem ami {e:Ze}(h:YR e.z)(hs:e.name.size<=32):(zeB e).length<=5400:=by
 have h1:=abq h.cal;have h2:=h.trl;have h3:=h.yr.len;have h4:e.name.data.toList.length=e.name.size:=by rw[dF];rfl
 unfold zeB znB;simp only[KN,J4,Wl PO 10 Vq,Wl QD 7 Yu,h4];omega
theorem aeI (w:ae)(g cb co:Nat)(c:Cal)(A:aj Addr)(a:Nat)(B:aj Addr)(b:Nat)(v:ah)(bs:ag au)(hc:MR c)(hr:w.rangeAt cb co (J7 c A a B b).toList)(hfz:w.frozen? ⟨cb,co+2,none⟩=false)(hcb:cb<g)(hA:OT w g A c.JQ)(hB:JS w g B (c.rules.flatMap Lr.cells))
  (hl:bs.length<=10000000)(hst:NJ w g v bs):
  Calls Tryz.prog 83 #[.iface 91 (pt g),.pointer (some ⟨cb,co,none⟩)] w (OD w g v (bs++acd c)):=by
 have hgl:=hst.lt;have c0:w.cell? ⟨cb,co,none⟩=some (I c.KI):=hr 0 _ rfl;have c1:w.cell? ⟨cb,co+1,none⟩=some (.slice A c.JQ.length a):=hr 1 _ rfl;have c2:w.cell? ⟨cb,co+2,none⟩=some (I c.Lm):=hr 2 _ rfl;have c3:w.cell? ⟨cb,co+3,none⟩=some (.slice B c.rules.length b):=hr 3 _ rfl;obtain⟨lp,hlp⟩:∃l,c.Lm=l:=⟨_,rfl⟩;obtain⟨n1,hn1⟩:∃n,c.rules.length=n:=⟨_,rfl⟩;rw[hlp] at c2;rw[hn1] at c3;have hlb:=hc.lp;rw[hlp] at hlb;have aEj:lp<=15:=by have:=hc.ml;omega
 have hrb:=hc.rl;rw[hn1] at hrb;have HLP:=JJ hlp;have HN1:=JJ hn1;have HRB:=JJ hB;have HRF:Hid (∀z∈c.rules,Yd z):=JJ (fun z hz=>by have:=ad8 _ _ hc.per z hz;unfold Yd Qp;omega);clear hB hlp hn1;obtain⟨n,hn⟩:∃n,c.JQ.length=n:=⟨_,rfl⟩;rw[hn] at c1;have hn2:n<=16:=by have:=hc.ml;omega
 have hN1:(bs++le c.KI 4).length<=10000004:=by rw[KN,J4];omega
 have HE:=JJ hc.ep;have HN:=JJ hn;have HM:Hid (∀z∈c.JQ,fits z):=JJ fun z hz=>by have:=hc.mo z hz;unfold fits;omega
 have Rj:=JJ (Lp w.drew g ⟨cb,co,none⟩ v bs c.KI 4 (by have:=hc.ep;omega) (by have:=hc.ep;omega) (by omega) (by omega) hst.lt hst.drew c0);have HST:=JJ hst;have HA:=JJ hA;clear hc hr hst hA hn;go_enter Tryz.func83,Tryz.ntmps83;go_wp2_with fail;go_still_tail 7,(by kernel_rfl);go_wp2_with fail;refine Rj.out.mono ?_;rintro e w1 ⟨rfl,v1,hs1,hk1⟩;have hb1:=Lc HST.out (Kw hk1);have HB1:=JJ hb1;have PT:=JJ hs1;have Pz:=JJ (Kw hk1);have d1:w1.cell? ⟨cb,co+1,none⟩=some (.slice A n a):=(hb1.cell (p:=⟨cb,co+1,none⟩) hcb).trans c1;have aEd:cb<w1.heap.size:=by have:=hs1.lt;omega
 have HL:=JJ (acS w1 g cb (co+1) A n a c.JQ v1 _ HN.out (by omega) d1 hcb (HA.out.keep hb1) HM.out (by omega) hs1);have hN2:(bs++le c.KI 4++(le (n:Int) 1++Ls c.JQ)).length<=10000040:=by
  simp only[KN,J4,QO,HN.out];omega
 clear hs1 hk1 hb1 Rj c0 d1;go_wp2_with fail;refine HL.out.mono ?_;rintro e w2 ⟨rfl,v2,hs2,hk2⟩;have hb2:=HB1.out.trans (Lc PT.out hk2);have HB2:=JJ hb2;have HS2:=JJ hs2;have OZ:=JJ (Pz.out.trans hk2);have d2:w2.cell? ⟨cb,co+2,none⟩=some (I lp):=(hb2.cell (p:=⟨cb,co+2,none⟩) hcb).trans c2;obtain⟨h1,h2⟩:=hs2.grow (JM w2 (.cells #[I (lp+1)] 3));have HG1:=JJ h1;have HG2:=JJ h2;have HNE:=JJ hs2.new_ne;have HBL:=JJ (aF w2 (.cells #[I (lp+1)] 3));have HC2:=JJ (Lp (w2.alloc (.cells #[I (lp+1)] 3)) g ⟨w2.heap.size,0,none⟩ v2 _ (lp+1) 1 (by omega) (by omega) (by omega) (by omega) h1.lt h1 ((Row.new w2 #[I (lp+1)] 3).2 0));clear hs2 hk2 hb2 HL h1 h2;go_wp2_with fail;refine HC2.out.mono ?_;rintro e w3 ⟨rfl,v3,hs3,hk3⟩;have hb3:=Lc HG1.out hk3;have d3:w3.cell? ⟨w2.heap.size,0,none⟩=some (I (lp+1)):=aC w3 _ 0 _ _ _ ((HG1.out.far hk3 w2.heap.size (by simp) HNE.out.1 HNE.out.2).trans HBL.out);have air:ai g w w3:=(HB2.out.trans ((JM w2 (.cells #[I (lp+1)] 3)).mono (by have:=HS2.out.lt;omega))).trans hb3;have HB3:=JJ air;have e3:w3.cell? ⟨cb,co+2,none⟩=some (I lp):=(air.cell (p:=⟨cb,co+2,none⟩) hcb).trans c2;have f3:w3.frozen? ⟨cb,co+2,none⟩=false:=(air.frozen (p:=⟨cb,co+2,none⟩) hcb).trans hfz;have e4:w3.cell? ⟨cb,co+3,none⟩=some (.slice B n1 b):=(air.cell (p:=⟨cb,co+3,none⟩) hcb).trans c3;have hsame:=Xn e3;have Qi:=JJ hs3;have SE:=JJ ((OZ.out.trans HG2.out).trans hk3);have hN3:(bs++le c.KI 4++(le (n:Int) 1++Ls c.JQ)++le (lp+1) 1).length<=10000041:=by rw[KN];simp only[J4];omega
 have HLL:=JJ (aa6 w3 g cb (co+3) B n1 b c.rules v3 _ HN1.out (by omega) e4 hcb (HRB.out.keep air) HRF.out (by omega) hs3);clear hs3 hk3 hb3 air HC2 d2 HBL;go_wp2_with fail;refine HLL.out.mono ?_;rintro e w4 ⟨rfl,v4,hs4,hk4⟩;have HS4:=JJ hs4;have HK4:=JJ (SE.out.trans hk4);clear hs4 hk4 HLL hsame d3 e3 f3 e4;go_wp2_with fail
 go_end0
 exact⟨rfl,v4,by unfold acd;rw[HN.out,HN1.out,HLP.out];have h:=HS4.out;simpa only[aH] using h,HK4.out⟩
theorem al4 (w:ae)(g eb eo:Nat)(x:L9)(v:ah)(bs:ag au)(h:YR x.e.z)(hs:x.e.name.size<=32)(hr:w.rangeAt eb eo x.cells.toList)(hfz:w.frozen? ⟨eb,eo+1+2,none⟩=false)(heb:eb<g)(hA:N7 w g x.s x.e.z)
  (hl:bs.length<=9000000)(hst:NJ w g v bs):
  Calls Tryz.prog 65 #[.iface 91 (pt g),.pointer (some ⟨eb,eo,none⟩)] w (OD w g v (bs++zeB x.e)):=by
 have hgl:=hst.lt;have c0:w.cell? ⟨eb,eo,none⟩=some (.string x.e.name):=hr 0 _ rfl;have XB:Hid (w.rangeAt eb (eo+1) (J7 x.e.z.cal x.s.A x.s.a x.s.B x.s.b).toList):=JJ fun j u hu=>by
  have hj:j<4:=(MF.1 hu).1;rw[show eo+1+j=eo+(j+1) by omega];refine hr (j+1) u ?_
  match j,hj with
  |0,_=>exact hu
  |1,_=>exact hu
  |2,_=>exact hu
  |3,_=>exact hu
 have c5:w.cell? ⟨eb,eo+1+4,none⟩=some (I x.e.z.start):=hr 5 _ rfl;have c6:w.cell? ⟨eb,eo+1+5,none⟩=some (.slice x.s.C x.e.z.trans.length x.s.c):=hr 6 _ rfl;have c7:w.cell? ⟨eb,eo+1+6,none⟩=some (I x.e.z.hor):=hr 7 _ rfl;have c8:w.cell? ⟨eb,eo+1+7,none⟩=some (.slice x.s.D x.e.z.J6.length x.s.d):=hr 8 _ rfl;have hnl:x.e.name.data.toList.length=x.e.name.size:=by rw[dF];rfl
 have hcl:=abq h.cal;have htl:=h.trl;have hyl:=h.yr.len;have UG:=JJ htl;have SN:=JJ hyl;have HTF:Hid (∀z∈x.e.z.trans,Yi z):=JJ (fun z hz=>by have:=h.trs z hz;unfold Yi Qp;omega);have HYF:Hid (∀z∈x.e.z.J6,Tq z):=JJ (fun z hz=>by
  have hz2:=h.yr.mem z hz;have hml:=h.cal.ml;have a:=hz2.mo;have b:=hz2.wk;have c:=hz2.wd;have d:=hz2.mi;have e:=hz2.of;unfold Tq Qp;omega)
 clear htl hyl;have Rj:=JJ (ai0 w.drew g ⟨eb,eo,none⟩ v bs x.e.name (by omega) (by omega) hst.drew c0 (by show eb≠g;omega) (MV hst.2 eb (by omega)) (by show eb<w.heap.size;omega));have HST:=JJ hst;have HF:=JJ h;have HA:=JJ hA;have HCC:Hid (∀j u,ai g w u->u.cell? ⟨eb,j,none⟩=w.cell? ⟨eb,j,none⟩):=JJ fun j u hb=>hb.cell (p:=⟨eb,j,none⟩) heb;have HL:Hid (x.e.name.data.toList.length=x.e.name.size/\(acd x.e.z.cal).length<=110/\x.e.name.size<=32/\bs.length<=9000000):=JJ ⟨hnl,hcl,hs,hl⟩;clear h hr hst hA hnl hcl hs hl;go_enter Tryz.func65,Tryz.ntmps65;go_wp2_with fail;go_still_tail 7,(by kernel_rfl);go_wp2_with fail;refine Rj.out.mono ?_;rintro e w1 ⟨rfl,v1,hs1,hk1⟩;obtain⟨B1,hB1⟩:∃B,bs++(le x.e.name.size 1++x.e.name.data.toList)=B:=⟨_,rfl⟩;have hl1:B1.length<=9000040:=by rw[<-hB1];have:=HL.out;simp only[KN,J4];omega
 rw[hB1] at hs1;have hb1:=Lc HST.out (Kw hk1);have HB1:=JJ hb1;have PT:=JJ hs1;have Pz:=JJ (Kw hk1);have Ri:=JJ hB1;have HC2:=JJ (aeI w1 g eb (eo+1) x.e.z.cal x.s.A x.s.a x.s.B x.s.b v1 B1 HF.out.cal (fun j u hu=>(hb1.cell (p:=⟨eb,eo+1+j,none⟩) heb).trans (XB.out j u hu)) ((hb1.frozen (p:=⟨eb,eo+1+2,none⟩) heb).trans hfz) heb (HA.out.JQ.ints.keep hb1) (HA.out.rules.keep hb1) (by omega) hs1);clear hs1 hk1 hb1 Rj hB1 c0;go_wp2_with fail;refine HC2.out.mono ?_;rintro e w2 ⟨rfl,v2,hs2,hk2⟩;obtain⟨B2,hB2⟩:∃B,B1++acd x.e.z.cal=B:=⟨_,rfl⟩;have hl2:B2.length<=9000160:=by rw[<-hB2];have:=HL.out;simp only[KN];omega
 rw[hB2] at hs2;have hb2:=HB1.out.trans (Lc PT.out hk2);have HB2:=JJ hb2;have HS2:=JJ hs2;have OZ:=JJ (Pz.out.trans hk2);have PR:=JJ hB2;have asc:=HF.out.st;have Wh:=JJ (Vp w2.drew g ⟨eb,eo+1+4,none⟩ v2 B2 x.e.z.start (by omega) (by omega) (by omega) hs2.drew ((HCC.out _ _ hb2).trans c5));clear hs2 hk2 hb2 HC2 hB2 c5 asc;go_wp2_with fail;go_still_tail 7,(by kernel_rfl);go_wp2_with fail;refine Wh.out.mono ?_;rintro e w3 ⟨rfl,v3,hs3,hk3⟩;obtain⟨B3,hB3⟩:∃B,B2++le x.e.z.start 2=B:=⟨_,rfl⟩;have hl3:B3.length<=9000170:=by rw[<-hB3];simp only[KN,J4];omega
 rw[hB3] at hs3;have hb3:=HB2.out.trans (Lc HS2.out (Kw hk3));have HB3:=JJ hb3;have Qi:=JJ hs3;have SE:=JJ (OZ.out.trans (Kw hk3));have Zf:=JJ hB3;have WT:=JJ (aat w3 g eb (eo+1+5) x.s.C x.e.z.trans.length x.s.c x.e.z.trans v3 B3 rfl (by have:=UG.out;omega) ((HCC.out _ _ hb3).trans c6) heb (HA.out.trans.keep hb3) HTF.out (by omega) hs3);clear hs3 hk3 hb3 Wh hB3 c6;go_wp2_with fail;refine WT.out.mono ?_;rintro e w4 ⟨rfl,v4,hs4,hk4⟩;obtain⟨B4,hB4⟩:∃B,B3++(le x.e.z.trans.length 2++x.e.z.trans.flatMap PO)=B:=⟨_,rfl⟩;have hl4:B4.length<=9006000:=by rw[<-hB4];simp only[KN,J4,Wl PO 10 Vq];have:=UG.out;omega
 rw[hB4] at hs4;have hb4:=HB3.out.trans (Lc Qi.out hk4);have HB4:=JJ hb4;have HS4:=JJ hs4;have HK4:=JJ (SE.out.trans hk4);have HQ4:=JJ hB4;have hh0:=HF.out.ho;have HC5:=JJ (Lp w4.drew g ⟨eb,eo+1+6,none⟩ v4 B4 x.e.z.hor 8 (by omega) (by omega) (by omega) (by omega) hs4.lt hs4.drew ((HCC.out _ _ hb4).trans c7));clear hs4 hk4 hb4 WT hB4 c7 hh0;go_wp2_with fail;go_still_tail 7,(by kernel_rfl);go_wp2_with fail;refine HC5.out.mono ?_;rintro e w5 ⟨rfl,v5,hs5,hk5⟩;obtain⟨B5,hB5⟩:∃B,B4++le x.e.z.hor 8=B:=⟨_,rfl⟩;have hl5:B5.length<=9006100:=by rw[<-hB5];simp only[KN,J4];omega
 rw[hB5] at hs5;have hb5:=HB4.out.trans (Lc HS4.out (Kw hk5));have UO:=JJ hs5;have HK5:=JJ (HK4.out.trans (Kw hk5));have HQ5:=JJ hB5;have Ug:=JJ (aa8 w5 g eb (eo+1+7) x.s.D x.e.z.J6.length x.s.d x.e.z.J6 v5 B5 rfl (by have:=SN.out;omega) ((HCC.out _ _ hb5).trans c8) heb (HA.out.J6.keep hb5) HYF.out (by omega) hs5);clear hs5 hk5 hb5 HC5 hB5 c8;go_wp2_with fail;refine Ug.out.mono ?_;rintro e w6 ⟨rfl,v6,hs6,hk6⟩;have HS6:=JJ hs6;have HK6:=JJ (HK5.out.trans hk6);clear hs6 hk6 Ug;go_wp2_with fail
 go_end0
 refine⟨rfl,v6,?_,HK6.out⟩;have h:=HS6.out;rw[<-HQ5.out,<-HQ4.out,<-Zf.out,<-PR.out,<-Ri.out] at h;unfold zeB znB;simpa only[aH] using h
end
section
attribute [local go_sem] O8 Pj O9 Pm QY QZ O6 Pg O7 Ph
def RN (zs:ag Ze):ag au:=zs.flatMap Y3
theorem acV (w:ae)(g lb lo:Nat)(A:aj Addr)(c:Nat)(v:ah)(bs:ag au)(hp:w.cell? ⟨lb,lo,none⟩=some (.slice A 0 c))(hl:bs.length<=100000000)(hst:NJ w g v bs):
  Calls Tryz.prog 64 #[.iface 91 (pt g),.pointer (some ⟨lb,lo,none⟩),I 1,.func (.func 65) #[] #[]] w (OD w g v (bs++le 0 1)):=by
 have HC:=JJ (Pv w.drew g v bs 0 1 (by omega) (by omega) (by omega) (by omega) hst.drew);clear hst;go_enter nN,mP;go_wp2_with fail;go_still_tail 9,(by kernel_rfl);go_wp2_with fail;refine HC.out.mono ?_;rintro e w1 ⟨rfl,v1,hs1,hk1⟩;have PT:=JJ hs1;have Pz:=JJ (Kw hk1);clear hs1 hk1 HC hp;go_wp2_with fail
 go_loop [22] (fun i=>i=.int .i64 0) (fun _=>0)
 case atStart=>rfl
 case round=>
  subst hrel;go_wp2_with fail
  go_end0
  exact⟨rfl,v1,PT.out,Pz.out⟩
structure Zq (g:Nat)(w:ae)(A:aj Addr)(zs:ag L9):Prop where
 row:zs.length=0\/∃zg,A=some ⟨zg,0,none⟩/\zg<g/\(∀j u,(KC zs)[j]? =some u->w.cell? ⟨zg,j,none⟩=some u)/\∀j,w.frozen? ⟨zg,j,none⟩=false
 JQ:∀x∈zs,OT w g x.s.A x.e.z.cal.JQ
theorem Zq.keep {g:Nat}{w w':ae}{A:aj Addr}{zs:ag L9}(h:Zq g w A zs)(hb:ai g w w'):Zq g w' A zs:=
 ⟨h.row.elim .inl fun ⟨zg,h1,h2,h3,h4⟩=>.inr ⟨zg,h1,h2,fun j u hu=>(hb.cell (p:=⟨zg,j,none⟩) h2).trans (h3 j u hu),fun j=>(hb.frozen (p:=⟨zg,j,none⟩) h2).trans (h4 j)⟩,fun x hx=>(h.JQ x hx).keep hb⟩
theorem Zq.more {g g':Nat}{w:ae}{A:aj Addr}{zs:ag L9}(h:Zq g w A zs)(hg:g<=g'):Zq g' w A zs:=
 ⟨h.row.elim .inl fun ⟨zg,h1,h2,h3⟩=>.inr ⟨zg,h1,by omega,h3⟩,fun x hx=>(h.JQ x hx).more hg⟩
theorem OI.low {lo n c:Nat}{w:ae}{A:aj Addr}{zs:ag L9}(h:OI lo w (.slice A n c) zs):Zq w.heap.size w A zs:=by
 refine⟨?_,fun x hx=>(h.JQ x hx).ints⟩;rcases h.form with ⟨h1,_⟩|⟨_,g,c',h2,_,h4⟩
 ·exact .inl (by rw[h1];rfl)
 ·injection h2 with e1 e2 e3;subst e1 e2;exact .inr ⟨g,rfl,h4,fun j u hu=>Vf h.row j u hu,ZZ h.row⟩
def NR (t:Tb):ag au:=le t.J5 1++(le t.version 1++(le t.JU 1++(t.prev++(le t.JX.length 1++RN t.JX))))
attribute [local go_sem] NT NU OH LD
end
def afs (w:ae)(bs:ag au)(e:Ending)(w':ae):Prop:=
 (∃g c,e=.returned (.tuple #[.slice (some ⟨g,0,none⟩) bs.length c,I 0])/\w'.ownsRow w.heap.size 5 1 (.slice (some ⟨g,0,none⟩) bs.length c) bs.length (bs.map Extern.Stop.cell))/\ai w.heap.size w w'
section
attribute [local go_sem] O8 Pj O9 Pm QY QZ O6 Pg O7 Ph
def zsB (zs:ag Ze):ag au:=zs.flatMap zeB
theorem amr (zs:ag Ze)(x:Ze):zsB (zs++ [x])=zsB zs++zeB x:=by simp[zsB]
def av9 (w:ae)(g:Nat)(v:ah)(bs:ag au)(n:Nat)(zs:ag Ze)(i:ah)(wr:ae):Prop:=
 ∃k:Nat,k<=n/\i=.int .i64 k/\∃v',NJ wr g v' (bs++(le n 1++zsB (zs.take k)))/\Oj g v w v' wr
structure abn (g:Nat)(w:ae)(A:aj Addr)(zs:ag L9):Prop where
 row:zs.length=0\/∃zg zo,A=some ⟨zg,zo,none⟩/\zg<g/\(∀j u,(KC zs)[j]? =some u->w.cell? ⟨zg,zo+j,none⟩=some u)/\∀j,w.frozen? ⟨zg,zo+j,none⟩=false
 each:∀x∈zs,N7 w g x.s x.e.z
theorem abn.keep {g:Nat}{w w':ae}{A:aj Addr}{zs:ag L9}(h:abn g w A zs)(hb:ai g w w'):abn g w' A zs:=
 ⟨h.row.elim .inl fun ⟨zg,zo,h1,h2,h3,h4⟩=>.inr ⟨zg,zo,h1,h2,fun j u hu=>(hb.cell (p:=⟨zg,zo+j,none⟩) h2).trans (h3 j u hu),fun j=>(hb.frozen (p:=⟨zg,zo+j,none⟩) h2).trans (h4 j)⟩,fun x hx=>(h.each x hx).keep hb⟩
theorem XJ.low {lo:Nat}{w:ae}{A:aj Addr}{zs:ag L9}(h:XJ lo w A zs):abn w.heap.size w A zs:=by
 refine⟨?_,fun x hx=>(h.each x hx).at⟩;rcases h.free with h1|⟨b,off,h1,_,h2,h3⟩
 ·exact .inl h1
 ·rcases h.row with h4|⟨b',off',h4,_,_,h5⟩
  ·rw[MB] at h4;exact .inl (by omega)
  ·rw[h1] at h4;injection h4 with h4;injection h4 with e1 e2;subst e1 e2;exact .inr ⟨b,off,h1,h2,h5,h3⟩
def PN (t:Tb):ag au:=le t.J5 1++(le t.version 1++(le t.JU 1++(t.prev++(le t.JX.length 1++zsB t.JX))))
attribute [local go_sem] NT NU OH LD
end
section
attribute [local go_sem] O8 Pj O9 Pm QY QZ O6 Pg O7 Ph
structure TbY (t:Tb):Prop where
 J5:0<=t.J5/\t.J5<16
 version:1<=t.version/\t.version<=64
 JU:0<=t.JU/\t.JU<t.version
 prev:t.prev.length=32
 Ku:t.Ku.length=32
 num:t.JX.length<=128
 good:∀e∈t.JX,YR e.z
 short:∀e∈t.JX,e.name.size<=32
theorem axI {z:Zn}(h:VH z=0):YR z:=by
 unfold VH at h;split at h
 ·omega
 ·split at h
  ·rename_i h2;exact(acv z).1 h2
  ·omega
theorem ag2:∀(es:ag Ze) (last:ByteArray),Mc last es=0->∀e∈es,YR e.z/\e.name.size<=32
 | [],_,_,_,h=>nomatch h
 |x::es,last,h,e,he=>by
  rw[Si] at h;split at h
  ·omega
  ·rename_i h1;split at h
   ·rename_i h2;rcases dQ.1 he with rfl|he
    ·exact⟨axI h2,by omega⟩
    ·exact ag2 es _ h e he
   ·rename_i h2;exact absurd h h2
theorem aan {t:Tb}(h:O0 t=0)(hp:t.prev.length=32)(hm:t.Ku.length=32):TbY t:=by
 unfold O0 at h;split at h
 ·omega
 ·rename_i h1;split at h
  ·omega
  ·rename_i h2;split at h
   ·omega
   ·unfold tv1 at h1;unfold tv2 at h2;simp only[eP] at h1 h2;have h3:=ag2 _ _ h;exact⟨by omega,by omega,by omega,hp,hm,by omega,fun e he=>(h3 e he).1,fun e he=>(h3 e he).2⟩
theorem aaC (zs:ag Ze)(h:∀e∈zs,YR e.z/\e.name.size<=32):(zsB zs).length<=zs.length*5400:=by
 induction zs with
 |nil=>exact aG _
 |cons x zs ih=>
  have h1:=ih fun e he=>h e (iE _ he);have h2:=ami (h x gI).1 (h x gI).2;unfold zsB at h1⊢;rw[dI,KN,bG];omega
theorem aew (t:Tb)(h:TbY t):36<=(PN t).length/\(PN t).length<=700000:=by
 have h1:=aaC t.JX fun e he=>⟨h.good e he,h.short e he⟩;have h2:=h.num;have h3:=h.prev;simp only[PN,KN,J4];omega
theorem YR.len {z:Zn}(h:YR z):Qs z:=by
 have h1:=h.cal.ml;have h2:=h.cal.rl;have h3:=h.trl;have h4:=h.yr.len;exact⟨by omega,by omega,by omega,by omega⟩
theorem acW (w:ae)(g lb lo zg zo n c:Nat)(zs:ag L9)(v:ah)(bs:ag au)(hn:zs.length=n)(hn2:n<=128)(hp:w.cell? ⟨lb,lo,none⟩=some (.slice (some ⟨zg,zo,none⟩) n c))(hlg:lb<g)(hzg:zg<g)
  (hcl:∀j u,(KC zs)[j]? =some u->w.cell? ⟨zg,zo+j,none⟩=some u)(hfz:∀j,w.frozen? ⟨zg,zo+j,none⟩=false)(hfl:∀x∈zs,YR x.e.z/\x.e.name.size<=32)(hI:∀x∈zs,N7 w g x.s x.e.z)
  (hl:bs.length<=1000000)(hst:NJ w g v bs):
  Calls Tryz.prog 64 #[.iface 91 (pt g),.pointer (some ⟨lb,lo,none⟩),I 1,.func (.func 65) #[] #[]] w (OD w g v (bs++(le n 1++zsB (zs.map (·.e))))):=by
 have HC:=JJ (Pv w.drew g v bs n 1 (by omega) (by omega) (by omega) (by omega) hst.drew);have HST:=JJ hst;have HN:=JJ hn;have HF:=JJ hfl;have Ov:=JJ hcl;have HFZ:=JJ hfz;have HI:=JJ hI;have HP:=JJ hp;have hgl:=hst.lt;clear hst hn hfl hcl hfz hI;go_enter nN,mP;go_wp2_with fail;go_still_tail 9,(by kernel_rfl);go_wp2_with fail;refine HC.out.mono ?_;rintro e w1 ⟨rfl,v1,hs1,hk1⟩;have PT:=JJ hs1;have Pz:=JJ (Kw hk1);clear hs1 hk1 HC hp;go_wp2_with fail
 go_loopw [22] (fun i wr=>av9 w g v bs n (zs.map (·.e)) i wr) (fun i _=>n - (intOf i).toNat)
 case atStart=>exact⟨0,aG _,rfl,v1,by simpa[zsB] using PT.out,Pz.out⟩
 case round=>
  obtain⟨k,hk,rfl,v2,hs2,hk2⟩:=hrel;have hb2:=Lc HST.out hk2;have HB2:=JJ hb2;have HS2:=JJ hs2;have OZ:=JJ hk2;have hp2:wr.cell? ⟨lb,lo,none⟩=some (.slice (some ⟨zg,zo,none⟩) n c):=(hb2.cell (p:=⟨lb,lo,none⟩) hlg).trans HP.out;clear hs2 hk2 hb2 PT Pz;by_cases hlt:k<n
  ·have hkz:k<zs.length:=by rw[HN.out];exact hlt
   obtain⟨x,hx⟩:∃x,zs[k]? =some x:=⟨_,KL hkz⟩;have hxm:=LQ hx;have hlen:(bs++(le (n:Int) 1++zsB ((zs.map (·.e)).take k))).length<=9000000:=by
    have h1:=aaC ((zs.map (·.e)).take k) fun e he=>by
     obtain⟨y,hy,rfl⟩:=fJ.1 (dP he);exact HF.out y hy
    have h2:((zs.map (·.e)).take k).length<=128:=by rw[bn,aI,HN.out];omega
    simp only[KN,J4];omega
   have HM:=JJ (al4 wr g zg (zo+k*9) x v2 _ (HF.out x hxm).1 (HF.out x hxm).2 (JS.elem (w:=wr) (s:=9) (f:=fun x:L9=>x.cells.toList) (fun _ _=>rfl) (fun j u hu=>(HB2.out.cell (p:=⟨zg,zo+j,none⟩) hzg).trans (Ov.out j u hu)) k x hx) (by
    have hf:=(HB2.out.frozen (p:=⟨zg,zo+(k*9+3),none⟩) hzg).trans (HFZ.out (k*9+3));rw[show zo+k*9+1+2=zo+(k*9+3) by omega];exact hf) hzg ((HI.out x hxm).keep HB2.out) hlen HS2.out)
   have HX:=JJ hx;have i0:(0:Int)<=(k:Int):=by omega
   have i1:(k:Int)<(n:Int):=by omega
   have i2:((k:Int)==(n:Int))=false:=by simp;omega
   clear hkz hx hlen hxm;go_wp2_with fail;refine HM.out.mono ?_;rintro e w3 ⟨rfl,v3,hs3,hk3⟩;have Qi:=JJ hs3;have SE:=JJ (OZ.out.trans hk3);clear hs3 hk3 hp2;go_wp2_with fail;go_roundw
   case rel=>exact⟨k+1,by omega,by go_num,v3,by rw[Oq (zs.map (·.e)) k x.e (by rw[aJ,HX.out];rfl),amr,<-aH (le _ _),<-aH];exact Qi.out,SE.out⟩
   case measure=>simp[intOf];omega
  ·have hkn:k=n:=by omega
   have WY:=JJ hkn;clear hkn;go_wp2_with fail
   go_end0
   exact⟨rfl,v2,by have h:=HS2.out;rwa [WY.out,aU (by rw[aI,HN.out];exact ay _)] at h,OZ.out⟩
theorem aeJ (w:ae)(g lb lo n c:Nat)(A:aj Addr)(zs:ag L9)(v:ah)(bs:ag au)(hn:zs.length=n)(hn2:n<=128)(hp:w.cell? ⟨lb,lo,none⟩=some (.slice A n c))(hlg:lb<g)(hz:abn g w A zs)(hfl:∀x∈zs,YR x.e.z/\x.e.name.size<=32)
  (hl:bs.length<=1000000)(hst:NJ w g v bs):
  Calls Tryz.prog 64 #[.iface 91 (pt g),.pointer (some ⟨lb,lo,none⟩),I 1,.func (.func 65) #[] #[]] w (OD w g v (bs++(le n 1++zsB (zs.map (·.e))))):=by
 by_cases h0:n=0
 ·subst h0;have:=acV w g lb lo A c v bs hp (by omega) hst;rw[bu hn];simpa[zsB] using this
 ·rcases hz.row with h|⟨zg,zo,rfl,h2,h3,h4⟩
  ·omega
  ·exact acW w g lb lo zg zo n c zs v bs hn hn2 hp hlg h2 h3 h4 hfl hz.each hl hst
attribute [local go_sem] NT NU OH LD
theorem al6 (w:ae)(g tb n c:Nat)(t:Tb)(A:aj Addr)(zs:ag L9)(v:ah)(h:TbY t)(hzz:t.JX=zs.map (·.e))(hn:zs.length=n)(htb:tb<g)(hr:Row w tb (JK t (.slice A n c)))(hz:abn g w A zs)(hst:NJ w g v []):
  Calls Tryz.prog 43 #[.iface 91 (pt g),.pointer (some ⟨tb,0,none⟩)] w (OD w g v (PN t)):=by
 have hgl:=hst.lt;have c0:=hr.2 0;have c1:w.cell? ⟨tb,1,none⟩=some (I t.version):=(hr.2 1).trans (NU _ _);have c2:w.cell? ⟨tb,2,none⟩=some (I t.JU):=(hr.2 2).trans (OH _ _);have c3:w.cell? ⟨tb,3,none⟩=some (.slice A n c):=(hr.2 3).trans (LD _ _);have hn2:n<=128:=by have:=h.num;rw[hzz,aI] at this;omega
 have q1:=h.J5;have q2:=h.version;have q3:=h.JU;have Rj:=JJ (Lp w.drew g ⟨tb,0,none⟩ v [] t.J5 1 (by omega) (by omega) (by omega) (by decide) hst.lt hst.drew (c0.trans (NT _ _)));have HPV:=JJ (Tj t (.slice A n c) hr);have HST:=JJ hst;have HF:=JJ h;have HZ:=JJ hz;have HZZ:=JJ hzz;have HN:=JJ hn;have HCC:Hid (∀j u,ai g w u->u.cell? ⟨tb,j,none⟩=w.cell? ⟨tb,j,none⟩):=JJ fun j u hb=>hb.cell (p:=⟨tb,j,none⟩) htb;have HFL:Hid (∀x∈zs,YR x.e.z/\x.e.name.size<=32):=JJ fun x hx=>by
  have hm:x.e∈t.JX:=by rw[hzz];exact fM hx
  exact⟨h.good _ hm,h.short _ hm⟩
 clear h hr hst hz hzz hn c0;go_enter Tryz.func43,Tryz.ntmps43;go_wp2_with fail;go_still_tail 7,(by kernel_rfl);go_wp2_with fail;refine Rj.out.mono ?_;rintro e w1 ⟨rfl,v1,hs1,hk1⟩;obtain⟨B1,hB1⟩:∃B,[]++le t.J5 1=B:=⟨_,rfl⟩;have hl1:B1.length<=1:=by rw[<-hB1];simp[J4]
 rw[hB1] at hs1;have hb1:=Lc HST.out (Kw hk1);have HB1:=JJ hb1;have PT:=JJ hs1;have Pz:=JJ (Kw hk1);have Ri:=JJ hB1;have HC2:=JJ (Lp w1.drew g ⟨tb,1,none⟩ v1 B1 t.version 1 (by omega) (by omega) (by omega) (by omega) hs1.lt hs1.drew ((HCC.out _ _ hb1).trans c1));clear hs1 hk1 hb1 Rj hB1 c1;go_wp2_with fail;go_still_tail 7,(by kernel_rfl);go_wp2_with fail;refine HC2.out.mono ?_;rintro e w2 ⟨rfl,v2,hs2,hk2⟩;obtain⟨B2,hB2⟩:∃B,B1++le t.version 1=B:=⟨_,rfl⟩;have hl2:B2.length<=2:=by rw[<-hB2,KN,J4];omega
 rw[hB2] at hs2;have hb2:=HB1.out.trans (Lc PT.out (Kw hk2));have HB2:=JJ hb2;have HS2:=JJ hs2;have OZ:=JJ (Pz.out.trans (Kw hk2));have PR:=JJ hB2;have Wh:=JJ (Lp w2.drew g ⟨tb,2,none⟩ v2 B2 t.JU 1 (by omega) (by omega) (by omega) (by omega) hs2.lt hs2.drew ((HCC.out _ _ hb2).trans c2));clear hs2 hk2 hb2 HC2 hB2 c2;go_wp2_with fail;go_still_tail 7,(by kernel_rfl);go_wp2_with fail;refine Wh.out.mono ?_;rintro e w3 ⟨rfl,v3,hs3,hk3⟩;obtain⟨B3,hB3⟩:∃B,B2++le t.JU 1=B:=⟨_,rfl⟩;have hl3:B3.length<=3:=by rw[<-hB3,KN,J4];omega
 rw[hB3] at hs3;have hb3:=HB2.out.trans (Lc HS2.out (Kw hk3));have HB3:=JJ hb3;have Qi:=JJ hs3;have SE:=JJ (OZ.out.trans (Kw hk3));have Zf:=JJ hB3;have WT:=JJ (aez w3.drew g tb 4 v3 B3 t.prev (by omega) (fun j u hu=>(HCC.out _ _ hb3).trans (HPV.out j u hu)) HF.out.prev hs3.drew);clear hs3 hk3 hb3 Wh hB3;go_wp2_with fail;go_still_tail 7,(by kernel_rfl);go_wp2_with fail;refine WT.out.mono ?_;rintro e w4 ⟨rfl,v4,hs4,hk4⟩;obtain⟨B4,hB4⟩:∃B,B3++t.prev=B:=⟨_,rfl⟩;have hl4:B4.length<=35:=by rw[<-hB4,KN,HF.out.prev];omega
 rw[hB4] at hs4;have hb4:=HB3.out.trans (Lc Qi.out (Kw hk4));have HS4:=JJ hs4;have HK4:=JJ (SE.out.trans (Kw hk4));have HQ4:=JJ hB4;have HC5:=JJ (aeJ w4 g tb 3 n c A zs v4 B4 HN.out hn2 ((HCC.out _ _ hb4).trans c3) htb (HZ.out.keep hb4) HFL.out (by omega) hs4);clear hs4 hk4 hb4 WT hB4 c3;go_wp2_with fail;refine HC5.out.mono ?_;rintro e w5 ⟨rfl,v5,hs5,hk5⟩;have UO:=JJ hs5;have HK5:=JJ (HK4.out.trans hk5);clear hs5 hk5 HC5;go_wp2_with fail
 go_end0
 refine⟨rfl,v5,?_,HK5.out⟩;have hh:=UO.out;rw[<-HQ4.out,<-Zf.out,<-PR.out,<-Ri.out] at hh;unfold PN;rw[HZZ.out,aI,HN.out];simpa only[aH,bU] using hh
theorem QB (t:Tb)(A:aj Addr)(n c:Nat)(zs:ag L9)(w:ae)(h:TbY t)(hzz:t.JX=zs.map (·.e))(hn:zs.length=n)(hA:O3 w w.heap.size A zs)(hv:O0 t=0):
  Calls Tryz.prog 22 #[.agg (JK t (.slice A n c))] w (afs w (PN t)):=by
 have HR0:=JJ (Row.new w (JK t (.slice A n c)) 26);have HB0:=JJ (JM w (.cells (JK t (.slice A n c)) 26));have HH0:=JJ (aF w (.cells (JK t (.slice A n c)) 26));have L6:Hid (∀v,(Tryz.prog.info? 26).map (·.size)=some (JK t v).size):=JJ fun v=>Ky t v h.prev h.Ku;have HSO:Hid (∀u v,(JK t u).size=(JK t v).size):=JJ fun u v=>by rw[Kq _ _ h.prev h.Ku,Kq _ _ h.prev h.Ku]
 have HV:Hid (∀W,ai w.heap.size w W->Calls Tryz.prog 29 #[.agg (JK t (.slice A n c))] W (Gives (I 0) W)):=JJ fun W hb=>
  by have h9:=Vl t A n c zs W h.prev hzz hn (hA.grow hb);rw[hv] at h9;exact h9
 have Ov:Hid (∀W,ai w.heap.size w W->Calls Tryz.prog 36 #[.agg (JK t (.slice A n c))] W (ClV W ⟨t,A,c,zs⟩)):=JJ fun W hb=>by
  have h2:zs.length<=128:=by have:=h.num;rw[hzz,aI] at this;exact this
  exact Ut ⟨t,A,c,zs⟩ n W hn (by omega) (fun y hy=>(h.good _ (by rw[hzz];exact fM hy)).len) ⟨hzz,h.prev,h.Ku,hA.grow hb⟩
 have HF:=JJ h;have HZZ:=JJ hzz;have HN:=JJ hn;clear h hzz hn hA hv;go_enter Tryz.func22,Tryz.ntmps22;go_wp2_with(with_reducible refine Nb 26 ?_;refine KF rfl _ _ rfl w.heap.size rfl (JK t (.slice A n c)) HR0.out _ az rfl (L6.out _) ?_);refine(HV.out _ HB0.out).mono ?_;rintro e w1 ⟨rfl,hb1⟩;have HR1:=JJ (HR0.out.keep hb1);have HB1:=JJ (JL HB0.out hb1);have HH1:Hid (w1.heap[w.heap.size]? =some (.cells (JK t (.slice A n c)) 26 (0,0))):=JJ ((hb1.block _ (by simp)).trans HH0.out);clear hb1 HR0 HB0 HH0 HV;go_wp2_with(with_reducible refine Nb 26 ?_;refine KF rfl _ _ rfl w.heap.size rfl (JK t (.slice A n c)) HR1.out _ az rfl (L6.out _) ?_);refine(Ov.out _ HB1.out).mono ?_;rintro e w2 ⟨⟨t2,A2,c2,zs2⟩,ht2,he2,rfl,hO2,hb2⟩;have ht3:t=t2:=ht2.symm;subst ht3;have he2:zs2.map (·.e)=zs.map (·.e):=he2;have SI:=JJ (show XJ w1.heap.size w2 A2 zs2 from hO2.JX);have hy2:zs2.length=n:=by have:=dA List.length he2;simpa[HN.out] using this
 have HE2:=JJ he2;have HH2:Hid (w2.heap[w.heap.size]? =some (.cells (JK t (.slice A n c)) 26 (0,0))):=JJ ((hb2.block _ HR1.out.1).trans HH1.out);have HB2:=JJ (JL HB1.out hb2);have hl1:w.heap.size<w1.heap.size:=HR1.out.1;dsimp only;rw[hy2];clear hO2 he2 hb2 Ov;go_wp2_with(with_reducible refine Lj 26 ?_;refine aB rfl _ _ _ rfl w.heap.size (JK t (.slice A2 n c2)) rfl rfl 26 (JK t (.slice A n c)) HH2.out (L6.out _) (HSO.out _ _) (J9 _ _ _ _) ?_);have hw3:(w2.setRow w.heap.size (JK t (.slice A2 n c2))).heap[w.heap.size]? =some (.cells (JK t (.slice A2 n c2)) 26 (0,0)):=aQ _ _ _ _ _ _ HH2.out;have hs3:(w2.setRow w.heap.size (JK t (.slice A2 n c2))).heap.size=w2.heap.size:=by simp[World.setRow]
 have hb3:ai w.heap.size w (w2.setRow w.heap.size (JK t (.slice A2 n c2))):=eH HB2.out (ay _) _;have hz3:XJ (w.heap.size+1) (w2.setRow w.heap.size (JK t (.slice A2 n c2))) A2 zs2:=
  (SI.out.lower (by omega)).Kr (by rw[hs3];exact ay _) fun k hk _=>cZ _ _ k _ (by omega)
 generalize w2.setRow w.heap.size (JK t (.slice A2 n c2))=w3 at hw3 hs3 hb3 hz3⊢;rw[<-hs3];have hba:=JM w3 (.cells #[.slice none 0 0] 93);have hst:NJ (w3.alloc (.cells #[.slice none 0 0] 93)) w3.heap.size (.slice none 0 0) []:=⟨aF w3 _,dD _ _ _ _⟩;have hl3:w.heap.size<w3.heap.size:=(KY.1 hw3).1;refine(al6 (w3.alloc (.cells #[.slice none 0 0] 93)) w3.heap.size w.heap.size n c2 t A2 zs2 (.slice none 0 0) HF.out (by rw[HE2.out];exact HZZ.out) hy2 hl3 ⟨by simp;omega,fun i=>(hba.cell (p:=⟨w.heap.size,i,none⟩) hl3).trans (aC w3 _ i _ _ _ hw3)⟩ (hz3.low.keep hba) hst).mono ?_;rintro e w4 ⟨rfl,v4,hs4,hk4⟩;have hb4:ai w.heap.size w w4:=(JL hb3 hba).trans ((Lc hst hk4).mono (by omega));have hc4:w4.cell? ⟨w3.heap.size,0,none⟩=some v4:=aC w4 _ 0 _ _ _ hs4.1;have hlen:=aew t HF.out;obtain⟨g4,c4,rfl,hg4⟩:=LW hs4.2 (by omega);have HB4:=JJ hb4;have HO4:=JJ (KD hs4.2 (base':=w.heap.size) (by omega));clear hw3 hs3 hb3 hz3 hba hst hs4 hk4 hb4 hlen hg4;go_wp2_with fail;go_ret2;exact⟨⟨g4,c4,rfl,HO4.out⟩,HB4.out⟩
theorem V8 (t:Tb)(A:aj Addr)(n c:Nat)(zs:ag L9)(w:ae)(hp:t.prev.length=32)(hm:t.Ku.length=32)(hzz:t.JX=zs.map (·.e))(hn:zs.length=n)(hA:O3 w w.heap.size A zs)(hv:O0 t≠0):
  Calls Tryz.prog 22 #[.agg (JK t (.slice A n c))] w (Gives (.tuple #[.slice none 0 0,I (O0 t)]) w):=by
 have HR0:=JJ (Row.new w (JK t (.slice A n c)) 26);have HB0:=JJ (JM w (.cells (JK t (.slice A n c)) 26));have L6:Hid (∀v,(Tryz.prog.info? 26).map (·.size)=some (JK t v).size):=JJ fun v=>Ky t v hp hm;have HV:Hid (∀W,ai w.heap.size w W->Calls Tryz.prog 29 #[.agg (JK t (.slice A n c))] W (Gives (I (O0 t)) W)):=JJ fun W hb=>Vl t A n c zs W hp hzz hn (hA.grow hb);obtain⟨v,hvv⟩:∃v,O0 t=v:=⟨_,rfl⟩;rw[hvv] at HV hv⊢;have hv1:(v !=0)=true:=by simp[hv]
 clear hp hm hzz hn hA hvv;go_enter Tryz.func22,Tryz.ntmps22;go_wp2_with(with_reducible refine Nb 26 ?_;refine KF rfl _ _ rfl w.heap.size rfl (JK t (.slice A n c)) HR0.out _ az rfl (L6.out _) ?_);refine(HV.out _ HB0.out).mono ?_;rintro e w1 ⟨rfl,hb1⟩;have HB1:=JJ (JL HB0.out hb1);clear hb1;go_wp2_with fail;go_ret2;exact⟨rfl,HB1.out⟩
def av3 (w:ae)(t:Tb)(e:Ending)(w':ae):Prop:=
 (O0 t=0/\afs w (PN t) e w')\/(O0 t≠0/\Gives (.tuple #[.slice none 0 0,I (O0 t)]) w e w')
theorem aag (t:Tb)(A:aj Addr)(n c:Nat)(zs:ag L9)(w:ae)(hp:t.prev.length=32)(hm:t.Ku.length=32)(hzz:t.JX=zs.map (·.e))(hn:zs.length=n)(hA:O3 w w.heap.size A zs):
  Calls Tryz.prog 22 #[.agg (JK t (.slice A n c))] w (av3 w t):=by
 by_cases hv:O0 t=0
 ·exact(QB t A n c zs w (aan hv hp hm) hzz hn hA hv).mono fun e w' h=>.inl ⟨hv,h⟩
 ·exact(V8 t A n c zs w hp hm hzz hn hA hv).mono fun e w' h=>.inr ⟨hv,h⟩
end
end Go.Proofs.YtbaehbbonkljpaaGreatDoor
