/- The texts TbY2, Qd, Pk, Ka, Back, in this order. -/
import Derived.Test.YtdibbemgpikgjaaGreatDoorY00
import Derived.Test.YtdibbemgpikgjaaGreatDoorY01
import Derived.Test.YtdibbemgpikgjaaGreatDoorY02
import Derived.Test.YtdibbemgpikgjaaGreatDoorY04
set_option maxRecDepth 10000
set_option maxHeartbeats 8000000
namespace Go.Proofs.YtdibbemgpikgjaaGreatDoor
open Go Go.RowKit
attribute [local go_sem] mF mO mG mP qN qO mr mJ mD mM
def ja (c:Cal):List UInt8:=le c.aX 4++((le c.az.length 1++dm c.az)++(le 0 1++le 0 1))
theorem rX (c:Cal):(ja c).length=7+c.az.length:=by simp [ja,aF,iG];omega
theorem CZ (w:World) (g cb co:Nat) (c:Cal) (A:Option Addr) (a:Nat) (B:Option Addr) (b:Nat) (v:Value) (bs:List UInt8) (hc:zX c) (hr:w.rangeAt cb co (aG c A a B b).toList) (hfz:w.frozen? ⟨cb,co+2,none⟩=false) (hcb:cb<g) (hA:fJ w g A c.az)
  (hl:bs.length≤10000000) (hst:fA w g v bs):
  Calls Tryz.prog 68 #[.iface 77 (pt g), .pointer (some ⟨cb,co,none⟩)] w (fE w g v (bs++ja c)):=by
 have hgl:=hst.lt;have c0:w.cell? ⟨cb,co,none⟩=some (I c.aX):=hr 0 _ rfl;have c1:w.cell? ⟨cb,co+1,none⟩=some (.slice A c.az.length a):=hr 1 _ rfl;have c2:w.cell? ⟨cb,co+2,none⟩=some (I (-1)):=(hr 2 _ rfl).trans (by rw [hc.le]);have c3:w.cell? ⟨cb,co+3,none⟩=some (.slice B 0 b):=(hr 3 _ rfl).trans (by rw [hc.ru];rfl);obtain ⟨n,hn⟩:∃n,c.az.length=n:=⟨_,rfl⟩;rw [hn] at c1;have hn2:n≤16:=by have:=hc.mo.2;omega
 have hN1:(bs++le c.aX 4).length≤10000004:=by rw [aZ,aF];omega
 have HE:=ae hc.ep;have HN:=ae hn;have HM:Hid (∀z∈c.az,fits z):=ae fun z hz=>by have:=hc.all z hz;unfold fits;omega
 have lV:=ae (bH w.drew g ⟨cb,co,none⟩ v bs c.aX 4 (by have:=hc.ep;omega) (by have:=hc.ep;omega) (by omega) (by omega) hst.lt hst.drew c0);have HST:=ae hst;have HA:=ae hA;clear hc hr hst hA hn;go_enter Tryz.func68,Tryz.ntmps68;go_wp2_with fail;go_still_tail 7,(by kernel_rfl);go_wp2_with fail;refine lV.out.mono ?_;rintro e w1 ⟨rfl,v1,hs1,hk1⟩;have hb1:=bu HST.out (aI hk1);have HB1:=ae hb1;have iq:=ae hs1;have iF:=ae (aI hk1);have d1:w1.cell? ⟨cb,co+1,none⟩=some (.slice A n a):=(hb1.cell (p:=⟨cb,co+1,none⟩) hcb).trans c1;have hcb1:cb<w1.heap.size:=by have:=hs1.lt;omega
 have HL:=ae (xJ w1 g cb (co+1) A n a c.az v1 _ HN.out (by omega) d1 hcb (HA.out.keep hb1) HM.out (by omega) hs1);have U2:(bs++le c.aX 4++(le (n:Int) 1++dm c.az)).length≤10000040:=by
  simp only [aZ,aF,iG,HN.out];omega
 clear hs1 hk1 hb1 lV c0 d1;go_wp2_with fail;refine HL.out.mono ?_;rintro e w2 ⟨rfl,v2,hs2,hk2⟩;have hb2:=HB1.out.trans (bu iq.out hk2);have HB2:=ae hb2;have HS2:=ae hs2;have iO:=ae (iF.out.trans hk2);have d2:w2.cell? ⟨cb,co+2,none⟩=some (I (-1)):=(hb2.cell (p:=⟨cb,co+2,none⟩) hcb).trans c2;obtain ⟨h1,h2⟩:=hs2.grow (ag w2 (.cells #[I 0] 3));have Hr:=ae h1;have HG2:=ae h2;have NK:=ae hs2.new_ne;have yR:=ae (heap_alloc_last w2 (.cells #[I 0] 3));have HC2:=ae (bH (w2.alloc (.cells #[I 0] 3)) g ⟨w2.heap.size,0,none⟩ v2 _ 0 1 (by omega) (by omega) (by omega) (by omega) h1.lt h1 ((Row.new w2 #[I 0] 3).2 0));clear hs2 hk2 hb2 HL h1 h2;go_wp2_with fail;refine HC2.out.mono ?_;rintro e w3 ⟨rfl,v3,hs3,hk3⟩;have hb3:=bu Hr.out hk3;have d3:w3.cell? ⟨w2.heap.size,0,none⟩=some (I 0):=cell_of_row w3 _ 0 _ _ _ ((Hr.out.far hk3 w2.heap.size (by simp) NK.out.1 NK.out.2).trans yR.out);have zJ:Below g w w3:=(HB2.out.trans ((ag w2 (.cells #[I 0] 3)).mono (by have:=HS2.out.lt;omega))).trans hb3;have HB3:=ae zJ;have e3:w3.cell? ⟨cb,co+2,none⟩=some (I (-1)):=(zJ.cell (p:=⟨cb,co+2,none⟩) hcb).trans c2;have f3:w3.frozen? ⟨cb,co+2,none⟩=false:=(zJ.frozen (p:=⟨cb,co+2,none⟩) hcb).trans hfz;have e4:w3.cell? ⟨cb,co+3,none⟩=some (.slice B 0 b):=(zJ.cell (p:=⟨cb,co+3,none⟩) hcb).trans c3;have hsame:=iZ e3;have jU:=ae hs3;have mV:=ae ((iO.out.trans HG2.out).trans hk3);have hN3:(bs++le c.aX 4++(le (n:Int) 1++dm c.az)++le 0 1).length≤10000041:=by rw [aZ];simp only [aF];omega
 have HLL:=ae (Dc w3 g cb (co+3) B b v3 _ e4 (by omega) hs3);clear hs3 hk3 hb3 zJ HC2 d2 yR;go_wp2_with fail;refine HLL.out.mono ?_;rintro e w4 ⟨rfl,v4,hs4,hk4⟩;have Ad:=ae hs4;have NJ:=ae (mV.out.trans hk4);clear hs4 hk4 HLL hsame d3 e3 f3 e4;go_wp2_with fail
 go_end0
 exact ⟨rfl,v4,by unfold ja;rw [HN.out];have h:=Ad.out;simpa [List.append_assoc] using h,NJ.out⟩
def oD (e:Ze):List UInt8:=(le e.name.size 1++e.name.data.toList)++(ja e.z.cal++(le e.z.start 2++(le 0 2++(le e.z.hor 8++le 0 1))))
theorem Dp (e:Ze) (h:gU e.z) (hs:e.name.size≤32):(oD e).length≤69:=by
 have h1:=rX e.z.cal;have h2:=h.cal.mo.2;have h3:e.name.data.toList.length=e.name.size:=by rw [Array.length_toList];rfl
 simp only [oD,aZ,aF,h1,h3];omega
theorem JE (w:World) (g eb eo:Nat) (x:dB) (v:Value) (bs:List UInt8) (h:gU x.e.z) (hs:x.e.name.size≤32) (hr:w.rangeAt eb eo x.cells.toList) (hfz:w.frozen? ⟨eb,eo+1+2,none⟩=false) (heb:eb<g) (hA:fJ w g x.s.A x.e.z.cal.az)
  (hl:bs.length≤9000000) (hst:fA w g v bs):
  Calls Tryz.prog 49 #[.iface 77 (pt g), .pointer (some ⟨eb,eo,none⟩)] w (fE w g v (bs++oD x.e)):=by
 have hgl:=hst.lt;have c0:w.cell? ⟨eb,eo,none⟩=some (.string x.e.name):=hr 0 _ rfl;have vS:Hid (w.rangeAt eb (eo+1) (aG x.e.z.cal x.s.A x.s.a x.s.B x.s.b).toList):=ae fun j u hu=>by
  have hj:j<4:=(eG.1 hu).1;rw [show eo+1+j=eo+(j+1) by omega];refine hr (j+1) u ?_
  match j,hj with
  |0,_=>exact hu
  |1,_=>exact hu
  |2,_=>exact hu
  |3,_=>exact hu
 have c5:w.cell? ⟨eb,eo+1+4,none⟩=some (I x.e.z.start):=hr 5 _ rfl;have c6:w.cell? ⟨eb,eo+1+5,none⟩=some (.slice x.s.C 0 x.s.c):=(hr 6 _ rfl).trans (by rw [h.trans];rfl);have c7:w.cell? ⟨eb,eo+1+6,none⟩=some (I x.e.z.hor):=hr 7 _ rfl;have c8:w.cell? ⟨eb,eo+1+7,none⟩=some (.slice x.s.D 0 x.s.d):=(hr 8 _ rfl).trans (by rw [h.aN];rfl);have hnl:x.e.name.data.toList.length=x.e.name.size:=by rw [Array.length_toList];rfl
 have hcl:=rX x.e.z.cal;have hml:=h.cal.mo.2;have lV:=ae (Fb w.drew g ⟨eb,eo,none⟩ v bs x.e.name (by omega) (by omega) hst.drew c0 (by show eb≠g;omega) (eU hst.2 eb (by omega)) (by show eb<w.heap.size;omega));have HST:=ae hst;have HF:=ae h;have HA:=ae hA;have zZ:Hid (∀j u,Below g w u→u.cell? ⟨eb,j,none⟩=w.cell? ⟨eb,j,none⟩):=ae fun j u hb=>hb.cell (p:=⟨eb,j,none⟩) heb;have HL:Hid (x.e.name.data.toList.length=x.e.name.size∧(ja x.e.z.cal).length=7+x.e.z.cal.az.length∧x.e.z.cal.az.length≤16∧x.e.name.size≤32∧bs.length≤9000000):=ae ⟨hnl,hcl,hml,hs,hl⟩;clear h hr hst hA hnl hcl hml hs hl;go_enter Tryz.func49,Tryz.ntmps49;go_wp2_with fail;go_still_tail 7,(by kernel_rfl);go_wp2_with fail;refine lV.out.mono ?_;rintro e w1 ⟨rfl,v1,hs1,hk1⟩;obtain ⟨B1,hB1⟩:∃B,bs++(le x.e.name.size 1++x.e.name.data.toList)=B:=⟨_,rfl⟩;have hl1:B1.length≤9000040:=by rw [←hB1];have:=HL.out;simp only [aZ,aF];omega
 rw [hB1] at hs1;have hb1:=bu HST.out (aI hk1);have HB1:=ae hb1;have iq:=ae hs1;have iF:=ae (aI hk1);have nY:=ae hB1;have HC2:=ae (CZ w1 g eb (eo+1) x.e.z.cal x.s.A x.s.a x.s.B x.s.b v1 B1 HF.out.cal (fun j u hu=>(hb1.cell (p:=⟨eb,eo+1+j,none⟩) heb).trans (vS.out j u hu)) ((hb1.frozen (p:=⟨eb,eo+1+2,none⟩) heb).trans hfz) heb (HA.out.keep hb1) (by omega) hs1);clear hs1 hk1 hb1 lV hB1 c0;go_wp2_with fail;refine HC2.out.mono ?_;rintro e w2 ⟨rfl,v2,hs2,hk2⟩;obtain ⟨B2,hB2⟩:∃B,B1++ja x.e.z.cal=B:=⟨_,rfl⟩;have hl2:B2.length≤9000070:=by rw [←hB2];have:=HL.out;simp only [aZ];omega
 rw [hB2] at hs2;have hb2:=HB1.out.trans (bu iq.out hk2);have HB2:=ae hb2;have HS2:=ae hs2;have iO:=ae (iF.out.trans hk2);have lC:=ae hB2;have Tz:=HF.out.start;have sG:=ae (qg w2.drew g ⟨eb,eo+1+4,none⟩ v2 B2 x.e.z.start (by omega) (by omega) (by omega) hs2.drew ((zZ.out _ _ hb2).trans c5));clear hs2 hk2 hb2 HC2 hB2 c5 Tz;go_wp2_with fail;go_still_tail 7,(by kernel_rfl);go_wp2_with fail;refine sG.out.mono ?_;rintro e w3 ⟨rfl,v3,hs3,hk3⟩;obtain ⟨B3,hB3⟩:∃B,B2++le x.e.z.start 2=B:=⟨_,rfl⟩;have hl3:B3.length≤9000080:=by rw [←hB3];simp only [aZ,aF];omega
 rw [hB3] at hs3;have hb3:=HB2.out.trans (bu HS2.out (aI hk3));have HB3:=ae hb3;have jU:=ae hs3;have mV:=ae (iO.out.trans (aI hk3));have Ac:=ae hB3;have sQ:=ae (zT w3 g eb (eo+1+5) x.s.C x.s.c v3 B3 ((zZ.out _ _ hb3).trans c6) (by omega) hs3);clear hs3 hk3 hb3 sG hB3 c6;go_wp2_with fail;refine sQ.out.mono ?_;rintro e w4 ⟨rfl,v4,hs4,hk4⟩;obtain ⟨B4,hB4⟩:∃B,B3++le 0 2=B:=⟨_,rfl⟩;have hl4:B4.length≤9000090:=by rw [←hB4];simp only [aZ,aF];omega
 rw [hB4] at hs4;have hb4:=HB3.out.trans (bu jU.out hk4);have HB4:=ae hb4;have Ad:=ae hs4;have NJ:=ae (mV.out.trans hk4);have Zk:=ae hB4;have hh0:=HF.out.hor;have zY:=ae (bH w4.drew g ⟨eb,eo+1+6,none⟩ v4 B4 x.e.z.hor 8 (by omega) (by omega) (by omega) (by omega) hs4.lt hs4.drew ((zZ.out _ _ hb4).trans c7));clear hs4 hk4 hb4 sQ hB4 c7 hh0;go_wp2_with fail;go_still_tail 7,(by kernel_rfl);go_wp2_with fail;refine zY.out.mono ?_;rintro e w5 ⟨rfl,v5,hs5,hk5⟩;obtain ⟨B5,QR⟩:∃B,B4++le x.e.z.hor 8=B:=⟨_,rfl⟩;have hl5:B5.length≤9000100:=by rw [←QR];simp only [aZ,aF];omega
 rw [QR] at hs5;have hb5:=HB4.out.trans (bu Ad.out (aI hk5));have sS:=ae hs5;have xP:=ae (NJ.out.trans (aI hk5));have HQ5:=ae QR;have sH:=ae (Dh w5 g eb (eo+1+7) x.s.D x.s.d v5 B5 ((zZ.out _ _ hb5).trans c8) (by omega) hs5);clear hs5 hk5 hb5 zY QR c8;go_wp2_with fail;refine sH.out.mono ?_;rintro e w6 ⟨rfl,v6,hs6,hk6⟩;have Kr:=ae hs6;have Za:=ae (xP.out.trans hk6);clear hs6 hk6 sH;go_wp2_with fail
 go_end0
 refine ⟨rfl,v6,?_,Za.out⟩;have h:=Kr.out;rw [←HQ5.out,←Zk.out,←Ac.out,←lC.out,←nY.out] at h;unfold oD;simpa only [List.append_assoc] using h
end Go.Proofs.YtdibbemgpikgjaaGreatDoor
namespace Go.Proofs.YtdibbemgpikgjaaGreatDoor
open Go Go.RowKit
section
variable {P:Program} {ops:Array Oper} {rest:List Oper} {o:Oper} {a:Act} {w:World} {Q:Exit→Act→World→Prop}
theorem fG {ob:Obj} (hgd:o.guard=none) (ty:TypeId) (x y:Operand) (ho:o.op= .store ty x y) (cells:Array Value) (hx:a.eval x= .pointer (some ⟨w.heap.size,0,none⟩)) (hy:a.eval y= .agg cells) (t:TypeId) (old:Array Value) (hob:ob= .cells old t (0,0)) (hi:(P.info? ty).map (·.size)=some cells.size) (hold:old.size=cells.size) (h1:cells.all (·.oneCell')=true)
  (h:∀W,Below w.heap.size w W→w.heap.size<W.heap.size→Row W w.heap.size cells→wpList P ops Q rest (a.put o.dst undef) W):wpList P ops Q (o::rest) a (w.alloc ob):=by
 subst hob;refine wpList_store_row hgd ty x y ho w.heap.size cells hx hy t old (heap_alloc_last w _) hi hold h1 (h _ (below_setRow (ag w _) (Nat.le_refl _) _) (by simp [World.setRow]) (Row.jm (setRow_heap _ _ _ _ _ _ (heap_alloc_last w _))))
end
structure gW (c:Cal):Prop where
 ep:0≤c.aX∧c.aX≤100
 mo:c.az.length=2
 all:∀x∈c.az,6≤x∧x≤8
 le: -1≤c.dM∧c.dM<2
 ru:c.rules.length≤1
 nl:c.dM= -1→c.rules.length=0
 rl:∀r∈c.rules,r.every=2∧0≤r.rest∧r.rest<2
structure nX (w:World) (B:Nat) (A:Option Addr) (R:Option Addr) (c:Cal):Prop where
 az:aA w B A (c.az.map I)
 rules:aA w B R (c.rules.flatMap Lr.cells)
theorem nX.grow {w w':World} {A R:Option Addr} {c:Cal} (h:nX w w.heap.size A R c) (hb:Below w.heap.size w w'):nX w' w'.heap.size A R c:=⟨h.az.grow hb,h.rules.grow hb⟩
theorem Yv (w:World):Calls Tryz.prog 94 #[I 1,I 2] w fun e w'=>e= .returned (I 1)∧w'=w:=by
 go_enter Tryz.func94,Tryz.ntmps94;go_wp2_with fail
 go_loopw [0,1] (fun a b wr=>wr=w∧((a=I 1∧b=I 2)∨(a=I 2∧b=I 1)∨(a=I 1∧b=I 0))) (fun _ b _=>(intOf b).toNat)
 case atStart=>exact ⟨rfl, .inl ⟨rfl,rfl⟩⟩
 case round=>
  obtain ⟨rfl,⟨rfl,rfl⟩|⟨rfl,rfl⟩|⟨rfl,rfl⟩⟩:=hrel
  ·go_wp2_with fail;go_roundw
   case rel=>exact ⟨by first|trivial|rfl, .inr (.inl ⟨by first|trivial|rfl,by first|trivial|rfl⟩)⟩
   case measure=>simp [intOf]
  ·go_wp2_with fail;go_roundw
   case rel=>exact ⟨by first|trivial|rfl, .inr (.inr ⟨by first|trivial|rfl,by first|trivial|rfl⟩)⟩
   case measure=>simp [intOf]
  ·go_wp2_with fail;go_ret;exact ⟨rfl,rfl⟩
structure jW (w:World) (cs:Array Value) (W:World):Prop where
 row:Row W w.heap.size cs
 up:Below w.heap.size w W
theorem jW.grow {w W W':World} {cs:Array Value} (h:jW w cs W) (hb:Below W.heap.size W W'):jW w cs W':=⟨h.row.keep hb,ah h.up hb⟩
theorem jW.start (w:World) (cs:Array Value) (t:TypeId):jW w cs (w.alloc (.cells cs t)):=⟨Row.new w cs t,ag w _⟩
theorem gW.form {c:Cal} (hc:gW c):∃ep m0 m1 lp rs,c=⟨ep,[m0,m1],lp,rs⟩∧(0≤ep∧ep≤100)∧(6≤m0∧m0≤8)∧(6≤m1∧m1≤8)∧(-1≤lp∧lp<2)∧(rs= []∨∃q y,rs= [⟨2,q,y⟩]∧0≤q∧q<2∧lp≠ -1):=by
 obtain ⟨ep,mo,lp,rs⟩:=c;obtain ⟨h1,h2,h3,h4,h5,h6,h7⟩:=hc;simp only at h1 h2 h3 h4 h5 h6 h7
 match mo,h2 with
 | [m0,m1],_=>
  refine ⟨ep,m0,m1,lp,rs,rfl,h1,h3 m0 (by simp),h3 m1 (by simp),h4,?_⟩
  match rs,h5 with
  | [],_=>exact .inl rfl
  | [⟨e,q,y⟩],_=>
   obtain ⟨z1,z2,z3⟩:=h7 ⟨e,q,y⟩ (by simp);simp only at z1 z2 z3;subst z1;exact .inr ⟨q,y,rfl,z2,z3,fun e=>by have:=h6 e;simp at this⟩
theorem nX.two {w W:World} {A R:Option Addr} {ep m0 m1 lp:Int} {rs:List Lr} (h:nX w w.heap.size A R ⟨ep,[m0,m1],lp,rs⟩) (hb:Below w.heap.size w W):∃b off,A=some ⟨b,off,none⟩∧W.cell? ⟨b,off,none⟩=some (I m0)∧W.cell? ⟨b,off+1,none⟩=some (I m1):=by
 obtain ⟨b,off,e,hb1,hcl⟩:=h.az.there (by simp);exact ⟨b,off,e,(hb.cell (p:=⟨b,off,none⟩) hb1).trans (hcl 0 _ rfl),(hb.cell (p:=⟨b,off+1,none⟩) hb1).trans (hcl 1 _ rfl)⟩
theorem nX.one {w W:World} {A R:Option Addr} {ep m0 m1 lp q:Int} {y:Bool} (h:nX w w.heap.size A R ⟨ep,[m0,m1],lp,[⟨2,q,y⟩]⟩) (hb:Below w.heap.size w W):∃b off,R=some ⟨b,off,none⟩∧W.cell? ⟨b,off,none⟩=some (I 2)∧W.cell? ⟨b,off+1,none⟩=some (I q)∧W.cell? ⟨b,off+2,none⟩=some (.bool y):=by
 obtain ⟨b,off,e,hb1,hcl⟩:=h.rules.there (by simp [Lr.cells]);exact ⟨b,off,e,(hb.cell (p:=⟨b,off,none⟩) hb1).trans (hcl 0 _ rfl),(hb.cell (p:=⟨b,off+1,none⟩) hb1).trans (hcl 1 _ rfl),(hb.cell (p:=⟨b,off+2,none⟩) hb1).trans (hcl 2 _ rfl)⟩
theorem iW (c:Cal) (A R:Option Addr) (a r:Nat) (w:World) (hc:gW c) (h:nX w w.heap.size A R c):Calls Tryz.prog 76 #[.agg (aG c A a R r)] w (Gives (.bool true) w):=by
 obtain ⟨ep,m0,m1,lp,rs,rfl,⟨b1,b1'⟩,⟨b2,b2'⟩,⟨b3,b3'⟩,⟨b4,b4'⟩,hrs⟩:=hc.form;have HH:=ae h;clear hc h;unfold aG;simp only;have q5:¬ep<0:=by omega
 have q6:¬(1048576:Int)<ep:=by omega
 have q7:¬lp< -1:=by omega
 have q8:¬(2:Int)≤lp:=by omega
 have y1:¬m0<1:=by omega
 have y2:¬(40:Int)<m0:=by omega
 have y3:¬m1<1:=by omega
 have y4:¬(40:Int)<m1:=by omega
 clear b1 b1' b2 b2' b3 b3' b4 b4';rcases hrs with rfl|⟨q,yy,rfl,q1,q2,q3⟩
 ·have HV:=ae (jW.start w #[I ep, .slice A 2 a,I lp, .slice R 0 r] 63);have hl:(lp== -1)=true∨(lp== -1)=false:=by cases (lp== -1)<;>simp
  rcases hl with hl|hl
  all_goals
   go_enter Tryz.func76,Tryz.ntmps76;go_wp2_with fail;generalize w.alloc (.cells #[I ep, .slice A 2 a,I lp, .slice R 0 r] 63)=W0 at HV ⊢;obtain ⟨b,off,rfl,c0,c1⟩:=HH.out.two HV.out.up;have v1:W0.cell? ⟨w.heap.size,1,none⟩=some (.slice (some ⟨b,off,none⟩) 2 a):=HV.out.row.2 1;have v3:W0.cell? ⟨w.heap.size,3,none⟩=some (.slice R 0 r):=HV.out.row.2 3
   go_rounds 3
   go_rounds 1
   go_ret;exact ⟨rfl,HV.out.up⟩
 ·have HV:=ae (jW.start w #[I ep, .slice A 2 a,I lp, .slice R 1 r] 63);have hl:(lp== -1)=false:=by simp [q3]
  have q4:¬(2:Int)≤q:=by omega
  have q1':¬q<0:=by omega
  clear q1 q2 q3;go_enter Tryz.func76,Tryz.ntmps76;go_wp2_with fail;generalize w.alloc (.cells #[I ep, .slice A 2 a,I lp, .slice R 1 r] 63)=W0 at HV ⊢;obtain ⟨b,off,rfl,c0,c1⟩:=HH.out.two HV.out.up;obtain ⟨bb,WW,rfl,d0,d1,d2⟩:=HH.out.one HV.out.up;have v1:W0.cell? ⟨w.heap.size,1,none⟩=some (.slice (some ⟨b,off,none⟩) 2 a):=HV.out.row.2 1;have v3:W0.cell? ⟨w.heap.size,3,none⟩=some (.slice (some ⟨bb,WW,none⟩) 1 r):=HV.out.row.2 3
  go_rounds 3
  clear v1 c0 c1;have hlt0:w.heap.size<W0.heap.size:=HV.out.row.1;refine wp_loop_rounds 2 ?_;rw [rounds_succ];go_wp2_with fail
  go_region_law (go_simp;go_at_call 94;refine (Yv _).mono ?_;rintro e w6 ⟨rfl,rfl⟩)
  all_goals
   go_wp2_with fail;rw [rounds_succ];go_wp2_with fail;go_ret;exact ⟨rfl,(HV.out.grow (ag W0 _)).up.drew⟩
theorem Sz (a b:Int) (h:0≤a):a.tmod b=a%b:=Int.tmod_eq_emod_of_nonneg h
theorem TR (a b:Int) (w:World) (hb:0<b) (hb2:b≤1000000000) (ha:0≤a):
  Calls Tryz.prog 125 #[I a,I b] w fun e w'=>e= .returned (I (a%b))∧w'=w:=by
 have he:=Sz a b ha;have h0:=Int.emod_nonneg a (show b≠0 by omega);have h1:=Int.emod_lt_of_pos a hb;obtain ⟨q,hq⟩:∃q,a%b=q:=⟨_,rfl⟩;rw [hq] at he h0 h1 ⊢;have hb0:b≠0:=by omega
 have hb1:b≠ -1:=by omega
 have h2:¬q<0:=by omega
 clear hq;go_enter Tryz.func125,Tryz.ntmps125
 go_wp2
 go_ret;exact ⟨rfl,rfl⟩
def pW (c:Cal) (y:Int):Bool:=match c.rules with| []=>false|r::_=>(y%2==r.rest)&&r.yes
def og (c:Cal):Int:=(c.az[0]?.getD 0)+(c.az[1]?.getD 0)
def dn (c:Cal) (y m:Int):Int:=(c.az[(m - 1).toNat]?.getD 0)+(if m - 1=c.dM∧pW c y=true then 1 else 0)
def dI (c:Cal) (y:Int):Int:=og c+(if pW c y=true then 1 else 0)
def rH (c:Cal):Int:=match c.rules with| []=>1|_::_=>2
def rG (c:Cal):Int:=match c.rules with| []=>dI c 1|_::_=>dI c 1+dI c 2
theorem IY (c:Cal) (A R:Option Addr) (a r:Nat) (y:Int) (w:World) (hc:gW c) (h:nX w w.heap.size A R c) (hy:0≤y):Calls Tryz.prog 114 #[.agg (aG c A a R r),I y] w (Gives (.bool (pW c y)) w):=by
 obtain ⟨ep,m0,m1,lp,rs,rfl,b1,b2,b3,b4,hrs⟩:=hc.form;rcases hrs with rfl|⟨q,yy,rfl,q1,q2,_⟩
 ·have iP:Hid (∀W,Below w.heap.size w W→Calls Tryz.prog 76 #[.agg #[I ep, .slice A 2 a,I lp, .slice R 0 r]] W (Gives (.bool true) W)):=ae fun W hb=>iW ⟨ep,[m0,m1],lp,[]⟩ A R a r W hc (h.grow hb);have HH:=ae h;have HV:=ae (jW.start w #[I ep, .slice A 2 a,I lp, .slice R 0 r] 63);clear hc h;show Calls Tryz.prog _ #[.agg #[I ep, .slice A 2 a,I lp, .slice R 0 r],I y] w _;go_enter Tryz.func114,Tryz.ntmps114;go_wp2_with fail;refine (iP.out _ HV.out.up).mono ?_;rintro e w1 ⟨rfl,hb1⟩;have HW:=ae (HV.out.grow hb1);have v3:w1.cell? ⟨w.heap.size,3,none⟩=some (.slice R 0 r):=HW.out.row.2 3;clear hb1 HV iP;go_wp2_with fail
  go_rounds 1
  go_ret;exact ⟨rfl,HW.out.up⟩
 ·have iP:Hid (∀W,Below w.heap.size w W→Calls Tryz.prog 76 #[.agg #[I ep, .slice A 2 a,I lp, .slice R 1 r]] W (Gives (.bool true) W)):=ae fun W hb=>iW ⟨ep,[m0,m1],lp,[⟨2,q,yy⟩]⟩ A R a r W hc (h.grow hb);have HH:=ae h;have HV:=ae (jW.start w #[I ep, .slice A 2 a,I lp, .slice R 1 r] 63);clear hc h;show Calls Tryz.prog _ #[.agg #[I ep, .slice A 2 a,I lp, .slice R 1 r],I y] w _;go_enter Tryz.func114,Tryz.ntmps114;go_wp2_with fail;refine (iP.out _ HV.out.up).mono ?_;rintro e w1 ⟨rfl,hb1⟩;have HW:=ae (HV.out.grow hb1);have v3:w1.cell? ⟨w.heap.size,3,none⟩=some (.slice R 1 r):=HW.out.row.2 3;clear hb1 HV iP;obtain ⟨b,off,rfl,d0,d1,d2⟩:=HH.out.one HW.out.up;have Zg:=ae (fun W=>TR y 2 W (by omega) (by omega) hy);have HQ:=ae (Below.refl w1.heap.size w1);clear hy;go_wp2_with fail;clear q1 q2 b1 b2 b3 b4;refine wp_loop_rounds 2 ?_;rw [rounds_succ];go_wp2_with fail;go_quiet (first|(go_at_call 125;refine Calls.quiet_of_same (Zg.out _)));obtain ⟨t,ht⟩:∃t,(y%2==q)=t:=⟨_,rfl⟩;have HT:=ae ht;cases t
  ·go_wp2_with fail;rw [rounds_succ];clear ht;go_wp2_with fail;go_ret;exact ⟨by simp [pW,HT.out],ah HW.out.up (below_drewN' _ _)⟩
  ·go_wp2_with fail;rw [rounds_succ];clear ht;go_wp2_with fail;go_ret;exact ⟨by simp [pW,HT.out],ah HW.out.up (below_drewN' _ _)⟩
theorem Ld (c:Cal) (A R:Option Addr) (a r:Nat) (w:World) (hc:gW c) (h:nX w w.heap.size A R c):Calls Tryz.prog 115 #[.agg (aG c A a R r)] w (Gives (I (og c)) w):=by
 obtain ⟨ep,m0,m1,lp,rs,rfl,b1,b2,b3,b4,_⟩:=hc.form;have HH:=ae h;clear hc h;unfold aG;simp only;have HV:=ae (jW.start w #[I ep, .slice A 2 a,I lp, .slice R rs.length r] 63);obtain ⟨n,hn⟩:∃n,rs.length=n:=⟨_,rfl⟩;rw [hn] at HV ⊢;clear hn;go_enter Tryz.func115,Tryz.ntmps115;go_wp2_with fail;generalize w.alloc (.cells #[I ep, .slice A 2 a,I lp, .slice R n r] 63)=W0 at HV ⊢;obtain ⟨b,off,rfl,c0,c1⟩:=HH.out.two HV.out.up;have v1:W0.cell? ⟨w.heap.size,1,none⟩=some (.slice (some ⟨b,off,none⟩) 2 a):=HV.out.row.2 1
 go_rounds 3
 go_ret;exact ⟨rfl,HV.out.up⟩
theorem Dk (c:Cal) (A R:Option Addr) (a r:Nat) (y:Int) (w:World) (hc:gW c) (h:nX w w.heap.size A R c) (hy:0≤y):Calls Tryz.prog 97 #[.agg (aG c A a R r),I y] w (Gives (I (dI c y)) w):=by
 have iP:Hid (∀W,Below w.heap.size w W→Calls Tryz.prog 76 #[.agg (aG c A a R r)] W (Gives (.bool true) W)):=ae fun W hb=>iW _ A R a r W hc (h.grow hb);have Ht:Hid (∀W,Below w.heap.size w W→Calls Tryz.prog 114 #[.agg (aG c A a R r),I y] W (Gives (.bool (pW c y)) W)):=ae fun W hb=>IY _ A R a r y W hc (h.grow hb) hy;have HCM:Hid (∀W,Below w.heap.size w W→Calls Tryz.prog 115 #[.agg (aG c A a R r)] W (Gives (I (og c)) W)):=ae fun W hb=>Ld _ A R a r W hc (h.grow hb);have hcm:0≤og c∧og c≤100:=by
  obtain ⟨ep,m0,m1,lp,rs,rfl,b1,b2,b3,b4,_⟩:=hc.form;simp only [og,List.getElem?_cons_zero,List.getElem?_cons_succ,Option.getD_some];omega
 unfold dI;obtain ⟨u,hu⟩:∃u,pW c y=u:=⟨_,rfl⟩;obtain ⟨q,hq⟩:∃q,og c=q:=⟨_,rfl⟩;rw [hu] at Ht ⊢;rw [hq] at HCM hcm ⊢;obtain ⟨ep,lp,A',R',n,m,hcs⟩:∃ep lp,∃A' R':Option Addr,∃n m:Nat,aG c A a R r= #[I ep, .slice A' n a,I lp, .slice R' m r]:=⟨_,_,_,_,_,_,rfl⟩;rw [hcs] at iP Ht HCM ⊢;obtain ⟨V,hV⟩:∃V,(q+(if u=true then 1 else 0))=V:=⟨_,rfl⟩;rw [hV];have Yg:=ae hV;clear hV;clear hcs hu hq hc h hy;have HV:=ae (jW.start w #[I ep, .slice A' n a,I lp, .slice R' m r] 63);go_enter Tryz.func97,Tryz.ntmps97;go_wp2_with fail;refine (iP.out _ HV.out.up).mono ?_;rintro e w1 ⟨rfl,hb1⟩;have HW:=ae (HV.out.grow hb1);have v0:w1.cell? ⟨w.heap.size,0,none⟩=some (I ep):=HW.out.row.2 0;have v1:w1.cell? ⟨w.heap.size,1,none⟩=some (.slice A' n a):=HW.out.row.2 1;have v2:w1.cell? ⟨w.heap.size,2,none⟩=some (I lp):=HW.out.row.2 2;have v3:w1.cell? ⟨w.heap.size,3,none⟩=some (.slice R' m r):=HW.out.row.2 3;clear hb1 HV iP;go_wp2_with fail;clear v0 v1 v2 v3;refine (Ht.out _ HW.out.up).mono ?_;rintro e w2 ⟨rfl,hb1⟩;have HW2:=ae (HW.out.grow hb1);have v0:w2.cell? ⟨w.heap.size,0,none⟩=some (I ep):=HW2.out.row.2 0;have v1:w2.cell? ⟨w.heap.size,1,none⟩=some (.slice A' n a):=HW2.out.row.2 1;have v2:w2.cell? ⟨w.heap.size,2,none⟩=some (I lp):=HW2.out.row.2 2;have v3:w2.cell? ⟨w.heap.size,3,none⟩=some (.slice R' m r):=HW2.out.row.2 3;clear hb1 Ht HW;cases u
 all_goals
  go_wp2_with fail;refine (HCM.out _ HW2.out.up).mono ?_;rintro e w3 ⟨rfl,hb3⟩;have HB3:=ae (ah HW2.out.up hb3);clear hb3 v0 v1 v2 v3;go_wp2_with fail;go_ret;exact ⟨by rw [←Yg.out];simp,HB3.out⟩
theorem ES (c:Cal) (A R:Option Addr) (a r:Nat) (y m:Int) (w:World) (hc:gW c) (h:nX w w.heap.size A R c) (hy:0≤y) (hm:m=1∨m=2):Calls Tryz.prog 113 #[.agg (aG c A a R r),I y,I m] w (Gives (I (dn c y m)) w):=by
 have iP:Hid (∀W,Below w.heap.size w W→Calls Tryz.prog 76 #[.agg (aG c A a R r)] W (Gives (.bool true) W)):=ae fun W hb=>iW _ A R a r W hc (h.grow hb);have Ht:Hid (∀W,Below w.heap.size w W→Calls Tryz.prog 114 #[.agg (aG c A a R r),I y] W (Gives (.bool (pW c y)) W)):=ae fun W hb=>IY _ A R a r y W hc (h.grow hb) hy;obtain ⟨ep,m0,m1,lp,rs,rfl,b1,⟨b2,b2'⟩,⟨b3,b3'⟩,_,_⟩:=hc.form;obtain ⟨V,hV⟩:∃V,dn ⟨ep,[m0,m1],lp,rs⟩ y m=V:=⟨_,rfl⟩;obtain ⟨u,hu⟩:∃u,pW ⟨ep,[m0,m1],lp,rs⟩ y=u:=⟨_,rfl⟩;obtain ⟨n,hn⟩:∃n,rs.length=n:=⟨_,rfl⟩;rw [hV];rw [hu] at Ht;unfold aG at iP Ht ⊢;simp only [hn,List.length_cons,List.length_nil,Nat.zero_add,Nat.reduceAdd] at iP Ht ⊢;have Yg:=ae hV;have HU:=ae hu;have HH:=ae h;have HV:=ae (jW.start w #[I ep, .slice A 2 a,I lp, .slice R n r] 63);clear hV hu hn h hc hy b1;rcases hm with rfl|rfl
 ·by_cases hl:lp=0
  ·subst hl;go_enter Tryz.func113,Tryz.ntmps113;go_wp2_with fail;refine (iP.out _ HV.out.up).mono ?_;rintro e w1 ⟨rfl,hb1⟩;have HW:=ae (HV.out.grow hb1);obtain ⟨b,off,rfl,c0,c1⟩:=HH.out.two HW.out.up;have v0:w1.cell? ⟨w.heap.size,0,none⟩=some (I ep):=HW.out.row.2 0;have v1:w1.cell? ⟨w.heap.size,1,none⟩=some (.slice (some ⟨b,off,none⟩) 2 a):=HW.out.row.2 1;have v2:w1.cell? ⟨w.heap.size,2,none⟩=some (I 0):=HW.out.row.2 2;have v3:w1.cell? ⟨w.heap.size,3,none⟩=some (.slice R n r):=HW.out.row.2 3;clear hb1;go_wp2_with fail;clear v0 v1 v2 v3 c0 c1;refine (Ht.out _ HW.out.up).mono ?_;rintro e w2 ⟨rfl,hb1⟩;have HW2:=ae (HW.out.grow hb1);obtain ⟨b',off',e',c0,c1⟩:=HH.out.two HW2.out.up;injection e' with e';injection e' with e1 e2;subst e1 e2;have v1:w2.cell? ⟨w.heap.size,1,none⟩=some (.slice (some ⟨b,off,none⟩) 2 a):=HW2.out.row.2 1;clear hb1;cases u
   all_goals
    go_wp2_with fail;go_ret;exact ⟨by rw [←Yg.out];simp [dn,HU.out],HW2.out.up⟩
  ·have HL:=ae hl;have hl1:((0:Int)==lp)=false:=by simp;omega
   go_enter Tryz.func113,Tryz.ntmps113;go_wp2_with fail;refine (iP.out _ HV.out.up).mono ?_;rintro e w1 ⟨rfl,hb1⟩;have HW:=ae (HV.out.grow hb1);obtain ⟨b,off,rfl,c0,c1⟩:=HH.out.two HW.out.up;have v0:w1.cell? ⟨w.heap.size,0,none⟩=some (I ep):=HW.out.row.2 0;have v1:w1.cell? ⟨w.heap.size,1,none⟩=some (.slice (some ⟨b,off,none⟩) 2 a):=HW.out.row.2 1;have v2:w1.cell? ⟨w.heap.size,2,none⟩=some (I lp):=HW.out.row.2 2;have v3:w1.cell? ⟨w.heap.size,3,none⟩=some (.slice R n r):=HW.out.row.2 3;clear hb1;clear hl;go_wp2_with fail;go_ret;exact ⟨by rw [←Yg.out];simp [dn];have:=HL.out;omega,HW.out.up⟩
 ·by_cases hl:lp=1
  ·subst hl;go_enter Tryz.func113,Tryz.ntmps113;go_wp2_with fail;refine (iP.out _ HV.out.up).mono ?_;rintro e w1 ⟨rfl,hb1⟩;have HW:=ae (HV.out.grow hb1);obtain ⟨b,off,rfl,c0,c1⟩:=HH.out.two HW.out.up;have v0:w1.cell? ⟨w.heap.size,0,none⟩=some (I ep):=HW.out.row.2 0;have v1:w1.cell? ⟨w.heap.size,1,none⟩=some (.slice (some ⟨b,off,none⟩) 2 a):=HW.out.row.2 1;have v2:w1.cell? ⟨w.heap.size,2,none⟩=some (I 1):=HW.out.row.2 2;have v3:w1.cell? ⟨w.heap.size,3,none⟩=some (.slice R n r):=HW.out.row.2 3;clear hb1;go_wp2_with fail;clear v0 v1 v2 v3 c0 c1;refine (Ht.out _ HW.out.up).mono ?_;rintro e w2 ⟨rfl,hb1⟩;have HW2:=ae (HW.out.grow hb1);obtain ⟨b',off',e',c0,c1⟩:=HH.out.two HW2.out.up;injection e' with e';injection e' with e1 e2;subst e1 e2;have v1:w2.cell? ⟨w.heap.size,1,none⟩=some (.slice (some ⟨b,off,none⟩) 2 a):=HW2.out.row.2 1;clear hb1;cases u
   all_goals
    go_wp2_with fail;go_ret;exact ⟨by rw [←Yg.out];simp [dn,HU.out],HW2.out.up⟩
  ·have HL:=ae hl;have hl1:((1:Int)==lp)=false:=by simp;omega
   go_enter Tryz.func113,Tryz.ntmps113;go_wp2_with fail;refine (iP.out _ HV.out.up).mono ?_;rintro e w1 ⟨rfl,hb1⟩;have HW:=ae (HV.out.grow hb1);obtain ⟨b,off,rfl,c0,c1⟩:=HH.out.two HW.out.up;have v0:w1.cell? ⟨w.heap.size,0,none⟩=some (I ep):=HW.out.row.2 0;have v1:w1.cell? ⟨w.heap.size,1,none⟩=some (.slice (some ⟨b,off,none⟩) 2 a):=HW.out.row.2 1;have v2:w1.cell? ⟨w.heap.size,2,none⟩=some (I lp):=HW.out.row.2 2;have v3:w1.cell? ⟨w.heap.size,3,none⟩=some (.slice R n r):=HW.out.row.2 3;clear hb1;clear hl;go_wp2_with fail;go_ret;exact ⟨by rw [←Yg.out];simp [dn];have:=HL.out;omega,HW.out.up⟩
theorem jC (c:Cal) (y:Int) (hc:gW c):0≤dI c y∧dI c y≤100:=by
 obtain ⟨ep,m0,m1,lp,rs,rfl,b1,b2,b3,b4,_⟩:=hc.form;simp only [dI,og,List.getElem?_cons_zero,List.getElem?_cons_succ,Option.getD_some];split<;>omega
theorem VV (c:Cal) (A R:Option Addr) (a r:Nat) (w:World) (hc:gW c) (h:nX w w.heap.size A R c):Calls Tryz.prog 98 #[.agg (aG c A a R r)] w (Gives (.tuple #[I (rH c),I (rG c), .int .i64 0]) w):=by
 have iP:Hid (∀W,Below w.heap.size w W→Calls Tryz.prog 76 #[.agg (aG c A a R r)] W (Gives (.bool true) W)):=ae fun W hb=>iW _ A R a r W hc (h.grow hb);have Rq:Hid (∀W,Below w.heap.size w W→Calls Tryz.prog 97 #[.agg (aG c A a R r),I 1] W (Gives (I (dI c 1)) W)):=ae fun W hb=>Dk _ A R a r 1 W hc (h.grow hb) (by omega);have Vz:Hid (∀W,Below w.heap.size w W→Calls Tryz.prog 97 #[.agg (aG c A a R r),I 2] W (Gives (I (dI c 2)) W)):=ae fun W hb=>Dk _ A R a r 2 W hc (h.grow hb) (by omega);have hy1:=jC c 1 hc;have hy2:=jC c 2 hc;unfold rG;obtain ⟨u1,hu1⟩:∃u,dI c 1=u:=⟨_,rfl⟩;obtain ⟨u2,hu2⟩:∃u,dI c 2=u:=⟨_,rfl⟩;rw [hu1,hu2];rw [hu1] at Rq hy1;rw [hu2] at Vz hy2;clear hu1 hu2;obtain ⟨ep,m0,m1,lp,rs,rfl,b1,⟨b2,b2'⟩,⟨b3,b3'⟩,_,hrs⟩:=hc.form;have HH:=ae h;clear h hc b1 b2 b2' b3 b3';rcases hrs with rfl|⟨q,yy,rfl,_,_,_⟩
 ·unfold aG at iP Rq Vz ⊢;simp only [List.length_cons,List.length_nil,Nat.zero_add,Nat.reduceAdd] at iP Rq Vz ⊢;have HV:=ae (jW.start w #[I ep, .slice A 2 a,I lp, .slice R 0 r] 63);go_enter Tryz.func98,Tryz.ntmps98;go_wp2_with fail;refine (iP.out _ HV.out.up).mono ?_;rintro e w1 ⟨rfl,hb1⟩;have HW:=ae (HV.out.grow hb1);have v0:w1.cell? ⟨w.heap.size,0,none⟩=some (I ep):=HW.out.row.2 0;have v1:w1.cell? ⟨w.heap.size,1,none⟩=some (.slice A 2 a):=HW.out.row.2 1;have v2:w1.cell? ⟨w.heap.size,2,none⟩=some (I lp):=HW.out.row.2 2;have v3:w1.cell? ⟨w.heap.size,3,none⟩=some (.slice R 0 r):=HW.out.row.2 3;clear hb1;go_wp2_with fail;refine wp_loop_rounds 1 ?_;rw [rounds_succ];go_wp2_with fail;refine wp_loop_rounds 2 ?_;rw [rounds_succ];go_wp2_with fail;refine (Rq.out _ HW.out.up).mono ?_;rintro e w2 ⟨rfl,hb2⟩;have HW2:=ae (HW.out.grow hb2);clear hb2 v0 v1 v2 v3;go_wp2_with fail;rw [rounds_succ];go_wp2_with fail
  go_ret3
  exact ⟨by simp [rH],HW2.out.up⟩
 ·unfold aG at iP Rq Vz ⊢;simp only [List.length_cons,List.length_nil,Nat.zero_add,Nat.reduceAdd] at iP Rq Vz ⊢;have HV:=ae (jW.start w #[I ep, .slice A 2 a,I lp, .slice R 1 r] 63);go_enter Tryz.func98,Tryz.ntmps98;go_wp2_with fail;refine (iP.out _ HV.out.up).mono ?_;rintro e w1 ⟨rfl,hb1⟩;have HW:=ae (HV.out.grow hb1);have v0:w1.cell? ⟨w.heap.size,0,none⟩=some (I ep):=HW.out.row.2 0;have v1:w1.cell? ⟨w.heap.size,1,none⟩=some (.slice A 2 a):=HW.out.row.2 1;have v2:w1.cell? ⟨w.heap.size,2,none⟩=some (I lp):=HW.out.row.2 2;have v3:w1.cell? ⟨w.heap.size,3,none⟩=some (.slice R 1 r):=HW.out.row.2 3;obtain ⟨b,off,rfl,d0,d1,d2⟩:=HH.out.one HW.out.up;clear hb1;go_wp2_with fail;refine wp_loop_rounds 2 ?_;rw [rounds_succ];go_wp2_with fail;go_quiet (first|(go_at_call 94;refine Calls.quiet_of_same (Yv _)));go_wp2_with fail;rw [rounds_succ];go_wp2_with fail;refine wp_loop_rounds 3 ?_;rw [rounds_succ];go_wp2_with fail;have HD:=ae (ah HW.out.up (below_drewN' w1 nq));refine (Rq.out _ HD.out).mono ?_;rintro e w2 ⟨rfl,hb2⟩;have HW2:=ae ((HW.out.grow (below_drewN' w1 nq)).grow hb2);clear hb2 v0 v1 v2 v3 d0 d1 d2 HW HD;have v0:w2.cell? ⟨w.heap.size,0,none⟩=some (I ep):=HW2.out.row.2 0;have v1:w2.cell? ⟨w.heap.size,1,none⟩=some (.slice A 2 a):=HW2.out.row.2 1;have v2:w2.cell? ⟨w.heap.size,2,none⟩=some (I lp):=HW2.out.row.2 2;have v3:w2.cell? ⟨w.heap.size,3,none⟩=some (.slice (some ⟨b,off,none⟩) 1 r):=HW2.out.row.2 3;go_wp2_with fail;rw [rounds_succ];go_wp2_with fail;refine (Vz.out _ HW2.out.up).mono ?_;rintro e w3 ⟨rfl,hb2⟩;have HW3:=ae (HW2.out.grow hb2);clear hb2 v0 v1 v2 v3;go_wp2_with fail;rw [rounds_succ];go_wp2_with fail
  go_ret3
  exact ⟨by simp [rH],HW3.out.up⟩
end Go.Proofs.YtdibbemgpikgjaaGreatDoor
namespace Go.Proofs.YtdibbemgpikgjaaGreatDoor
open Go Go.RowKit Go.Shelf
attribute [local go_sem] Oper.semAt_some
def upto {α:Type} (f:Nat→α) (k:Nat):List α:=(List.range k).map f
theorem upto_succ {α:Type} (f:Nat→α) (k:Nat):upto f (k+1)=upto f k++ [f k]:=by simp [upto,List.range_succ]
theorem upto_length {α:Type} (f:Nat→α) (k:Nat):(upto f k).length=k:=by simp [upto]
def bk (bs:List UInt8) (k:Nat):Nat×UInt8:=(bs.length - 1 - k,bs[bs.length - 1 - k]?.getD 0)
structure BK (n₀ Bs:Nat) (A B:World):Prop where
 lo:Below n₀ A B
 box:B.cell? ⟨Bs,0,none⟩=A.cell? ⟨Bs,0,none⟩
theorem BK.refl (n₀ Bs:Nat) (A:World):BK n₀ Bs A A:=⟨Below.refl _ _,rfl⟩
theorem BK.trans {n₀ Bs:Nat} {A B C:World} (h:BK n₀ Bs A B) (k:BK n₀ Bs B C):BK n₀ Bs A C:=⟨h.lo.trans k.lo,k.box.trans h.box⟩
theorem Z5 {n₀ Bs:Nat} {w:World} (hn:n₀≤w.heap.size) (hB:Bs<w.heap.size) (W:World) (l:Nat) (o o':Obj) (hl:w.heap.size≤l) (h:W.heap[l]? =some o) (hc:o.isCells=false) (hk:o.isWalk=false):BK n₀ Bs W (W.putObj l o'):=
 ⟨belowK_b hn W l o o' hl h hc hk,(belowK_b (n₀:=Bs+1) hB W l o o' hl h hc hk).cell (p:=⟨Bs,0,none⟩) (Nat.lt_succ_self _)⟩
theorem RN (F:Fence) (n:Nat) (h7:F.fn 181) (hro:F.round=none) (hn:1≤n) (l Bs n₀ b off cap:Nat) (bs:List UInt8) (hreach:bs.length≤140737488351232) (hb:b<n₀) (J Jx:List (Nat×UInt8)→World→Prop)
  (hY:∀pre x W,J pre W→pre.length<bs.length→YieldAt F (n - 1) Tryz.prog l #[.int .i64 (x.1:Int),Extern.Stop.cell x.2] W fun e W'=>
   (e= .returned (.bool true)∧J (pre++ [x]) W'∧BK n₀ Bs W W')∨(e= .returned (.bool false)∧Jx (pre++ [x]) W'))
  (W:World) (hBs:W.cell? ⟨Bs,0,none⟩=some (.slice (some ⟨b,off,none⟩) bs.length cap)) (hc:∀j,j<bs.length→W.cell? ⟨b,off+j,none⟩=some (Extern.Stop.cell (bs[j]?.getD 0))) (h0:J [] W):
  CallsIn F n Tryz.prog 181 #[.func (.yield l) #[] #[], .pointer (some ⟨Bs,0,none⟩)] W fun e W'=>(∃v,e= .returned v)∧
   ((∃ys,ys=upto (bk bs) bs.length∧J ys W')∨(∃pre,(∃k,k≤bs.length∧pre=upto (bk bs) k)∧Jx pre W')):=by
 refine callsIn_of_wp Tryz.func181 rfl h7 ?_ hro;simp only [Tryz.ntmps181,List.size_toArray,List.length_cons,List.length_nil,Nat.reduceAdd,Nat.reduceSub,Array.replicate_succ,Array.replicate_zero,List.push_toArray,List.append_toArray,List.nil_append,List.cons_append]
 gi_wp2
 gi_loopw [3] (fun i wr=>∃k:Nat,k≤bs.length∧i= .int .i64 ((bs.length:Int) - 1 - k)∧J (upto (bk bs) k) wr∧BK n₀ Bs W wr)
  (fun i _=>((intOf i)+1).toNat)
 case atStart=>exact ⟨0,Nat.zero_le _,by go_num,h0,BK.refl _ _ _⟩
 case round=>
  obtain ⟨k,hk,rfl,hJs,hnx⟩:=hrel;by_cases hlt:k<bs.length
  ·obtain ⟨m,hm⟩:∃m:Nat,m=bs.length - 1 - k:=⟨_,rfl⟩;have Tm:(bs.length:Int) - 1 - k=(m:Int):=by omega
   have hml:m<bs.length:=by omega
   have hx:bk bs k=(m,bs[m]?.getD 0):=by unfold bk;rw [←hm]
   obtain ⟨x,hxx⟩:∃x,bs[m]?.getD 0=x:=⟨_,rfl⟩;rw [hxx] at hx;have hcx:wr.cell? ⟨b,off+m,none⟩=some (Extern.Stop.cell x):=by rw [←hxx];exact (hnx.lo.cell (p:=⟨b,off+m,none⟩) hb).trans (hc m hml)
   have hbx:wr.cell? ⟨Bs,0,none⟩=some (.slice (some ⟨b,off,none⟩) bs.length cap):=hnx.box.trans hBs;obtain ⟨fn,tmps,assign,body,hy,hR⟩:=hY _ (m,x) wr hJs (by rw [upto_length];exact hlt);dsimp only at hy;rw [Tm];have HM:=ae hm;have Vq:=ae Tm;have HX:=ae hx;clear hm Tm hx hxx
   gi_wp2
   refine hR.mono ?_;rintro e W3 (⟨rfl,hJ3,hk3⟩|⟨rfl,hJx3⟩)
   ·gi_wp2
    go_roundw
    case rel=>exact ⟨k+1,by omega,by have:=Vq.out;congr 1;omega,by rw [upto_succ,HX.out];exact hJ3,hnx.trans hk3⟩
    case measure=>simp [intOf]
   ·gi_wp2
    refine bodyPost_ret (results_none rfl _ _ _) rfl ?_;exact ⟨⟨_,rfl⟩, .inr ⟨_,⟨k+1,by omega,by rw [upto_succ,HX.out]⟩,hJx3⟩⟩
  ·have hke:k=bs.length:=by omega
   have AU:=ae hke;clear hke
   gi_wp2
   go_end0
   exact ⟨⟨_,rfl⟩, .inl ⟨_,by rw [AU.out],hJs⟩⟩
theorem FQ (F:Fence) (n:Nat) (h7:F.fn 181) (hro:F.round=none) (l Bs:Nat) (A:Option Addr) (c:Nat) (J:List (Nat×UInt8)→World→Prop) (W:World) (hBs:W.cell? ⟨Bs,0,none⟩=some (.slice A 0 c)) (h0:J [] W):
  CallsIn F n Tryz.prog 181 #[.func (.yield l) #[] #[], .pointer (some ⟨Bs,0,none⟩)] W fun e W'=>(∃v,e= .returned v)∧J [] W':=by
 refine callsIn_of_wp Tryz.func181 rfl h7 ?_ hro;simp only [Tryz.ntmps181,List.size_toArray,List.length_cons,List.length_nil,Nat.reduceAdd,Nat.reduceSub,Array.replicate_succ,Array.replicate_zero,List.push_toArray,List.append_toArray,List.nil_append,List.cons_append]
 gi_wp2
 gi_loopw [3] (fun i wr=>i= .int .i64 (-1)∧J [] wr) (fun _ _=>0)
 case atStart=>exact ⟨rfl,h0⟩
 case round=>
  obtain ⟨rfl,hJs⟩:=hrel
  gi_wp2
  go_end0
  exact ⟨⟨_,rfl⟩,hJs⟩
theorem VK (F:Fence) (n:Nat) (h5:F.fn 180) (hro:F.round=none) (a:Option Addr) (len cap:Nat) (w:World):
  CallsIn F n Tryz.prog 180 #[.slice a len cap] w fun e w'=>e= .returned (.func (.func 181) #[] #[.pointer (some ⟨w.heap.size,0,none⟩)])∧w'=w.alloc (.cells #[.slice a len cap] 32):=by
 refine callsIn_of_wp Tryz.func180 rfl h5 ?_ hro;simp only [Tryz.ntmps180,List.size_toArray,List.length_cons,List.length_nil,Nat.reduceAdd,Nat.reduceSub,Array.replicate_succ,Array.replicate_zero,List.push_toArray,List.append_toArray,List.nil_append,List.cons_append]
 gi_wp2
 go_ret;exact ⟨rfl,rfl⟩
theorem KP (F:Fence) (n:Nat) (h7:F.fn 181) (hro:F.round=none) (hn:1≤n) (Bs n₀:Nat) (A:Option Addr) (cap:Nat) (bs:List UInt8) (hreach:bs.length≤140737488351232) (w:World) (hBs:Bs<w.heap.size) (hn₀:n₀≤w.heap.size)
  (hc:w.cell? ⟨Bs,0,none⟩=some (.slice A bs.length cap)) (hI:BytesAt w n₀ A bs):
  SeqStopsK F n Tryz.prog 181 #[.pointer (some ⟨Bs,0,none⟩)] (fun x:Nat×UInt8=> #[Value.int .i64 (x.1:Int),Extern.Stop.cell x.2]) (BK n₀ Bs) (fun ys=>ys=upto (bk bs) bs.length)
   (fun pre=>∃k,k≤bs.length∧pre=upto (bk bs) k) bs.length w:=fun l J Jx W hW _ _ hY h0=>by
 have hc':=(hW.cell (p:=⟨Bs,0,none⟩) hBs).trans hc;rcases hI.keep (hW.mono hn₀) with h|⟨b,off,rfl,hb,hcs⟩
 ·rw [h] at hc';exact (FQ F n h7 hro l Bs A cap J W hc' h0).mono fun e W' ⟨he,hj⟩=>⟨he, .inl ⟨_,by rw [h];rfl,hj⟩⟩
 ·exact RN F n h7 hro hn l Bs n₀ b off cap bs hreach hb J Jx hY W hc' hcs h0
end Go.Proofs.YtdibbemgpikgjaaGreatDoor
