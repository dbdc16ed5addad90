/- The texts TrT, We, Wd, Lh, Ua, Sd, Se, Li, Lj, in this order. -/
import Derived.Test.YtbaehbbonkljpaaGreatDoorT35
set_option maxRecDepth 10000
set_option maxHeartbeats 8000000
namespace Go.Proofs.YtbaehbbonkljpaaGreatDoor
open Go Go.RowKit
def asN (cs:ax ah)(o:Nat):ag ah->ax ah
 | []=>cs
 |v::r=>asN (cs.setIfInBounds o v) (o+1) r
theorem MS.via {w w':ae}{b B:Nat}{cs:ax ah}(h:MS w b cs)(hb:ai B w w')(hB:b<B):MS w' b cs:=
 ⟨LK h.1 hb.size,fun i=>(hb.cell (p:=⟨b,i,none⟩) hB).trans (h.2 i)⟩
theorem Na (m:ag au)(h:m.length=32):(Tryz.prog.info? 24).map (·.size)=some (cellsB m).size:=by rw[KU,h];kernel_rfl
theorem ahi {lo:Nat}{w:ae}{g n c:Nat}{bs:ag au}(h:w.ownsRow lo 5 1 (.slice (some ⟨g,0,none⟩) n c) n (bs.map Extern.Stop.cell)):g<w.heap.size/\lo<=g:=by
 obtain⟨_,⟨h1,_⟩|⟨g',cap,cur,hv,hg,hb,h1,h2,h3,h4⟩⟩:=h
 ·cases h1
 injection hv with hv _ hc;injection hv with hv;injection hv with hv;subst hv;exact⟨(KY.1 hb).1,hg⟩
theorem aiQ (key:ag au)(x:Kv)(w:ae)(hx:Ld w w.heap.size x)(hv:O0 x.t≠0):
  Calls Tryz.prog 12 #[.agg (cD key),.agg (JK x.t (.slice x.A x.zs.length x.c))] w (Gives (.tuple #[.agg (JK J8 (.slice none 0 0)),I (O0 x.t)]) w):=by
 obtain⟨t,A,c,zs⟩:=x;simp only at hv⊢;have Oy:t.prev.length=32:=hx.prev;have QX:t.Ku.length=32:=hx.Ku;obtain⟨n,hn⟩:∃n,zs.length=n:=⟨_,rfl⟩;rw[hn];have SY:Hid (∀W,ai w.heap.size w W->Calls Tryz.prog 30 #[.agg (JK t (.slice A n c))] W (Gives (.tuple #[.slice none 0 0,I (O0 t)]) W)):=JJ (fun W hb=>by rw[<-hn];exact aee ⟨t,A,c,zs⟩ W ((hx.keep hb).more hb.size) hv);have L6:Hid (∀v,(Tryz.prog.info? 26).map (·.size)=some (JK t v).size):=JJ fun v=>Ky t v Oy QX;have H0:=JJ (SlS.start w (cD key) (JK t (.slice A n c)));obtain⟨rv,U1⟩:∃v,O0 t=v:=⟨_,rfl⟩;rw[U1] at SY hv⊢;have q12:(rv !=0)=true:=by simp[hv]
 clear hx Oy QX hn U1;go_enter Tryz.func12,Tryz.ntmps12;go_upto_region 1 with (first
  |((with_reducible refine Kz 26 ?_);refine JW rfl _ rfl (JK J8 (.slice none 0 0)) KQ ?_))
 rw[show w.heap.size+1+1=w.heap.size+2 from rfl];generalize ((w.alloc (.cells (cD key) 24)).alloc (.cells (JK t (.slice A n c)) 26)).alloc (.cells (JK J8 (.slice none 0 0)) 26)=W0 at H0⊢;go_wp2_with((with_reducible refine KO 26 ?_);refine J3 rfl _ _ rfl (w.heap.size+1) rfl (JK t (.slice A n c)) H0.out.t.Nc _ az rfl (L6.out _) ?_);refine(SY.out W0 H0.out.lo).mono ?_;rintro e w1 ⟨rfl,b1⟩;have H1:=JJ (H0.out.grow b1);clear b1 H0 SY;go_wp2_with(first
  |((with_reducible refine LY 26 ?_);refine KE rfl _ rfl (JK J8 (.slice none 0 0)) (by kernel_rfl) ?_)
  |((with_reducible refine KZ 26 ?_);refine aB rfl _ _ _ rfl (w.heap.size+2) (JK J8 (.slice none 0 0)) rfl rfl 26 (JK J8 (.slice none 0 0)) H1.out.r.var (Ky J8 _ rfl rfl) rfl (J9 _ _ _ _) ?_))
 refine aX (v:=.tuple #[.agg (JK J8 (.slice none 0 0)),I rv]) (Ko rfl _ _ (w.heap.size+2) _ (JK J8 (.slice none 0 0)) (0,0) _ rfl (aQ _ _ _ _ _ _ H1.out.r.var) az rfl (Ky J8 _ rfl rfl) _ rfl) rfl ?_;exact⟨rfl,JR H1.out.lo (lW (bV _)) _⟩
theorem amm (z:Zn)(s:Zs):(Tryz.prog.info? 69).map (·.size)=some (JV z s).size:=by kernel_rfl
theorem ao3 (z:Zn)(s:Zs):(JV z s).all (·.oneCell')=true:=by kernel_rfl
section
attribute [local go_sem] Oa Og Ob Oh PX PZ N8 Oc N9 Oe
def RI:ag PanicEntry:= [{v:=.iface 132 (.agg #[]),recovered:=false}]
def apc (w:ae)(e:Ending)(w':ae):Prop:=e=.panicked RI/\ai w.heap.size w w'
def atU (w:ae)(rb pb:Nat)(t:TypeId)(cs:ax ah)(e:Ending)(w':ae):Prop:=e=.panicked RI/\∃C:ax ah,C.size=cs.size/\Md w rb pb t C w'
def Tt (x:Ze):ag au:=(le x.name.size 1++x.name.data.toList)++(TL x.z.cal++(le x.z.start 2++(le 0 2++le x.z.hor 8)))
theorem alU (M:Nat)(w:ae)(rb n:Nat)(rest:ag au)(hr:PV M w rb rest)(hn:rest.length<n):
  Calls Tryz.prog 186 #[.pointer (some ⟨rb,0,none⟩),I n] w fun e w'=>e=.panicked RI/\w'=w:=by
 obtain⟨⟨bb,off,c,h1,_⟩,_⟩:=hr;have hc0:w.cell? ⟨rb,0,none⟩=some (.slice (some ⟨bb,off,none⟩) rest.length c):=aC w rb 0 _ _ _ h1;obtain⟨m,hm⟩:∃m,rest.length=m:=⟨_,rfl⟩;rw[hm] at hc0 hn;have n0:(m:Int)<(n:Int):=by omega
 clear h1 hm;go_enter Tryz.func186,Tryz.ntmps186
 go_wp2
 exact⟨rfl,rfl,rfl⟩
theorem aeC (M:Nat)(w:ae)(rb pb po size:Nat)(t:TypeId)(cs:ax ah)(rest:ag au)(hr:PV M w rb rest)(hn:rest.length<size)(hp:w.heap[pb]? =some (.cells cs t (0,0)))(hpo:po<cs.size)(hMp:M<=pb)(hne:pb≠rb):
  Calls Tryz.prog 183 #[pt rb,.pointer (some ⟨pb,po,none⟩),I size] w fun e w'=>e=.panicked RI/\NL pb w w':=by
 refine(gX (n:=3)).1 ?_;have hro:Fence.wide.round=none:=rfl;have h1:1<=3:=by omega
 have hlt:=hr.lt;have hpl:pb<w.heap.size:=(KY.1 hp).1;have hMl:=hr.lo;have hc0:w.cell? ⟨pb,po,none⟩=some cs[po]:=by rw[aC w pb po _ _ _ hp];exact fC hpo
 have hf0:w.frozen? ⟨pb,po,none⟩=false:=aP w pb po _ _ hp;obtain⟨WS,hWS⟩:∃W,w.setCell ⟨pb,po,none⟩ (I 0)=W:=⟨_,rfl⟩;have hkS:NL pb w WS:=by rw[<-hWS];exact⟨rfl,rfl,rfl,by simp[World.setCell],fun k _ hk2=>aN _ _ k _ hk2⟩
 obtain⟨W1,hW1⟩:∃W,WS.alloc (.cells #[.pointer (some ⟨pb,po,none⟩)] 125)=W:=⟨_,rfl⟩;have hk1:NL pb w W1:=by
  rw[<-hW1];exact⟨hkS.os,hkS.tape,hkS.output,aO hkS.size (by simp),fun k hk hk2=>(aV WS _ k (LK hk hkS.size)).trans (hkS.block k hk hk2)⟩
 rw[<-hWS] at hW1;have hr1:PV M W1 rb rest:=hr.of (hk1.block rb hlt (fun e=>hne e.symm)) fun k hk=>hk1.block k (by omega) (by omega);have HT:=JJ (alU M W1 rb size rest hr1 hn);have Pz:=JJ hk1;have HW1:=JJ hW1;clear hr hr1 hk1 hkS hW1 hWS hp;refine iK Tryz.func183 rfl trivial ?_ hro;simp only[Tryz.ntmps183,bZ,bG,dE,Nat.reduceAdd,Nat.reduceSub,df,dh,dL,dw,bU,dn]
 gi_wp2_with first
  |(refine⟨trivial,?_⟩;gi_at_call 186;rw[HW1.out];refine(gX.2 HT.out).mono ?_;rintro e w2 ⟨rfl,rfl⟩)
 exact⟨rfl,Pz.out⟩
theorem aeA (M:Nat)(w:ae)(rb size:Nat)(m:Int)(rest:ag au)(hr:PV M w rb rest)(hn:rest.length<size):
  Calls Tryz.prog 182 #[pt rb,I m,I size] w (apc w):=by
 have hl:=hr.lt;have hlo:=hr.lo;have hb:=JM w (.cells #[I 0] 3);have hpl:=aF w (.cells #[I 0] 3);have HC:=JJ (aeC M (w.alloc (.cells #[I 0] 3)) rb w.heap.size 0 size 3 #[I 0] rest (hr.below hb hl) hn hpl (by decide) (by omega) (by omega));have HB:=JJ hb;clear hr hb hpl;go_enter Tryz.func182,Tryz.ntmps182;go_wp2_with fail;refine HC.out.mono ?_;rintro e w1 ⟨rfl,hk⟩;exact⟨rfl,rfl,hk.os,hk.tape,hk.output,by have:=hk.size;simp at this;omega,fun k hk2=>(hk.block k (by simp;omega) (by omega)).trans (HB.out.block k hk2)⟩
theorem aa4 (M:Nat)(w:ae)(rb lb lo:Nat)(A:aj Addr)(c:Nat)(hp:w.cell? ⟨lb,lo,none⟩=some (.slice A 0 c))(hr:PV M w rb []):
  Calls Tryz.prog 86 #[.iface 134 (pt rb),.pointer (some ⟨lb,lo,none⟩),I 1,.func (.func 87) #[] #[]] w (apc w):=by
 have HC:=JJ (aeA M w.drew rb 1 0 [] hr.drew (by decide));clear hr;go_enter Tryz.func86,Tryz.ntmps86;go_wp2_with fail;go_still_tail 9,(by kernel_rfl);go_wp2_with fail;refine HC.out.mono ?_;rintro e w1 ⟨rfl,hb1⟩;exact⟨rfl,rfl,hb1.os,hb1.tape,hb1.output,hb1.size,hb1.block⟩
theorem agl (M:Nat)(w:ae)(rb eb eo:Nat)(t:TypeId)(cs:ax ah)(x:Ze)(hf:Tz x.z)(hs:x.name.size<=32)(hr:PV M w rb (Tt x))(hp:w.heap[eb]? =some (.cells cs t (0,0)))(hz:∀j,j<9->cs[eo+j]? =Qr[j]?)(hM:M<=eb)(hne:eb≠rb):
  Calls Tryz.prog 65 #[.iface 134 (pt rb),.pointer (some ⟨eb,eo,none⟩)] w (atU w rb eb t cs):=by
 have hel:eb<w.heap.size:=(KY.1 hp).1;have hrw:=hr.lt;have hz0:cs[eo]? =some (.string ⟨#[]⟩):=hz 0 (by decide);have hz8:eo+8<cs.size:=(KY.1 ((hz 8 (by decide)).trans (rfl:Qr[8]? =some (.slice none 0 0)))).1;have hr':PV M w.drew rb ((le x.name.size 1++x.name.data.toList)++(TL x.z.cal++(le x.z.start 2++(le 0 2++le x.z.hor 8)))):=by
  have h:=hr.drew;unfold Tt at h;simpa only[aH] using h
 have Rj:=JJ (abN M w.drew rb eb eo t cs ⟨#[]⟩ x.name _ hr' (by omega) hp hz0 hM hne);have HZ:Hid (∀j,1<=j->j<9->cs[eo+j]? =Qr[j]?):=JJ fun j _ hj=>hz j hj;have HF:=JJ hf;have asc:=hf.start;have aAn:=hf.hor;clear hf hs hr hr' hp hz hz0;go_enter Tryz.func65,Tryz.ntmps65;go_wp2_with fail;go_still_tail 7,(by kernel_rfl);go_wp2_with fail;refine Rj.out.mono ?_;rintro e w1 ⟨rfl,hr1,hp1⟩;obtain⟨C1,hC1⟩:∃C,cs.setIfInBounds eo (.string x.name)=C:=⟨_,rfl⟩;rw[hC1] at hp1;have k1:∀j,1<=j->j<9->C1[eo+j]? =Qr[j]? :=fun j h1 h2=>by rw[<-hC1,bf (by omega)];exact HZ.out j h1 h2
 have l1:C1.size=cs.size:=by rw[<-hC1,di]
 have WZ:=JJ hp1.NP;have Ri:=JJ hC1;have HC2:=JJ (UK M w1 rb eb (eo+1) t C1 x.z.cal _ HF.out.cal hr1 hp1.tgt (by omega) (k1 2 (by decide) (by decide)) (k1 3 (by decide) (by decide)) (k1 4 (by decide) (by decide)) hM hne);have Pz:=JJ k1;clear hr1 hp1 Rj hC1 k1;go_wp2_with fail;refine HC2.out.mono ?_;rintro e w2 ⟨rfl,A,a,hr2,hp2,ho2⟩;obtain⟨C2,hC2⟩:∃C,((C1.setIfInBounds (eo+1) (I x.z.cal.KI)).setIfInBounds (eo+1+1) (.slice A x.z.cal.JQ.length a)).setIfInBounds (eo+1+2) (I (-1))=C:=⟨_,rfl⟩;rw[hC2] at hp2;have k2:∀j,4<=j->j<9->C2[eo+j]? =Qr[j]? :=fun j h1 h2=>by rw[<-hC2,bf (by omega),bf (by omega),bf (by omega)];exact Pz.out j (by omega) h2
 have l2:C2.size=cs.size:=by rw[<-hC2,di,di,di];exact l1
 have HP2:=JJ (WZ.out.trans hp2);have SI:=JJ (KD ho2 WZ.out.size);have PR:=JJ hC2;have Wh:=JJ (Yk M w2.drew rb eb (eo+1+4) t C2 x.z.start _ hr2.drew (by omega) (by omega) hp2.tgt (by omega) hM hne);have OZ:=JJ k2;clear hr2 hp2 ho2 HC2 hC2 k2;go_wp2_with fail;go_still_tail 7,(by kernel_rfl);go_wp2_with fail;refine Wh.out.mono ?_;rintro e w3 ⟨rfl,hr3,hp3⟩;obtain⟨C3,hC3⟩:∃C,C2.setIfInBounds (eo+1+4) (I x.z.start)=C:=⟨_,rfl⟩;rw[hC3] at hp3;have k3:∀j,6<=j->j<9->C3[eo+j]? =Qr[j]? :=fun j h1 h2=>by rw[<-hC3,bf (by omega)];exact OZ.out j (by omega) h2
 have l3:C3.size=cs.size:=by rw[<-hC3,di];exact l2
 have hk3:∀b,w.heap.size<=b->b<w2.heap.size->w3.heap[b]? =w2.heap[b]? :=fun b h1 h2=>hp3.block b h2 (by omega) (by omega);have VJ:=JJ (MK SI.out hk3);have SG:=JJ (HP2.out.trans hp3.NP);have Zf:=JJ hC3;have WT:=JJ (TT M w3 rb eb (eo+1+5) none 0 _ ((hp3.cell _).trans (k3 6 (by decide) (by decide))) hr3);have SE:=JJ k3;clear hr3 hp3 Wh hC3 k3 hk3;go_wp2_with fail;refine WT.out.mono ?_;rintro e w4 ⟨rfl,hr4,hk4⟩;have HP4:=JJ (SG.out.Vd hk4 (LK hel SG.out.size) hne);have HO4:=JJ (P7 VJ.out hk4 hrw);have HC5:=JJ (Ot M w4.drew rb eb (eo+1+6) 8 t C3 x.z.hor x.z.hor [] (by rw[iq];exact hr4.drew) (by omega) (aqn _ (by unfold fits;omega) _) HP4.out.tgt (by omega) hM hne);clear hr4 hk4 WT;go_wp2_with fail;go_still_tail 7,(by kernel_rfl);go_wp2_with fail;refine HC5.out.mono ?_;rintro e w5 ⟨rfl,VX,hp5⟩;have hk5:∀b,w.heap.size<=b->b<w4.heap.size->w5.heap[b]? =w4.heap[b]? :=fun b h1 h2=>hp5.block b h2 (by omega) (by omega);have RP:=JJ (MK HO4.out hk5);have Zc:=JJ (HP4.out.trans hp5.NP);have Ug:=JJ (aa4 M w5 rb eb (eo+1+7) none 0 ((hp5.cell _).trans (by rw[bf (by omega)];exact SE.out 8 (by decide) (by decide))) VX);clear VX hp5 HC5 hk5;go_wp2_with fail;refine Ug.out.mono ?_;rintro e w6 ⟨rfl,hb6⟩;exact⟨rfl,rfl,_,by rw[di,l3],Zc.out.grow hb6 (LK hel Zc.out.size) hne⟩
end
section
attribute [local go_sem] Oa Og Ob Oh PX PZ N8 Oc N9 Oe adZ ad1
def avU {α:Type}(p:aj (α×ag au))(N:Ending->ae->Prop)(Y:α->ag au->Ending->ae->Prop)(e:Ending)(w:ae):Prop:=
 match p with
 |none=>N e w
 |some x=>Y x.1 x.2 e w
theorem avU.yes {α:Type}{p:aj (α×ag au)}{N:Ending->ae->Prop}{Y:α->ag au->Ending->ae->Prop}{e:Ending}{w:ae}{a:α}{R:ag au}(h:p=some (a,R))(hy:Y a R e w):avU p N Y e w:=by
 subst h;exact hy
def VU (cs C:ax ah):Prop:=C.size=cs.size/\(cs.all (·.oneCell')=true->C.all (·.oneCell')=true)
theorem VU.refl (cs:ax ah):VU cs cs:=⟨rfl,id⟩
theorem VU.trans {a b c:ax ah}(h:VU a b)(k:VU b c):VU a c:=⟨k.1.trans h.1,fun x=>k.2 (h.2 x)⟩
theorem VU.set {cs C:ax ah}{o:Nat}{v:ah}(h:VU cs C)(hv:v.oneCell'=true):VU cs (C.setIfInBounds o v):=by
 refine⟨by rw[di];exact h.1,fun x=>?_⟩;have h2:=h.2 x;rw[dS] at h2⊢;intro u hu;rcases Array.mem_or_eq_of_mem_setIfInBounds hu with h3|h3
 ·exact h2 u h3
 ·rw[h3];exact hv
def ajB (w:ae)(rb pb:Nat)(t:TypeId)(cs:ax ah)(e:Ending)(w':ae):Prop:=e=.panicked RI/\∃C:ax ah,VU cs C/\Md w rb pb t C w'
theorem ajB.NP {w w2:ae}{rb pb:Nat}{t:TypeId}{cs:ax ah}{e:Ending}(h:ajB w.drew rb pb t cs e w2):ajB w rb pb t cs e w2:=by
 obtain⟨he,D,hD,hT⟩:=h;exact⟨he,D,hD,hT.NP⟩
end
section
attribute [local go_sem] Oa Og Ob Oh PX PZ N8 Oc N9 Oe adZ ad1
structure aka (lo:Nat)(w:ae)(s:Zs)(z:Zn):Prop where
 JQ:w.ownsRow lo 3 1 (.slice s.A z.cal.JQ.length s.a) z.cal.JQ.length (z.cal.JQ.map I)
 rules:w.ownsRow lo 118 3 (.slice s.B z.cal.rules.length s.b) z.cal.rules.length (z.cal.rules.flatMap Lr.cells)
 trans:w.ownsRow lo 108 2 (.slice s.C z.trans.length s.c) z.trans.length (z.trans.flatMap Tr.cells)
 J6:w.ownsRow lo 110 5 (.slice s.D z.J6.length s.d) z.J6.length (z.J6.flatMap Yr.cells)
theorem aka.base {lo lo':Nat}{w:ae}{s:Zs}{z:Zn}(h:aka lo w s z)(hl:lo'<=lo):aka lo' w s z:=
 ⟨KD h.JQ hl,KD h.rules hl,KD h.trans hl,KD h.J6 hl⟩
theorem aka.at {lo:Nat}{w:ae}{s:Zs}{z:Zn}(h:aka lo w s z):N7 w w.heap.size s z:=
 ⟨JS.Le h.JQ,JS.Le h.rules,JS.Le h.trans,JS.Le h.J6⟩
end
section
attribute [local go_sem] Oa Og Ob Oh PX PZ N8 Oc N9 Oe
def CX1 (lo g:Nat)(w:ae)(A:aj Addr)(cs:ag ah):Prop:=
 cs.length=0\/∃b off,A=some ⟨b,off,none⟩/\(lo<=b/\b<w.heap.size/\b≠g)/\∀j u,cs[j]? =some u->w.cell? ⟨b,off+j,none⟩=some u
theorem CX1.of {lo g g':Nat}{w w':ae}{A:aj Addr}{cs:ag ah}(h:CX1 lo g w A cs)(hs:w.heap.size<=w'.heap.size)(hb:∀k,lo<=k->k<w.heap.size->k≠g->w'.heap[k]? =w.heap[k]? /\k≠g'):CX1 lo g' w' A cs:=by
 rcases h with h|⟨b,off,h1,⟨h2,h3,h4⟩,h5⟩
 ·exact .inl h
 ·obtain⟨e1,e2⟩:=hb b h2 h3 h4;exact .inr ⟨b,off,h1,⟨h2,by omega,e2⟩,fun j u hu=>(bI (a:=⟨b,off+j,none⟩) e1).trans (h5 j u hu)⟩
theorem CX1.own {lo B g e s n c:Nat}{w:ae}{A:aj Addr}{cs:ag ah}(h:w.ownsRow B e s (.slice A n c) n cs)(hl:lo<=B)(hg:g<B):CX1 lo g w A cs:=by
 by_cases h0:n=0
 ·refine .inl ?_;have:=h.1;rw[h0] at this;omega
 ·obtain⟨b,cap,h1,h2⟩:=LW h (by omega);injection h1 with h1 _ _;subst h1;have h3:=Qx h;refine .inr ⟨b,0,rfl,by omega,fun j u hu=>?_⟩;rw[aT];exact Vf h j u hu
structure ZX (lo g:Nat)(w:ae)(y:L9):Prop where
 JQ:CX1 lo g w y.s.A (y.e.z.cal.JQ.map I)
 rules:CX1 lo g w y.s.B (y.e.z.cal.rules.flatMap Lr.cells)
 trans:CX1 lo g w y.s.C (y.e.z.trans.flatMap Tr.cells)
 J6:CX1 lo g w y.s.D (y.e.z.J6.flatMap Yr.cells)
theorem ZX.of {lo g g':Nat}{w w':ae}{y:L9}(h:ZX lo g w y)(hs:w.heap.size<=w'.heap.size)(hb:∀k,lo<=k->k<w.heap.size->k≠g->w'.heap[k]? =w.heap[k]? /\k≠g'):ZX lo g' w' y:=
 ⟨h.JQ.of hs hb,h.rules.of hs hb,h.trans.of hs hb,h.J6.of hs hb⟩
theorem CX1.at {lo g:Nat}{w:ae}{A:aj Addr}{cs:ag ah}(h:CX1 lo g w A cs):JS w w.heap.size A cs:=by
 rcases h with h|⟨b,off,h1,⟨_,h3,_⟩,h5⟩
 ·exact .inl h
 ·exact .inr ⟨b,off,h1,h3,h5⟩
theorem ZX.at {lo g:Nat}{w:ae}{y:L9}(h:ZX lo g w y):N7 w w.heap.size y.s y.e.z:=⟨h.JQ.at,h.rules.at,h.trans.at,h.J6.at⟩
theorem CX1.lower {lo lo' g:Nat}{w:ae}{A:aj Addr}{cs:ag ah}(h:CX1 lo g w A cs)(hl:lo'<=lo):CX1 lo' g w A cs:=by
 rcases h with h|⟨b,off,h1,⟨h2,h3,h4⟩,h5⟩
 ·exact .inl h
 ·exact .inr ⟨b,off,h1,⟨by omega,h3,h4⟩,h5⟩
theorem ZX.lower {lo lo' g:Nat}{w:ae}{y:L9}(h:ZX lo g w y)(hl:lo'<=lo):ZX lo' g w y:=
 ⟨h.JQ.lower hl,h.rules.lower hl,h.trans.lower hl,h.J6.lower hl⟩
structure ZsQ (lo:Nat)(w:ae)(v:ah)(zs:ag L9):Prop where
 row:w.ownsRow lo 76 9 v zs.length (KC zs)
 each:∀x∈zs,∃g,ZX lo g w x
 nil:zs.length=0->v=.slice none 0 0
theorem ZsQ.Kr {lo:Nat}{w w':ae}{v:ah}{zs:ag L9}(h:ZsQ lo w v zs)(hs:w.heap.size<=w'.heap.size)(hb:∀k,lo<=k->k<w.heap.size->w'.heap[k]? =w.heap[k]?):ZsQ lo w' v zs:=
 ⟨MK h.row hb,fun x hx=>by obtain⟨g,hg⟩:=h.each x hx;exact⟨g,hg.of hs fun k h1 h2 h3=>⟨hb k h1 h2,h3⟩⟩,h.nil⟩
theorem ZsQ.below {lo:Nat}{w w':ae}{v:ah}{zs:ag L9}(h:ZsQ lo w v zs)(hb:ai w.heap.size w w'):ZsQ lo w' v zs:=h.Kr hb.size fun k _ hk=>hb.block k hk
theorem ZsQ.lower {lo lo':Nat}{w:ae}{v:ah}{zs:ag L9}(h:ZsQ lo w v zs)(hl:lo'<=lo):ZsQ lo' w v zs:=
 ⟨KD h.row hl,fun x hx=>by obtain⟨g,hg⟩:=h.each x hx;exact⟨g,hg.lower hl⟩,h.nil⟩
end
section
attribute [local go_sem] Oa Og Ob Oh PX PZ N8 Oc N9 Oe
def atW (w:ae)(rb pb po:Nat)(t:TypeId)(cs:ax ah)(e:Ending)(w':ae):Prop:=e=.panicked RI/\∃g c,Md w rb pb t (cs.setIfInBounds po (.slice (some ⟨g,0,none⟩) 1 c)) w'
def atV (w:ae)(rb tb:Nat)(t:Tb)(e:Ending)(w':ae):Prop:=e=.panicked RI/\∃g c,Md w rb tb 26 (JK {t with Ku:=KA,JX:= []} (.slice (some ⟨g,0,none⟩) 1 c)) w'
def Tf (t:Tb)(x:Ze):ag au:=le t.J5 1++(le t.version 1++(le t.JU 1++(t.prev++(le 1 1++Tt x))))
theorem aeB (M:Nat)(w:ae)(rb pb po:Nat)(t:TypeId)(cs:ax ah)(x:Ze)(hxf:Tz x.z/\x.name.size<=32)(hr:PV M w rb (le 1 1++Tt x))(hp:w.heap[pb]? =some (.cells cs t (0,0)))(hpo:cs[po]? =some (.slice none 0 0))(hMp:M<=pb)(hne:pb≠rb):
  Calls Tryz.prog 64 #[.iface 134 (pt rb),.pointer (some ⟨pb,po,none⟩),I 1,.func (.func 65) #[] #[]] w (atW w rb pb po t cs):=by
 have hpl:pb<w.heap.size:=(KY.1 hp).1;have hlo:=hr.lo;have hrl:=hr.lt;have hcs:cs.setIfInBounds po (.slice none 0 0)=cs:=by
  apply jG;intro i;rw[iZ];split
  ·rename_i e;subst e;split
   ·exact hpo.symm
   ·rename_i e2;rw[iI (by omega)] at hpo;cases hpo
  ·rfl
 have hc0:w.cell? ⟨pb,po,none⟩=some (.slice none 0 0):=(aC w pb po _ _ _ hp).trans hpo;have hpos:po<cs.size:=(KY.1 hpo).1;have HC:=JJ (Px M w.drew rb 1 0 1 1 (Tt x) hr.drew (by omega) (Td _ (by omega) (by omega) _));have HP:Hid (Md w rb pb t (cs.setIfInBounds po (.slice none 0 0)) w):=JJ (by rw[hcs];exact Md.refl hp);have HXF:=JJ hxf;clear hr hp hpo hcs hxf;obtain⟨i0,hi,hz0,hz1,hz2⟩:=dN YV;go_enter nN,mP;go_wp2_with fail;go_still_tail 9,(by kernel_rfl);go_wp2_with fail;refine HC.out.mono ?_;rintro e w1 ⟨rfl,hr1,hk1⟩;have HR1:=JJ hr1;have WZ:=JJ (HP.out.drew.Vd hk1 hpl hne);clear hr1 hk1 HC hc0;go_wp2_with fail
 go_loopw [22] (fun i wr=>i=.int .i64 0/\PV M wr rb (Tt x)/\Md w rb pb t (cs.setIfInBounds po (.slice none 0 0)) wr) (fun _ _=>0)
 case atStart=>exact⟨rfl,HR1.out,WZ.out⟩
 case round=>
  obtain⟨rfl,hr,hp⟩:=hrel;have HR:=JJ hr;have Zd:=JJ hp;have hcp:wr.cell? ⟨pb,po,none⟩=some (.slice none 0 0):=(hp.cell po).trans (by simp[hpos]);have hsw:=hp.size;clear hr hp HR1 WZ HP;have aqQ:Hid (∀j u,Qr.toList[j]? =some u->(((wr.alloc (.cells Qr 76)).alloc (.cells Qr 76)).drew).cell? ((⟨wr.heap.size+1,0,none⟩:Addr).add j)=some u):=JJ fun j u hu=>by
   rw[addr_add];have h:=(Row.new (wr.alloc (.cells Qr 76)) Qr 76).2 j;rw[dO] at h;exact h.trans (by simpa using hu)
  have afd:Hid (∀u∈Qr.toList,u.oneCell'=true):=JJ (by
   intro u hu;have h:Qr.all (·.oneCell')=true:=by kernel_rfl
   rw[dS] at h;exact h u (by simpa using hu))
  have aAw:pb<wr.heap.size:=by omega
  have hmx:0+1<=maxLen:=by unfold maxLen;omega
  have hby:(0+1)*144<=140737488355328:=by omega
  have HBS:Hid (w.heap.size<=(((wr.alloc (.cells Qr 76)).alloc (.cells Qr 76)).drew).heap.size):=JJ (by simp;omega);have L6:Hid ((((wr.alloc (.cells Qr 76)).alloc (.cells Qr 76)).drew).heap.size=wr.heap.size+2):=JJ (by simp);have HOO:Hid ((((wr.alloc (.cells Qr 76)).alloc (.cells Qr 76)).drew).ownsRow w.heap.size 76 9 (.slice none 0 0) 0 []):=JJ (dD _ _ _ _);have am6:Hid (∀b,b<wr.heap.size->(((wr.alloc (.cells Qr 76)).alloc (.cells Qr 76)).drew).heap[b]? =wr.heap[b]?):=JJ fun b hb=>(aV (wr.alloc (.cells Qr 76)) _ b (by simp;omega)).trans (aV wr _ b hb);go_wp2_with fail
  go_region_law (refine fP _ (by rfl) _ _ _ (by rfl) w.heap.size 76 i0 (.agg Qr) 9 144 iY hi hz0 hz1 hz2 (by rfl) (by omega) (.slice none 0 0) 0 [] (by rfl) HOO.out ⟨wr.heap.size+1,0,none⟩ 1 1 Qr.toList (by rfl) (by rfl) aqQ.out afd.out (by omega) hmx hby HBS.out (wr.heap.size+2) L6.out ?_;intro g2 c2 w2 hown2 hgrow2 afK hlt2;have hbw:∀b,b<w.heap.size->w2.heap[b]? =wr.heap[b]? :=fun b hb=>(hgrow2.block b (lQ (show b<wr.heap.size+2 by omega) L6.out.symm) (by simp[Value.ownBlock])).trans (am6.out b (by omega));have HP2:Hid (w2.heap[pb]? =some (.cells (cs.setIfInBounds po (.slice none 0 0)) t (0,0))):=JJ ((hbw pb hpl).trans Zd.out.tgt);have hcp2:w2.cell? ⟨pb,po,none⟩=some (.slice none 0 0):=(aC w2 pb po _ _ _ HP2.out).trans (by simp[hpos]);have anV:=aP w2 pb po _ _ HP2.out;have Rx:=JJ hbw;have SI:=JJ hown2;have HG2:=JJ hgrow2;have HA2:=JJ afK;clear hbw hown2 hgrow2 afK)
  all_goals
   have hs2:wr.heap.size+2<=w2.heap.size:=aO (iT L6.out.symm) HG2.out.size;have hlo2:=Qx SI.out;have hP3:Md w rb pb t (cs.setIfInBounds po (.slice (some ⟨g2,0,none⟩) 1 c2)) (w2.setCell ⟨pb,po,none⟩ (.slice (some ⟨g2,0,none⟩) 1 c2)):=by
    have h:Md w rb pb t (cs.setIfInBounds po (.slice none 0 0)) w2:=⟨HG2.out.os.trans Zd.out.os,HG2.out.tape.trans Zd.out.tape,HG2.out.output.trans Zd.out.output,by omega,fun b hb h1 h2=>(Rx.out b hb).trans (Zd.out.block b hb h1 h2),HP2.out⟩;have h:=h.put po (.slice (some ⟨g2,0,none⟩) 1 c2)
    rwa [gq] at h
   have hR3:PV M (w2.setCell ⟨pb,po,none⟩ (.slice (some ⟨g2,0,none⟩) 1 c2)) rb (Tt x):=(HR.out.of (Rx.out rb hrl) fun b hb=>Rx.out b (by omega)).put hMp hne _;have hO3:(w2.setCell ⟨pb,po,none⟩ (.slice (some ⟨g2,0,none⟩) 1 c2)).ownsRow w.heap.size 76 9 (.slice (some ⟨g2,0,none⟩) (0+1) c2) (0+1) ([]++Qr.toList):=Nl (p:=⟨pb,po,none⟩) SI.out (by intro e;injection e with e;simp only at e;omega);have SG:=JJ hP3;have HR3:=JJ hR3;have VJ:=JJ hO3;clear hP3 hR3 hO3 HP2 Rx SI HG2 HA2 hcp;go_wp2_with fail;obtain⟨w3,hw3⟩:∃W,w2.setCell ⟨pb,po,none⟩ (.slice (some ⟨g2,0,none⟩) 1 c2)=W:=⟨_,rfl⟩
   (try rw[hw3] at SG HR3 VJ⊢)
   obtain⟨cur,q1,q2,q3,q4,q5,q6,q7,_⟩:=RH VJ.out;have hzz:∀j,j<9->cur[0+j]? =Qr[j]? :=fun j hj=>by
    have h:(cur.toList.take ((0+1)*9))[j]? =([]++Qr.toList)[j]? :=by rw[q6]
    rw[dK (by omega)] at h;simpa using h
   refine(agl M w3 rb g2 0 76 cur x HXF.out.1 HXF.out.2 HR3.out q1 hzz (by omega) (by omega)).mono ?_;rintro e w4 ⟨rfl,C,_,U0⟩;exact⟨rfl,rfl,g2,c2,⟨U0.os.trans SG.out.os,U0.tape.trans SG.out.tape,U0.output.trans SG.out.output,aO SG.out.size U0.size,fun b hb h1 h2=>(U0.block b (LK hb SG.out.size) (by omega) h2).trans (SG.out.block b hb h1 h2),(U0.block pb (LK hpl SG.out.size) (by omega) hne).trans SG.out.tgt⟩⟩
theorem agn (M:Nat)(w:ae)(rb tb:Nat)(t:Tb)(x:Ze)(h:RY t)(hxf:Tz x.z/\x.name.size<=32)(hr:PV M w rb (Tf t x))(hp:w.heap[tb]? =some (.cells (JK J8 (.slice none 0 0)) 26 (0,0)))(hM:M<=tb)(hne:tb≠rb):
  Calls Tryz.prog 43 #[.iface 134 (pt rb),.pointer (some ⟨tb,0,none⟩)] w (atV w rb tb t):=by
 have hel:tb<w.heap.size:=(KY.1 hp).1;have hrw:=hr.lt;have hz:∀(u:Tb) (v:ah),u.prev.length=32->u.Ku.length=32->(JK u v).size=68:=fun u v h1 h2=>Kq u v h1 h2;have hr':PV M w.drew rb (le t.J5 1++(le t.version 1++(le t.JU 1++(t.prev++(le 1 1++Tt x))))):=hr.drew;have q1:=h.J5;have q2:=h.version;have q3:=h.JU;have Rj:=JJ (Ot M w.drew rb tb 0 1 26 _ t.J5 t.J5 _ hr' (by omega) (Td _ (by omega) (by omega) _) hp (by rw[hz _ _ rfl rfl];decide) hM hne);have HF:=JJ h;have HZ:=JJ hz;clear h hr hr' hp hz;go_enter Tryz.func43,Tryz.ntmps43;go_wp2_with fail;go_still_tail 7,(by kernel_rfl);go_wp2_with fail;refine Rj.out.mono ?_;rintro e w1 ⟨rfl,hr1,hp1⟩;rw[Xp] at hp1;have WZ:=JJ hp1.NP;have HC2:=JJ (Ot M w1.drew rb tb 1 1 26 _ t.version t.version _ hr1.drew (by omega) (Td _ (by omega) (by omega) _) hp1.tgt (by rw[HZ.out _ _ rfl rfl];decide) hM hne);clear hr1 hp1 Rj;go_wp2_with fail;go_still_tail 7,(by kernel_rfl);go_wp2_with fail;refine HC2.out.mono ?_;rintro e w2 ⟨rfl,hr2,hp2⟩;rw[V9] at hp2;have HP2:=JJ (WZ.out.trans hp2.NP);have Wh:=JJ (Ot M w2.drew rb tb 2 1 26 _ t.JU t.JU _ hr2.drew (by omega) (Td _ (by omega) (by omega) _) hp2.tgt (by rw[HZ.out _ _ rfl rfl];decide) hM hne);clear hr2 hp2 HC2;go_wp2_with fail;go_still_tail 7,(by kernel_rfl);go_wp2_with fail;refine Wh.out.mono ?_;rintro e w3 ⟨rfl,hr3,hp3⟩;rw[UJ] at hp3;have SG:=JJ (HP2.out.trans hp3.NP);have WT:=JJ (Yj M w3.drew rb tb 4 26 _ t.prev _ hr3.drew HF.out.prev hp3.tgt (by rw[HZ.out _ _ rfl rfl];decide) hM hne);clear hr3 hp3 Wh;go_wp2_with fail;go_still_tail 7,(by kernel_rfl);go_wp2_with fail;refine WT.out.mono ?_;rintro e w4 ⟨rfl,hr4,U0⟩;rw[aai _ _ _ rfl HF.out.prev] at U0;have HP4:=JJ (SG.out.trans U0.NP);have HC5:=JJ (aeB M w4 rb tb 3 26 _ x hxf hr4 U0.tgt (LD _ _) hM hne);clear hr4 U0 WT;go_wp2_with fail;refine HC5.out.mono ?_;rintro e w5 ⟨rfl,g,c,hp5⟩;rw[Rf] at hp5;exact⟨rfl,rfl,g,c,HP4.out.trans hp5⟩
end
section
attribute [local go_sem] Oa Og Ob Oh PX PZ N8 Oc N9 Oe
theorem acI (b:Nat)(w:ae)(v:ah)(hq:w.heap[b]? =some (.cells #[v] 4 (0,0))):
  CallsD Tryz.prog 66 #[.pointer (some ⟨b,0,none⟩)] (.panicking RI) w fun e u' w'=>e=.returned (.tuple #[])/\u'=.panicking [{v:=.iface 132 (.agg #[]),recovered:=true}]/\NL b w w'/\w'.heap[b]? =some (.cells #[.bool false] 4 (0,0)):=by
 have hnn:∀w,(binOp .neq 20 (.iface 132 (.agg #[])) .nilIface).run Tryz.prog w=.ok (.bool true) w:=by intro w;simp[go_sem]
 have hta:∀w,(Instr.typeAssert (.iface 132 (.agg #[])) 20 132 true).run Tryz.prog w=.ok (.tuple #[.agg #[],.bool true]) w:=by intro w;kernel_rfl
 have HB1:=JJ (JM w (.cells #[] 132));have hq1:(w.alloc (.cells #[] 132)).heap[b]? =some (.cells #[v] 4 (0,0)):=(HB1.out.block _ (Qk hq)).trans hq;have hcc:=aC _ b 0 _ _ _ hq1;have hfc:=aP _ b 0 _ _ hq1;have HK:Hid (NL b w ((w.alloc (.cells #[] 132)).setCell ⟨b,0,none⟩ (.bool false))):=JJ ⟨rfl,rfl,rfl,by simp[World.setCell],fun k hk hn=>(aN _ ⟨b,0,none⟩ k _ hn).trans (aV w _ k hk)⟩;have HQ:Hid (((w.alloc (.cells #[] 132)).setCell ⟨b,0,none⟩ (.bool false)).heap[b]? =some (.cells #[.bool false] 4 (0,0))):=JJ (by rw[bJ _ b 0 _ _ _ hq1];rfl);clear hq hq1 HB1;unfold RI;refine callsD_of_wpS Tryz.func66 rfl fun c₀ cs hu=>?_;apply wpS_seq;apply wpS_region;simp[wpOpsS,go_sem,recoverD,hu,Tryz.ntmps66,Exit.thenS];refine wpS_of_wp ?_;simp only[df,dh,dL,dw,bU,dn,dB,iy,iQ];go_wp2_with fail;simp[bodyPostS,results,Tryz.results66];exact⟨HK.out,HQ.out⟩
theorem alR (w:ae)(t:Tb)(x:Ze)(N b off c:Nat)(h:RY t)(hxf:Tz x.z/\x.name.size<=32)(hN:(Tf t x).length=N)(hbl:b<w.heap.size)(hc1:N<=c)(hc2:c<=9223372036854775807)
  (hA:∀j,j<N->w.cell? ⟨b,off+j,none⟩=some (Extern.Stop.cell ((Tf t x)[j]?.getD 0))):
  Calls Tryz.prog 45 #[.slice (some ⟨b,off,none⟩) N c] w fun e w'=>(∃g cz,e=.returned (.tuple #[.agg (JK {t with Ku:=KA,JX:= []} (.slice (some ⟨g,0,none⟩) 1 cz)),.bool false]))/\ai w.heap.size w w':=by
 have hmf:∀(fn:Fn) (first cap:ax ah) (w:ae),(Instr.makeFunc fn first cap).run Tryz.prog w=.ok (.func fn first cap) w:=fun _ _ _ _=>rfl;obtain⟨W,hW⟩:∃W,((w.alloc (.cells (JK J8 (.slice none 0 0)) 26)).alloc (.cells #[.bool false] 4)).alloc (.cells #[.slice (some ⟨b,off,none⟩) N c] 135)=W:=⟨_,rfl⟩;have hB:ai w.heap.size w W:=by rw[<-hW];exact(((aW _ w).alloc (ay _) _).alloc (by simp) _).alloc (by simp;omega) _
 have hs:W.heap.size=w.heap.size+3:=by rw[<-hW];simp
 have ht:W.heap[w.heap.size]? =some (.cells (JK J8 (.slice none 0 0)) 26 (0,0)):=by rw[<-hW];exact(aV _ _ _ (by simp;omega)).trans (dJ w _ _)
 have ho:W.heap[w.heap.size+1]? =some (.cells #[.bool false] 4 (0,0)):=by rw[<-hW];exact(aV _ _ _ (by simp)).trans (bW w _ _)
 have hr:PV w.heap.size W (w.heap.size+2) (Tf t x):=by
  refine⟨⟨b,off,c,?_,by rw[hN];exact hc1,hc2,hbl,fun j hj=>(hB.cell (p:=⟨b,off+j,none⟩) hbl).trans (hA j (by omega))⟩,by omega⟩;rw[<-hW,hN];have:=aF ((w.alloc (.cells (JK J8 (.slice none 0 0)) 26)).alloc (.cells #[.bool false] 4)) (.cells #[.slice (some ⟨b,off,none⟩) N c] 135);simpa using this
 have HB:=JJ hB;have HS:=JJ hs;have HO:=JJ ho;have HC:=JJ (agn w.heap.size W (w.heap.size+2) w.heap.size t x h hxf hr ht (ay _) (by omega));have Oy:=h.prev;clear h hN hA hB hs ht ho hr
 go_enter_defers Tryz.func45,Tryz.ntmps45
 go_wp2_with fail;rw[RU,hW];refine HC.out.mono ?_;rintro e w2 ⟨rfl,g,cz,hp2⟩;have hs0:=HS.out;have ho2:w2.heap[w.heap.size+1]? =some (.cells #[.bool false] 4 (0,0)):=(hp2.block _ (by omega) (by omega) (by omega)).trans HO.out;have HB2:=JJ (hp2.grown HB.out (ay _) (by omega) (by omega));refine leaves_cons (f:=66) (args:= #[.pointer (some ⟨w.heap.size+1,0,none⟩)]) (by simp) (by simp[go_sem]) ?_;refine(acI (w.heap.size+1) w2 (.bool false) ho2).mono ?_;rintro e u' w3 ⟨rfl,rfl,hk3,hq3⟩;have hv3:w3.heap[w.heap.size]? =some (.cells (JK {t with Ku:=KA,JX:= []} (.slice (some ⟨g,0,none⟩) 1 cz)) 26 (0,0)):=(hk3.block _ (by have:=hp2.size;omega) (by omega)).trans hp2.tgt;have hc3:=aC _ (w.heap.size+1) 0 _ _ _ hq3;refine⟨_,TS rfl _ _ w.heap.size (w.heap.size+1) _ (JK {t with Ku:=KA,JX:= []} (.slice (some ⟨g,0,none⟩) 1 cz)) (0,0) _ (.bool false) rfl hv3 az rfl (Ky {t with Ku:=KA,JX:= []} _ Oy rfl) rfl (Sm _ _ _ hc3),⟨g,cz,rfl⟩,?_⟩;have h1:=HB2.out;exact⟨hk3.os.trans h1.os,hk3.tape.trans h1.tape,hk3.output.trans h1.output,aO h1.size hk3.size,fun k hk=>(hk3.block k (LK hk h1.size) (by omega)).trans (h1.block k hk)⟩
theorem acG (w:ae)(t:Tb)(x:Ze)(N b off c:Nat)(h:RY t)(hxf:Tz x.z/\x.name.size<=32)(hN:(Tf t x).length=N)(hbl:b<w.heap.size)(hc1:N<=c)(hc2:c<=9223372036854775807)
  (hA:∀j,j<N->w.cell? ⟨b,off+j,none⟩=some (Extern.Stop.cell ((Tf t x)[j]?.getD 0))):
  Calls Tryz.prog 24 #[.slice (some ⟨b,off,none⟩) N c] w (Gives (.tuple #[.agg (JK J8 (.slice none 0 0)),.int .i64 3]) w):=by
 have HW0:=JJ (AV.new w (JK J8 (.slice none 0 0)) 26);have HB0:=JJ (JM w (.cells (JK J8 (.slice none 0 0)) 26));have HC:Hid (∀W,ai w.heap.size w W->Calls Tryz.prog 45 #[.slice (some ⟨b,off,none⟩) N c] W fun e w'=>(∃g cz,e=.returned (.tuple #[.agg (JK {t with Ku:=KA,JX:= []} (.slice (some ⟨g,0,none⟩) 1 cz)),.bool false]))/\ai W.heap.size W w'):=JJ (fun W hb=>alR W t x N b off c h hxf hN (LK hbl hb.size) hc1 hc2 fun j hj=>(hb.cell (p:=⟨b,off+j,none⟩) hbl).trans (hA j hj));have Oy:=h.prev;clear h hN hA;go_enter Tryz.func24,Tryz.ntmps24;go_upto_region 1 with ((with_reducible refine Kz 26 ?_);refine JW rfl _ rfl (JK J8 (.slice none 0 0)) KQ ?_);go_wp2_with fail;refine(HC.out _ HB0.out).mono ?_;rintro e w2 ⟨⟨g,cz,rfl⟩,hb2⟩;have HR2:=JJ (HW0.out.below hb2);have HB2:=JJ (JL HB0.out hb2);have L6:Hid ((Tryz.prog.info? 26).map (·.size)=some (JK {t with Ku:=KA,JX:= []} (.slice (some ⟨g,0,none⟩) 1 cz)).size):=JJ (Ky {t with Ku:=KA,JX:= []} _ Oy rfl);have WV:Hid ((JK J8 (.slice none 0 0)).size=(JK {t with Ku:=KA,JX:= []} (.slice (some ⟨g,0,none⟩) 1 cz)).size):=JJ ((Kq J8 _ rfl rfl).trans (Kq {t with Ku:=KA,JX:= []} _ Oy rfl).symm);have hw2:w.heap.size<w2.heap.size:=HR2.out.lt;have YN:Hid ((Tryz.prog.info? 26).map (·.size)=some (JK J8 (.slice none 0 0)).size):=JJ (Ky J8 _ rfl rfl);clear hb2 HC HW0 HB0;have HR3:Hid (AV w.heap.size 26 (JK J8 (.slice none 0 0)) ((w2.alloc (.cells (JK J8 (.slice none 0 0)) 26)).setRow w2.heap.size (JK {t with Ku:=KA,JX:= []} (.slice (some ⟨g,0,none⟩) 1 cz)))):=JJ ((HR2.out.below (JM w2 _)).UA (by omega) _);have HB3:Hid (ai w.heap.size w ((w2.alloc (.cells (JK J8 (.slice none 0 0)) 26)).setRow w2.heap.size (JK {t with Ku:=KA,JX:= []} (.slice (some ⟨g,0,none⟩) 1 cz)))):=JJ (JR (JL HB2.out (JM w2 _)) (by omega) _);go_wp2_with(first
  |((with_reducible refine Kz 26 ?_);refine JW rfl _ rfl (JK J8 (.slice none 0 0)) KQ ?_)
  |((with_reducible refine LY 26 ?_);refine KE rfl _ rfl (JK J8 (.slice none 0 0)) (by kernel_rfl) ?_)
  |((with_reducible refine KZ 26 ?_);go_must (first
    |(refine aB rfl _ _ _ rfl w2.heap.size (JK {t with Ku:=KA,JX:= []} (.slice (some ⟨g,0,none⟩) 1 cz)) rfl rfl 26 (JK J8 (.slice none 0 0)) (aF _ _) L6.out WV.out (J9 _ _ _ _) ?_)
    |(refine aB rfl _ _ _ rfl w.heap.size (JK J8 (.slice none 0 0)) rfl rfl 26 (JK J8 (.slice none 0 0)) HR3.out.var YN.out rfl (J9 _ _ _ _) ?_))))
 refine aX (v:=.tuple #[.agg (JK J8 (.slice none 0 0)),I 3]) (Ko rfl _ _ w.heap.size _ (JK J8 (.slice none 0 0)) (0,0) _ rfl (aQ _ _ _ _ _ _ HR3.out.var) az rfl YN.out _ rfl) rfl ?_;exact⟨rfl,JR HB3.out (ay _) _⟩
end
end Go.Proofs.YtbaehbbonkljpaaGreatDoor
