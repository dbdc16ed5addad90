/- The texts Ph, Pi, Pj, Kb, in this order. -/
import Derived.Test.YtbaehbbonkljpaaGreatDoorT04
set_option maxRecDepth 10000
set_option maxHeartbeats 8000000
namespace Go.Proofs.YtbaehbbonkljpaaGreatDoor
open Go Go.RowKit
section
theorem ahK (x:L9):(Tryz.prog.info? 76).map (·.size)=some x.cells.size:=by kernel_rfl
theorem aoZ (x:L9):x.cells[0]? =some (.string x.e.name):=rfl
theorem QH:(Tryz.prog.info? 69).map (·.size)=some OQ.size:=by kernel_rfl
theorem WR:OQ.all (·.oneCell')=true:=by kernel_rfl
attribute [local go_sem] aoZ LD
theorem agC (x:L9)(nb:Nat)(name:ByteArray)(w:ae)(hb:nb<w.heap.size)(hc:w.cell? ⟨nb,0,none⟩=some (.string name)):
  Calls Tryz.prog 48 #[.agg x.cells,pt nb] w (Gives (.bool (x.e.name.toList==name.toList)) w):=by
 have HB:=JJ (JM w (.cells x.cells 76));have hc2:=(HB.out.cell (p:=⟨nb,0,none⟩) hb).trans hc;have hr:=(Row.new w x.cells 76).2 0;go_enter Tryz.func48,Tryz.ntmps48;go_wp2_with fail;go_ret;exact⟨rfl,HB.out⟩
def ZV (a b:ByteArray):Bool:=a.toList==b.toList
def IxP (w:ae)(zs:ag L9)(name:ByteArray)(e:Ending)(w':ae):Prop:=
 ∃v,e=.returned (I v)/\ai w.heap.size w w'/\((v= -1/\∀(j:Nat) (y:L9),zs[j]? =some y->ZV y.e.name name=false)\/∃(i:Nat) (x:L9),v=(i:Int)/\zs[i]? =some x/\ZV x.e.name name=true/\∀(j:Nat) (y:L9),j<i->zs[j]? =some y->ZV y.e.name name=false)
def avO (w:ae)(zs:ag L9)(name:ByteArray)(n:Nat)(i:ah)(wr:ae):Prop:=∃k:Nat,k<=n/\i=.int .i64 k/\(∀(j:Nat) (y:L9),j<k->zs[j]? =some y->ZV y.e.name name=false)/\ai w.heap.size w wr
theorem afR (A:aj Addr)(c n:Nat)(zs:ag L9)(nb:Nat)(name:ByteArray)(w:ae)(hn:zs.length=n)(hn1:n<=100000)(h:JS w w.heap.size A (KC zs))(hb:nb<w.heap.size)(hc:w.cell? ⟨nb,0,none⟩=some (.string name)):
  Calls Tryz.prog 47 #[.slice A n c,.func (.func 48) #[] #[pt nb]] w (IxP w zs name):=by
 have HN:=JJ hn;have HC:=JJ h;clear hn h;go_enter Tryz.func47,Tryz.ntmps47;go_wp2_with fail
 go_loopw [8] (fun i wr=>avO w zs name n i wr) (fun i _=>n - (intOf i).toNat)
 case atStart=>exact⟨0,aG _,rfl,fun j y hj=>absurd hj (fD _),aW _ _⟩
 case round=>
  obtain⟨k,hk,rfl,hall,hbl⟩:=hrel;have Ox:=JJ hall;have HB:=JJ hbl;clear hall hbl;by_cases hlt:k<n
  ·have hkl:k<zs.length:=by rw[HN.out];exact hlt
   obtain⟨x,hx⟩:∃x,zs[k]? =some x:=⟨_,KL hkl⟩;obtain⟨b,off,rfl,hbw,hcl⟩:=HC.out.there (by rw[MB];omega);have HX:=JJ hx;have HCX:Hid (wr.rangeAt b (off+k*9) x.cells.toList):=JJ fun j u hu=>by
    have hj:j<9:=(MF.1 hu).1;rw[fE];refine(HB.out.cell (p:=⟨b,off+(k*9+j),none⟩) hbw).trans (hcl _ u ?_);rw[Tu zs k j x hx hj];simpa using hu
   have hlt2:nb<wr.heap.size:=LK hb HB.out.size;have hc2:wr.cell? ⟨nb,0,none⟩=some (.string name):=(HB.out.cell (p:=⟨nb,0,none⟩) hb).trans hc;have HZ:=JJ (agC x nb name wr hlt2 hc2);have i0:(0:Int)<=(k:Int):=by omega
   have i1:(k:Int)<(n:Int):=by omega
   clear hkl hx hcl hlt2 hc2;cases hq:ZV x.e.name name
   ·have HQ:=JJ hq;clear hq;go_wp2_with((with_reducible refine Nb 76 ?_);refine jM rfl _ _ rfl b (off+k*9) rfl x.cells.toList _ HCX.out lT rfl (ahK x) ?_);refine HZ.out.mono ?_;rintro e w2 ⟨rfl,hb2⟩;rw[show(x.e.name.toList==name.toList)=false from HQ.out];have HB2:=JJ (JL HB.out hb2);clear hb2;go_wp2_with fail;go_roundw
    case rel=>
     refine⟨k+1,by omega,by go_num,fun j y hj hy=>?_,HB2.out⟩;by_cases e:j=k
     ·subst e;have h1:=HX.out;rw[hy] at h1;injection h1 with h1;rw[h1];exact HQ.out
     ·exact Ox.out j y (by omega) hy
    case measure=>simp[intOf];omega
   ·have HQ:=JJ hq;clear hq;go_wp2_with((with_reducible refine Nb 76 ?_);refine jM rfl _ _ rfl b (off+k*9) rfl x.cells.toList _ HCX.out lT rfl (ahK x) ?_);refine HZ.out.mono ?_;rintro e w2 ⟨rfl,hb2⟩;rw[show(x.e.name.toList==name.toList)=true from HQ.out];have HB2:=JJ (JL HB.out hb2);clear hb2;go_wp2_with fail;go_ret;exact⟨_,rfl,HB2.out,.inr ⟨k,x,rfl,HX.out,HQ.out,Ox.out⟩⟩
  ·have hke:k=n:=by omega
   have Y9:=JJ hke;have hnl:¬(k:Int)<(n:Int):=by omega
   clear hke hlt;go_wp2_with fail;go_ret;exact⟨_,rfl,HB.out,.inl ⟨rfl,fun j y hy=>Ox.out j y (by have h1:=(MF.1 hy).1;have:=HN.out;have:=Y9.out;omega) hy⟩⟩
def UL (zs:ag Ze)(name:ByteArray):aj Zn:=(zs.find? fun e=>ZV e.name name).map (·.z)
theorem agz {zs:ag L9}{i:Nat}{x:L9}{name:ByteArray}(hx:zs[i]? =some x)(h:ZV x.e.name name=true)(hall:∀(j:Nat) (y:L9),j<i->zs[j]? =some y->ZV y.e.name name=false):UL (zs.map (·.e)) name=some x.e.z:=by
 induction zs generalizing i with
 |nil=>cases hx
 |cons y zs ih=>
  unfold UL;rw[fF,jO];cases i with
  |zero=>
   injection hx with hx;subst hx;rw[h];rfl
  |succ i=>
   rw[hall 0 y (jl _) rfl];exact ih (i:=i) hx fun j z hj hz=>hall (j+1) z (by omega) hz
theorem agy {zs:ag L9}{name:ByteArray}(hall:∀(j:Nat) (y:L9),zs[j]? =some y->ZV y.e.name name=false):UL (zs.map (·.e)) name=none:=by
 induction zs with
 |nil=>rfl
 |cons y zs ih=>
  unfold UL;rw[fF,jO,hall 0 y rfl];exact ih fun j z hz=>hall (j+1) z hz
def apZ (w:ae)(zs:ag Ze)(name:ByteArray)(e:Ending)(w':ae):Prop:=
 ai w.heap.size w w'/\((UL zs name=none/\e=.returned (.tuple #[.agg OQ,I 4]))\/∃z s,UL zs name=some z/\e=.returned (.tuple #[.agg (JV z s),I 0])/\ZnO w.heap.size w' s z/\∃e∈zs,e.z=z)
structure ZnV (w:ae)(cs:ax ah)(name:ByteArray)(W:ae):Prop where
 tab:W.heap[w.heap.size]? =some (.cells cs 26 (0,0))
 nm:W.heap[w.heap.size+1]? =some (.cells #[.string name] 9 (0,0))
 res:W.heap[w.heap.size+2]? =some (.cells OQ 69 (0,0))
 up:ai w.heap.size w W
theorem ZnV.start (w:ae)(cs:ax ah)(name:ByteArray):ZnV w cs name (((w.alloc (.cells cs 26)).alloc (.cells #[.string name] 9)).alloc (.cells OQ 69)):=by
 refine⟨(aV _ _ _ (by simp;omega)).trans (dJ w _ _),?_,?_,JL (JL (JM w _) (JM _ _)) (JM _ _)⟩
 ·exact(aV _ _ _ (by simp)).trans (bW w _ _)
 ·have h:=aF ((w.alloc (.cells cs 26)).alloc (.cells #[.string name] 9)) (.cells OQ 69);rw[dO,dO] at h;exact h
theorem ZnV.lt {w W:ae}{cs:ax ah}{name:ByteArray}(h:ZnV w cs name W):w.heap.size+2<W.heap.size:=(KY.1 h.res).1
theorem ZnV.grow {w W W':ae}{cs:ax ah}{name:ByteArray}(h:ZnV w cs name W)(hb:ai W.heap.size W W'):ZnV w cs name W':=by
 have hl:=h.lt;exact⟨(hb.block _ (by omega)).trans h.tab,(hb.block _ (by omega)).trans h.nm,(hb.block _ hl).trans h.res,JL h.up hb⟩
theorem aeN (x:Kv)(n:Nat)(name:ByteArray)(w:ae)(hn:x.zs.length=n)(hn1:n<=1000)(hl:∀y∈x.zs,Qs y.e.z)(h:Ld w w.heap.size x):
  Calls Tryz.prog 28 #[.agg (JK x.t (.slice x.A n x.c)),.string name] w (apZ w x.t.JX name):=by
 have HV:=JJ (ZnV.start w (JK x.t (.slice x.A n x.c)) name);have HN:=JJ hn;have HL:=JJ hl;have HT:=JJ h;clear hn hl h;go_enter Tryz.func28,Tryz.ntmps28;go_wp2_with(with_reducible refine Kz 69 ?_;refine Ll rfl _ rfl OQ (by kernel_rfl) ?_);generalize ((w.alloc (.cells (JK x.t (.slice x.A n x.c)) 26)).alloc (.cells #[.string name] 9)).alloc (.cells OQ 69)=W1 at HV⊢;have hlt:=HV.out.lt;refine(show Calls Tryz.prog _ _ W1 _ from afR x.A x.c n x.zs (w.heap.size+1) name W1 HN.out (by omega) ((HT.out.JX.row.keep HV.out.up).more HV.out.up.size) (by omega) (aC W1 _ 0 _ _ _ HV.out.nm)).mono ?_;rintro e w2 ⟨v,rfl,hb2,hv⟩;have Qd:=JJ (HV.out.grow hb2);clear hb2 hlt;rcases hv with ⟨rfl,hno⟩|⟨i,y,rfl,hy,hyes,hall⟩
 ·have Za:=JJ (agy hno);clear hno;go_wp2_with(first
   |((with_reducible refine LY 69 ?_);refine KE rfl _ rfl OQ (by kernel_rfl) ?_)
   |((with_reducible refine Lj 69 ?_);refine aB rfl _ _ _ rfl (w.heap.size+2) OQ rfl rfl 69 OQ Qd.out.res QH rfl WR ?_))
  refine aX (v:=.tuple #[.agg OQ,I 4]) (Ko rfl _ _ (w.heap.size+2) _ OQ (0,0) _ rfl (aQ _ _ _ _ _ _ Qd.out.res) cu rfl QH _ rfl) rfl ?_;exact⟨eH Qd.out.up (by omega) _,.inl ⟨by rw[HT.out.names];exact Za.out,rfl⟩⟩
 ·have HF:=JJ (agz hy hyes hall);have hym:=LQ hy;have HLY:=JJ (HL.out y hym);have HYM:=JJ hym;have HZA:Hid (N7 w2 w2.heap.size y.s y.e.z):=JJ ((HT.out.JX.each y hym).grow Qd.out.up);have hin:i<n:=by have h1:=(MF.1 hy).1;have:=HN.out;omega
  obtain⟨A0,hA0⟩:∃a,x.A=a:=⟨_,rfl⟩;obtain⟨b,off,hab,hbw,hcl⟩:=HT.out.JX.row.there (by rw[MB];have:=HN.out;omega);have HCX:Hid (w2.rangeAt b (off+i*9+1) (JV y.e.z y.s).toList):=JJ fun j u hu=>by
   have hj:j<8:=(MF.1 hu).1;rw[show off+i*9+1+j=off+(i*9+(j+1)) by omega];refine(Qd.out.up.cell (p:=⟨b,off+(i*9+(j+1)),none⟩) hbw).trans (hcl _ u ?_);rw[Tu x.zs i (j+1) y hy (by omega)];have e:y.cells[j+1]? =(JV y.e.z y.s).toList[j]? :=by
    match j,hj with
    |0,_=>rfl
    |1,_=>rfl
    |2,_=>rfl
    |3,_=>rfl
    |4,_=>rfl
    |5,_=>rfl
    |6,_=>rfl
    |7,_=>rfl
   rw[e];exact hu
  have c3:w2.cell? ⟨w.heap.size,3,none⟩=some (.slice (some ⟨b,off,none⟩) n x.c):=by rw[aC w2 _ 3 _ _ _ Qd.out.tab,LD,hab]
  have i0:(0:Int)<=(i:Int):=by omega
  have i1:(i:Int)<(n:Int):=by omega
  clear hy hyes hall hym hcl hab hA0;go_wp2_with((with_reducible refine Nb 69 ?_);refine jM rfl _ _ rfl b (off+i*9+1) rfl (JV y.e.z y.s).toList _ HCX.out cu rfl (QF _ _) ?_);refine(show Calls Tryz.prog _ #[.agg (JV y.e.z y.s)] w2 _ from U8 y.e.z y.s w2 HLY.out HZA.out).mono ?_;rintro e w3 ⟨s3,rfl,hx3,hb3⟩;have TF:=JJ (Qd.out.grow hb3);have Xz:=JJ hx3;have hl2:=Qd.out.lt;clear hx3 hb3;go_wp2_with((with_reducible refine Lj 69 ?_);refine aB rfl _ _ _ rfl (w.heap.size+2) (JV y.e.z s3) rfl rfl 69 OQ TF.out.res (QF _ _) rfl (aaA _ _) ?_);refine aX (v:=.tuple #[.agg (JV y.e.z s3),I 0]) (Ko rfl _ _ (w.heap.size+2) _ (JV y.e.z s3) (0,0) _ rfl (aQ _ _ _ _ _ _ TF.out.res) cu rfl (QF _ _) _ rfl) rfl ?_;refine⟨eH TF.out.up (by omega) _,.inr ⟨y.e.z,s3,by rw[HT.out.names];exact HF.out,rfl,?_,y.e,by rw[HT.out.names];exact fM HYM.out,rfl⟩⟩;exact(Xz.out.own.Kr (by simp[World.setRow]) fun k h1 _=>cZ _ _ k _ (by omega)).lower (by omega)
end
theorem PL {P:Program}{fn:Func}{p u v:Tmp}{ty:TypeId}(h:fn.results= #[.cell p ty,.tmp u,.tmp v])(tmps:ax ah)(w:ae)(g:Nat)(t:TypeId)(cs:ax ah)(fr:Nat×Nat)(d:TypeDesc)
  (hp:tmps.getD p undef=.pointer (some ⟨g,0,none⟩))(hg:w.heap[g]? =some (.cells cs t fr))
  (hu:P.underlying ty=some d)(hd:(match d with| .struct _| .array _ _=>true|_=>false)=true)(hi:(P.info? ty).map (·.size)=some cs.size)(v1 v2:ah)(hv1:tmps.getD u undef=v1)(hv2:tmps.getD v undef=v2):
  (results fn tmps).run P w=.ok (.tuple #[.agg cs,v1,v2]) w:=by
 have hp':tmps[p]?.getD undef=.pointer (some ⟨g,0,none⟩):=by simpa using hp
 have aAC:tmps[u]?.getD undef=v1:=by simpa using hv1
 have aAD:tmps[v]?.getD undef=v2:=by simpa using hv2
 simp[results,h,hp',asAddr,run_loadVar_row w g t ty cs fr d hg hu hd hi,aAC,aAD]
structure Ue where
 A:aj Addr
 c:Nat
 ts:ag Kv
def Ue.cell (x:Ue):ah:=.slice x.A x.ts.length x.c
structure XA (w:ae)(B:Nat)(A:aj Addr)(cs:ag Ue):Prop where
 row:JS w B A (cs.map Ue.cell)
 each:∀x∈cs,LJ w B x.A x.ts
theorem XA.keep {w w':ae}{B:Nat}{A:aj Addr}{cs:ag Ue}(h:XA w B A cs)(hb:ai B w w'):XA w' B A cs:=⟨h.row.keep hb,fun x hx=>(h.each x hx).keep hb⟩
theorem XA.more {w:ae}{B B':Nat}{A:aj Addr}{cs:ag Ue}(h:XA w B A cs)(hB:B<=B'):XA w B' A cs:=⟨h.row.more hB,fun x hx=>(h.each x hx).more hB⟩
theorem XA.grow {w w':ae}{A:aj Addr}{cs:ag Ue}(h:XA w w.heap.size A cs)(hb:ai w.heap.size w w'):XA w' w'.heap.size A cs:=(h.keep hb).more hb.size
def ajA (cs:ag Ue):Prop:=∀x∈cs,x.ts.length<=1000/\TC x.ts
def pick (ts:ag Kv)(name:ByteArray):aj Zn:=if (TM ts).2=true/\0<=(TM ts).1 then (ts[(TM ts).1.toNat]?).bind fun x=>UL x.t.JX name else none
def pk (cs:ag Ue)(name:ByteArray)(k:Int):aj Zn:=(cs[k.toNat]?).bind fun c=>pick c.ts name
def aj3 (w:ae)(cs:ag Ue)(zs:ag Int)(name:ByteArray)(e:Ending)(w':ae):Prop:=
 ai w.heap.size w w'/\(((∃k∈zs,¬(0<=k/\k<(cs.length:Int)))/\e=.returned (.tuple #[.agg OQ,I 0,I 1]))\/
  ((∀k∈zs,0<=k/\k<(cs.length:Int))/\(((∀k∈zs,pk cs name k=none)/\e=.returned (.tuple #[.agg OQ,I 0,I 4]))\/
   ∃(j:Nat) (k:Int) (z:Zn) (s:Zs),zs[j]? =some k/\pk cs name k=some z/\(∀(i:Nat) (k':Int),i<j->zs[i]? =some k'->pk cs name k'=none)/\e=.returned (.tuple #[.agg (JV z s),I k,I 0])/\ZnO w.heap.size w' s z/\Qs z)))
structure PrV (w W:ae):Prop where
 res:W.heap[w.heap.size]? =some (.cells OQ 69 (0,0))
 up:ai w.heap.size w W
theorem PrV.grow {w W W':ae}(h:PrV w W)(hb:ai W.heap.size W W'):PrV w W':=⟨(hb.block _ (KY.1 h.res).1).trans h.res,JL h.up hb⟩
theorem PrV.lt {w W:ae}(h:PrV w W):w.heap.size<W.heap.size:=(KY.1 h.res).1
def Pr1 (w:ae)(zs:ag Int)(m o:Nat)(i:ah)(wr:ae):Prop:=∃k:Nat,k<=o/\i=.int .i64 k/\(∀(j:Nat) (y:Int),j<k->zs[j]? =some y->0<=y/\y<(m:Int))/\PrV w wr
def Pr2 (w:ae)(cs:ag Ue)(zs:ag Int)(name:ByteArray)(o:Nat)(i:ah)(wr:ae):Prop:=∃k:Nat,k<=o/\i=.int .i64 k/\(∀(j:Nat) (y:Int),j<k->zs[j]? =some y->pk cs name y=none)/\PrV w wr
theorem ahm {cs:ag Ue}{name:ByteArray}{k:Int}{c:Ue}{p:Int}{b:Bool}(hc:cs[k.toNat]? =some c)(hp:TM c.ts=(p,b))(h:¬(b=true/\0<=p)):pk cs name k=none:=by
 unfold pk pick;rw[hc,Option.bind_some,hp,bP h]
theorem axm {cs:ag Ue}{name:ByteArray}{k:Int}{c:Ue}{i:Nat}{x:Kv}(hc:cs[k.toNat]? =some c)(hp:TM c.ts=((i:Int),true))(hx:c.ts[i]? =some x):pk cs name k=UL x.t.JX name:=by
 unfold pk pick;rw[hc,Option.bind_some,hp,bD ⟨rfl,by show(0:Int)<=(i:Int);omega⟩];show(c.ts[((i:Int)).toNat]?).bind _=_;rw[jo,hx];rfl
theorem Z5 (A O:aj Addr)(c oc m o:Nat)(cs:ag Ue)(zs:ag Int)(name:ByteArray)(w:ae)(hm:cs.length=m)(hm1:m<=1000)(ho:zs.length=o)(ho1:o<=1000)(hl:ajA cs)(h:XA w w.heap.size A cs)(hO:OT w w.heap.size O zs):
  Calls Tryz.prog 27 #[.slice A m c,.slice O o oc,.string name] w (aj3 w cs zs name):=by
 have HV:Hid (PrV w (w.alloc (.cells OQ 69))):=JJ ⟨aF w _,JM w _⟩;have HM:=JJ hm;have HO:=JJ ho;have HL:=JJ hl;have HC:=JJ h;have HI:=JJ hO;clear hm ho hl h hO;go_enter Tryz.func27,Tryz.ntmps27;go_wp2_with(with_reducible refine Kz 69 ?_;refine Ll rfl _ rfl OQ (by kernel_rfl) ?_)
 go_loopw [19] (fun i wr=>Pr1 w zs m o i wr) (fun i _=>o - (intOf i).toNat)
 case atStart=>exact⟨0,aG _,rfl,fun j y hj=>absurd hj (fD _),HV.out⟩
 case round=>
  obtain⟨k,hk,rfl,hall,hv⟩:=hrel;have Ox:=JJ hall;have Qq:=JJ hv;clear hall hv HV;by_cases hlt:k<o
  ·have hkl:k<zs.length:=by rw[HO.out];exact hlt
   obtain⟨y,hy⟩:∃y,zs[k]? =some y:=⟨_,KL hkl⟩;obtain⟨b,off,rfl,hbw,hcl⟩:∃b off,O=some ⟨b,off,none⟩/\b<w.heap.size/\∀j,j<zs.length->w.cell? ⟨b,off+j,none⟩=some (I (zs[j]?.getD 0)):=by
    rcases HI.out with h|h
    ·omega
    ·exact h
   have c0:wr.cell? ⟨b,off+k,none⟩=some (I y):=by rw[Qq.out.up.cell (p:=⟨b,off+k,none⟩) hbw,hcl k hkl,hy];rfl
   have HY:=JJ hy;have i0:(0:Int)<=(k:Int):=by omega
   have i1:(k:Int)<(o:Int):=by omega
   clear hkl hcl hy;by_cases hyr:0<=y/\y<(m:Int)
   ·obtain⟨hy0,hy1⟩:=hyr;have q0:¬y<0:=by omega
    have q1:¬(m:Int)<=y:=by omega
    go_wp2_with fail;go_roundw
    case rel=>
     refine⟨k+1,by omega,by go_num,fun j y' hj hy'=>?_,Qq.out⟩;by_cases e:j=k
     ·subst e;have h1:=HY.out;rw[hy'] at h1;injection h1 with h1;omega
     ·exact Ox.out j y' (by omega) hy'
    case measure=>simp[intOf];omega
   ·have HBAD:Hid (∃k∈zs,¬(0<=k/\k<(cs.length:Int))):=JJ ⟨y,LQ HY.out,by rw[HM.out];exact hyr⟩;by_cases q0:y<0
    ·clear hyr;go_wp2_with(first
      |((with_reducible refine LY 69 ?_);refine KE rfl _ rfl OQ (by kernel_rfl) ?_)
      |((with_reducible refine Lj 69 ?_);refine aB rfl _ _ _ rfl w.heap.size OQ rfl rfl 69 OQ Qq.out.res QH rfl WR ?_))
     refine aX (v:=.tuple #[.agg OQ,I 0,I 1]) (PL rfl _ _ w.heap.size _ OQ (0,0) _ rfl (aQ _ _ _ _ _ _ Qq.out.res) cu rfl QH _ _ rfl rfl) rfl ?_;exact⟨eH Qq.out.up (ay _) _,.inl ⟨HBAD.out,rfl⟩⟩
    ·have q1:(m:Int)<=y:=by omega
     clear hyr;go_wp2_with(first
      |((with_reducible refine LY 69 ?_);refine KE rfl _ rfl OQ (by kernel_rfl) ?_)
      |((with_reducible refine Lj 69 ?_);refine aB rfl _ _ _ rfl w.heap.size OQ rfl rfl 69 OQ Qq.out.res QH rfl WR ?_))
     refine aX (v:=.tuple #[.agg OQ,I 0,I 1]) (PL rfl _ _ w.heap.size _ OQ (0,0) _ rfl (aQ _ _ _ _ _ _ Qq.out.res) cu rfl QH _ _ rfl rfl) rfl ?_;exact⟨eH Qq.out.up (ay _) _,.inl ⟨HBAD.out,rfl⟩⟩
  ·have hke:k=o:=by omega
   have abd:Hid (∀k∈zs,0<=k/\k<(cs.length:Int)):=JJ fun y hy=>by
    obtain⟨j,hj⟩:=nz.1 hy;have h1:=(MF.1 hj).1;have h2:=Ox.out j y (by have:=HO.out;omega) hj;rw[HM.out];exact h2
   have hnl:¬(k:Int)<(o:Int):=by omega
   clear hke hlt Ox;go_wp2_with fail;clear hnl
   go_loopw [35] (fun i wr=>Pr2 w cs zs name o i wr) (fun i _=>o - (intOf i).toNat)
   case atStart=>exact⟨0,aG _,rfl,fun j y hj=>absurd hj (fD _),Qq.out⟩
   case round=>
    obtain⟨q,hq,rfl,hall,hv⟩:=hrel;have Ox:=JJ hall;have Qd:=JJ hv;clear hall hv Qq;by_cases hlt:q<o
    ·have hql:q<zs.length:=by rw[HO.out];exact hlt
     obtain⟨y,hy⟩:∃y,zs[q]? =some y:=⟨_,KL hql⟩;obtain⟨b,off,rfl,hbw,hcl⟩:∃b off,O=some ⟨b,off,none⟩/\b<w.heap.size/\∀j,j<zs.length->w.cell? ⟨b,off+j,none⟩=some (I (zs[j]?.getD 0)):=by
      rcases HI.out with h|h
      ·omega
      ·exact h
     have c0:wr.cell? ⟨b,off+q,none⟩=some (I y):=by rw[Qd.out.up.cell (p:=⟨b,off+q,none⟩) hbw,hcl q hql,hy];rfl
     have hyr:=abd.out y (LQ hy);rw[HM.out] at hyr;obtain⟨r,rfl⟩:=iG hyr.1;have hrm:r<m:=by omega
     obtain⟨x,hx⟩:∃x,cs[r]? =some x:=⟨_,KL (by rw[HM.out];exact hrm)⟩;have hxm:=LQ hx;obtain⟨g,arK,rfl,hgw,hgl⟩:=HC.out.row.there (by rw[aI,HM.out];omega);have c1:wr.cell? ⟨g,arK+r,none⟩=some (.slice x.A x.ts.length x.c):=by
      rw[Qd.out.up.cell (p:=⟨g,arK+r,none⟩) hgw];exact hgl r _ (by rw[aJ,hx];rfl)
     have HCH:=JJ (HC.out.each x hxm);have HLX:=JJ (HL.out x hxm);have HX:Hid (cs[((r:Nat):Int).toNat]? =some x):=JJ hx;have HY:=JJ hy;have i0:(0:Int)<=(q:Int):=by omega
     have i1:(q:Int)<(o:Int):=by omega
     have r0:(0:Int)<=(r:Int):=by omega
     have r1:(r:Int)<(m:Int):=by omega
     clear hql hcl hy hyr hx hxm hgl;go_wp2_with fail;refine(show Calls Tryz.prog _ _ wr _ from X9 x.A x.c x.ts.length x.ts wr rfl HLX.out.1 ((HCH.out.keep Qd.out.up).more Qd.out.up.size)).mono ?_;rintro e w3 ⟨p,bb,rfl,hp,hb3⟩;have hrg:=ZE hp;have HP:=JJ hp;have TF:=JJ (Qd.out.grow hb3);have c1':=(hb3.cell (p:=⟨g,arK+r,none⟩) (LK hgw Qd.out.up.size)).trans c1;clear hb3 hp;have NEXT:Hid (pk cs name (r:Int)=none->∀(j:Nat) (y:Int),j<q+1->zs[j]? =some y->pk cs name y=none):=JJ fun h0 j y hj hy=>by
      by_cases e:j=q
      ·subst e;have h1:=HY.out;rw[hy] at h1;injection h1 with h1;rw[h1];exact h0
      ·exact Ox.out j y (by omega) hy
     cases bb with
     |false=>
      have Za:=JJ (ahm (name:=name) HX.out HP.out (by simp));clear hrg;go_wp2_with fail;go_roundw
      case rel=>exact⟨q+1,by omega,by go_num,NEXT.out Za.out,TF.out⟩
      case measure=>simp[intOf];omega
     |true=>
      rcases hrg with hneg|⟨i,t,rfl,ht⟩
      ·have Za:=JJ (ahm (name:=name) HX.out HP.out (by omega));have q2:¬(0:Int)<=p:=by omega
       go_wp2_with fail;go_roundw
       case rel=>exact⟨q+1,by omega,by go_num,NEXT.out Za.out,TF.out⟩
       case measure=>simp[intOf];omega
      ·have ht:=ht rfl;have htm:=LQ ht;have h68:=(HCH.out.each t htm).size;have hil:i<x.ts.length:=(MF.1 ht).1;obtain⟨tb,axx,hta,htw,htab⟩:∃b off,x.A=some ⟨b,off,none⟩/\b<w.heap.size/\OC w b off x.ts:=by
        rcases OG HCH.out with h0|h0
        ·omega
        ·exact h0
       have HCX:Hid (w3.rangeAt tb (axx+i*68) t.cells):=JJ (JY (htab i t ht).1 TF.out.up htw);have L6:Hid ((Tryz.prog.info? 26).map (·.size)=some t.cells.length):=JJ (by rw[h68];kernel_rfl);have HTA:=JJ (((HCH.out.each t htm).keep TF.out.up).more TF.out.up.size);have HLT:=JJ (HLX.out.2 t htm);have HPK:=JJ (axm (name:=name) HX.out HP.out ht);have j0:(0:Int)<=(i:Int):=by omega
       obtain⟨nx,hnx⟩:∃nx,x.ts.length=nx:=⟨_,rfl⟩;have j1:(i:Int)<(nx:Int):=by omega
       rw[hta,hnx] at c1';clear ht htm h68 hil htab hta hnx c1 c0;go_wp2_with((with_reducible refine Nb 26 ?_);refine jM rfl _ _ rfl tb (axx+i*68) rfl t.cells _ HCX.out az rfl L6.out ?_);refine(show Calls Tryz.prog _ #[.agg t.cells.toArray,.string name] w3 _ from aeN t t.zs.length name w3 rfl HLT.out.1 HLT.out.2 HTA.out).mono ?_;rintro e w4 ⟨hb4,⟨hno,rfl⟩|⟨z,s,hz,rfl,hzo,ez,hez,rfl⟩⟩
       ·have Za:Hid (pk cs name (r:Int)=none):=JJ (by rw[HPK.out];exact hno);have HV4:=JJ (TF.out.grow hb4);clear hb4 hno;go_wp2_with(first
         |(with_reducible refine Kz 69 ?_;refine Ll rfl _ rfl OQ (by kernel_rfl) ?_)
         |((with_reducible refine Lj 69 ?_);refine Nh rfl _ _ _ rfl OQ rfl rfl 69 OQ rfl QH rfl WR ?_;intro W5 hb5 _ _;have HV5:=JJ (HV4.out.grow hb5);clear hb5))
        go_roundw
        case rel=>exact⟨q+1,by omega,by go_num,NEXT.out Za.out,HV5.out⟩
        case measure=>simp[intOf];omega
       ·have azD:Hid (pk cs name (r:Int)=some ez.z):=JJ (by rw[HPK.out];exact hz);have HV4:=JJ (TF.out.grow hb4);have HZO:=JJ hzo;have hlw:=TF.out.lt;have HZL:Hid (Qs ez.z):=JJ (by
         have h1:=HTA.out.names;rw[h1] at hez;obtain⟨v,hv,rfl⟩:=fJ.1 hez;exact HLT.out.2 v hv)
        clear hb4 hzo hz hez;go_wp2_with(first
         |(with_reducible refine Kz 69 ?_;refine Ll rfl _ rfl OQ (by kernel_rfl) ?_)
         |((with_reducible refine Lj 69 ?_);refine Nh rfl _ _ _ rfl (JV ez.z s) rfl rfl 69 OQ rfl (QF _ _) rfl (aaA _ _) ?_;intro W5 hb5 hl5 VX;have HV5:=JJ (HV4.out.grow hb5);have Tv:=JJ VX;have HZ5:=JJ (HZO.out.Kr hb5.size fun k _ h2=>hb5.block k h2);clear hb5 hl5 VX)
         |((with_reducible refine Nb 69 ?_);refine KF rfl _ _ rfl w4.heap.size rfl (JV ez.z s) Tv.out _ cu rfl (QF _ _) ?_)
         |((with_reducible refine Lj 69 ?_);refine aB rfl _ _ _ rfl w.heap.size (JV ez.z s) rfl rfl 69 OQ HV5.out.res (QF _ _) rfl (aaA _ _) ?_))
        refine aX (v:=.tuple #[.agg (JV ez.z s),I (r:Int),I 0]) (PL rfl _ _ w.heap.size _ (JV ez.z s) (0,0) _ rfl (aQ _ _ _ _ _ _ HV5.out.res) cu rfl (QF _ _) _ _ rfl rfl) rfl ?_;refine⟨eH HV5.out.up (ay _) _,.inr ⟨abd.out,.inr ⟨q,(r:Int),ez.z,s,HY.out,azD.out,Ox.out,rfl,?_,HZL.out⟩⟩⟩;exact(HZ5.out.Kr (by simp[World.setRow]) fun k h1 _=>cZ _ _ k _ (by omega)).lower (by omega)
    ·have hqe:q=o:=by omega
     have auZ:Hid (∀k∈zs,pk cs name k=none):=JJ fun y hy=>by
      obtain⟨j,hj⟩:=nz.1 hy;have h1:=(MF.1 hj).1;exact Ox.out j y (by have:=HO.out;omega) hj
     have hnl:¬(q:Int)<(o:Int):=by omega
     clear hqe hlt;go_wp2_with(first
      |((with_reducible refine LY 69 ?_);refine KE rfl _ rfl OQ (by kernel_rfl) ?_)
      |((with_reducible refine Lj 69 ?_);refine aB rfl _ _ _ rfl w.heap.size OQ rfl rfl 69 OQ Qd.out.res QH rfl WR ?_))
     refine aX (v:=.tuple #[.agg OQ,I 0,I 4]) (PL rfl _ _ w.heap.size _ OQ (0,0) _ rfl (aQ _ _ _ _ _ _ Qd.out.res) cu rfl QH _ _ rfl rfl) rfl ?_;exact⟨eH Qd.out.up (ay _) _,.inr ⟨abd.out,.inl ⟨auZ.out,rfl⟩⟩⟩
theorem asy (a b:Int)(c:Bool)(W:ae):(binOp .neq 118 (.agg #[I a,I b,.bool c]) (.agg #[I a,I b,.bool c])).run Tryz.prog W=.ok (.bool false) W:=by simp[go_sem]
theorem asz (a b:Int)(W:ae):(binOp .neq 108 (.agg #[I a,I b]) (.agg #[I a,I b])).run Tryz.prog W=.ok (.bool false) W:=by simp[go_sem]
theorem asA (a b c d e:Int)(W:ae):(binOp .neq 110 (.agg #[I a,I b,I c,I d,I e]) (.agg #[I a,I b,I c,I d,I e])).run Tryz.prog W=.ok (.bool false) W:=by simp[go_sem]
structure SS (w:ae)(t:TypeId)(us vs:ax ah)(W:ae):Prop where
 a:Row W w.heap.size us
 b:Row W (w.heap.size+1) vs
 up:ai w.heap.size w W
theorem SS.start (w:ae)(t:TypeId)(us vs:ax ah):SS w t us vs ((w.alloc (.cells us t)).alloc (.cells vs t)):=
 ⟨Row.Nk (dJ w _ _),Row.Nk (bW w _ _),JL (JM w _) (JM _ _)⟩
theorem SS.drew {w W:ae}{t:TypeId}{us vs:ax ah}(h:SS w t us vs W)(q:Nat):SS w t us vs (W.drewN q):=
 ⟨h.a.keep (below_drewN' _ _),h.b.keep (below_drewN' _ _),JL h.up (below_drewN' _ _)⟩
theorem SS.below {w W W':ae}{t:TypeId}{us vs:ax ah}(h:SS w t us vs W)(hb:ai W.heap.size W W'):SS w t us vs W':=
 ⟨h.a.keep hb,h.b.keep hb,JL h.up hb⟩
def Zo (w:ae)(t:TypeId)(us vs:ax ah)(n:Nat)(i:ah)(wr:ae):Prop:=∃k:Nat,k<=n/\i=.int .i64 k/\SS w t us vs wr
theorem acO {w W:ae}{A A':aj Addr}{α:Type}{s:Nat}{f:α->ag ah}{xs:ag α}(hs:∀x∈xs,(f x).length=s)(h:JS w w.heap.size A (xs.flatMap f))(h':JS w w.heap.size A' (xs.flatMap f))(hb:ai w.heap.size w W)(k:Nat)(hk:k<xs.length)(h0:0<s):
  ∃x b off b' off',xs[k]? =some x/\A=some ⟨b,off,none⟩/\A'=some ⟨b',off',none⟩/\W.rangeAt b (off+k*s) (f x)/\W.rangeAt b' (off'+k*s) (f x):=by
 have hl:0<(xs.flatMap f).length:=by rw[KW f xs hs];exact Nat.mul_pos (by omega) h0
 obtain⟨b,off,e1,hb1,hc1⟩:=h.there hl;obtain⟨b',off',e2,hb2,hc2⟩:=h'.there hl;have hx:xs[k]? =some xs[k]:=KL hk;exact⟨xs[k],b,off,b',off',hx,e1,e2,JY (JS.elem hs hc1 k _ hx) hb hb1,JY (JS.elem hs hc2 k _ hx) hb hb2⟩
theorem aiv (zs:ag Int):zs.map I=zs.flatMap (fun z=> [I z]):=by
 induction zs with
 |nil=>rfl
 |cons z zs ih=>rw[fF,ih,dI];rfl
theorem acA (c:Cal)(A1 A2 B1 B2:aj Addr)(a1 a2 b1 b2 n m:Nat)(w:ae)(hn:c.JQ.length=n)(hm:c.rules.length=m)(hn1:n<=10000)(hmm:m<=10000)(hm1:JS w w.heap.size A1 (c.JQ.map I))(hm2:JS w w.heap.size A2 (c.JQ.map I))(hr1:JS w w.heap.size B1 (c.rules.flatMap Lr.cells))(hr2:JS w w.heap.size B2 (c.rules.flatMap Lr.cells)):
  Calls Tryz.prog 57 #[.agg (J7 c A1 a1 B1 b1),.agg (J7 c A2 a2 B2 b2)] w (Gives (.bool true) w):=by
 rw[aiv] at hm1 hm2;have HC:Hid (JS w w.heap.size A1 (c.JQ.flatMap fun z=> [I z])/\JS w w.heap.size A2 (c.JQ.flatMap fun z=> [I z])/\JS w w.heap.size B1 (c.rules.flatMap Lr.cells)/\JS w w.heap.size B2 (c.rules.flatMap Lr.cells)):=JJ ⟨hm1,hm2,hr1,hr2⟩;have HV:=JJ (SS.start w 65 (J7 c A1 a1 B1 b1) (J7 c A2 a2 B2 b2));clear hm1 hm2 hr1 hr2;have g0:=HV.out.a.2;have g1:=HV.out.b.2;have p0:((w.alloc (.cells (J7 c A1 a1 B1 b1) 65)).alloc (.cells (J7 c A2 a2 B2 b2) 65)).cell? ⟨w.heap.size,0,none⟩=some (I c.KI):=g0 0;have p1:((w.alloc (.cells (J7 c A1 a1 B1 b1) 65)).alloc (.cells (J7 c A2 a2 B2 b2) 65)).cell? ⟨w.heap.size,1,none⟩=some (.slice A1 n a1):=by rw[g0 1,<-hn];rfl
 have p2:((w.alloc (.cells (J7 c A1 a1 B1 b1) 65)).alloc (.cells (J7 c A2 a2 B2 b2) 65)).cell? ⟨w.heap.size,2,none⟩=some (I c.Lm):=g0 2;have p3:((w.alloc (.cells (J7 c A1 a1 B1 b1) 65)).alloc (.cells (J7 c A2 a2 B2 b2) 65)).cell? ⟨w.heap.size,3,none⟩=some (.slice B1 m b1):=by rw[g0 3,<-hm];rfl
 have q0:((w.alloc (.cells (J7 c A1 a1 B1 b1) 65)).alloc (.cells (J7 c A2 a2 B2 b2) 65)).cell? ⟨w.heap.size+1,0,none⟩=some (I c.KI):=g1 0;have q1:((w.alloc (.cells (J7 c A1 a1 B1 b1) 65)).alloc (.cells (J7 c A2 a2 B2 b2) 65)).cell? ⟨w.heap.size+1,1,none⟩=some (.slice A2 n a2):=by rw[g1 1,<-hn];rfl
 have q2:((w.alloc (.cells (J7 c A1 a1 B1 b1) 65)).alloc (.cells (J7 c A2 a2 B2 b2) 65)).cell? ⟨w.heap.size+1,2,none⟩=some (I c.Lm):=g1 2;have q3:((w.alloc (.cells (J7 c A1 a1 B1 b1) 65)).alloc (.cells (J7 c A2 a2 B2 b2) 65)).cell? ⟨w.heap.size+1,3,none⟩=some (.slice B2 m b2):=by rw[g1 3,<-hm];rfl
 clear g0 g1;go_enter Tryz.func57,Tryz.ntmps57;go_wp2_with fail;clear p0 p1 p2 p3 q0 q1 q2 q3
 go_loopw [5] (fun i wr=>Zo w 65 (J7 c A1 a1 B1 b1) (J7 c A2 a2 B2 b2) n i wr) (fun i _=>n - (intOf i).toNat)
 case atStart=>exact⟨0,aG _,rfl,HV.out⟩
 case round=>
  obtain⟨k,hk,rfl,hv⟩:=hrel;have HW:=JJ hv;clear hv;by_cases hlt:k<n
  ·obtain⟨x,ba,oa,bc,oc,hx,e1,e2,hr1,hr2⟩:=acO (s:=1) (f:=fun z=> [I z]) (xs:=c.JQ) (fun _ _=>rfl) HC.out.1 HC.out.2.1 HW.out.up k (by omega) (by omega);have v1:wr.cell? ⟨w.heap.size,1,none⟩=some (.slice (some ⟨ba,oa,none⟩) n a1):=by rw[HW.out.a.2 1,<-e1];exact(by rw[<-hn];rfl)
   have v2:wr.cell? ⟨w.heap.size+1,1,none⟩=some (.slice (some ⟨bc,oc,none⟩) n a2):=by rw[HW.out.b.2 1,<-e2];exact(by rw[<-hn];rfl)
   have c0:wr.cell? ⟨ba,oa+k,none⟩=some (I x):=by have h:=hr1 0 _ rfl;rwa [fA] at h
   have d0:wr.cell? ⟨bc,oc+k,none⟩=some (I x):=by have h:=hr2 0 _ rfl;rwa [fA] at h
   have i0:(0:Int)<=(k:Int):=by omega
   have i1:(k:Int)<(n:Int):=by omega
   clear hx e1 e2 hr1 hr2;go_wp2_with fail;go_quiet (fail);go_wp2_with fail;go_roundw
   case rel=>exact⟨k+1,by omega,by go_num,HW.out.drew _⟩
   case measure=>simp[intOf];omega
  ·have hke:k=n:=by omega
   have hnl:¬(k:Int)<(n:Int):=by omega
   have v1:=HW.out.a.2 1;have u1:wr.cell? ⟨w.heap.size,1,none⟩=some (.slice A1 n a1):=by rw[v1,<-hn];rfl
   clear v1 hke hlt;have v3:=HW.out.a.2 3;have u3:wr.cell? ⟨w.heap.size,3,none⟩=some (.slice B1 m b1):=by rw[v3,<-hm];rfl
   clear v3;go_wp2_with fail;clear u3 hnl u1
   go_loopw [6] (fun i wr=>Zo w 65 (J7 c A1 a1 B1 b1) (J7 c A2 a2 B2 b2) m i wr) (fun i _=>m - (intOf i).toNat)
   case atStart=>exact⟨0,aG _,rfl,HW.out⟩
   case round=>
    obtain⟨k,hk,rfl,hv⟩:=hrel;have HW:=JJ hv;clear hv;by_cases hlt:k<m
    ·obtain⟨x,ba,oa,bc,oc,hx,e1,e2,hr1,hr2⟩:=acO (s:=3) (f:=Lr.cells) (xs:=c.rules) (fun _ _=>rfl) HC.out.2.2.1 HC.out.2.2.2 HW.out.up k (by omega) (by omega);have v1:wr.cell? ⟨w.heap.size,3,none⟩=some (.slice (some ⟨ba,oa,none⟩) m b1):=by rw[HW.out.a.2 3,<-e1];exact(by rw[<-hm];rfl)
     have v2:wr.cell? ⟨w.heap.size+1,3,none⟩=some (.slice (some ⟨bc,oc,none⟩) m b2):=by rw[HW.out.b.2 3,<-e2];exact(by rw[<-hm];rfl)
     have c0:wr.cell? ⟨ba,oa+k*3,none⟩=some (I x.every):=hr1 0 _ rfl;have d0:wr.cell? ⟨bc,oc+k*3,none⟩=some (I x.every):=hr2 0 _ rfl;have c1:wr.cell? ⟨ba,oa+k*3+1,none⟩=some (I x.rest):=hr1 1 _ rfl;have d1:wr.cell? ⟨bc,oc+k*3+1,none⟩=some (I x.rest):=hr2 1 _ rfl;have c2:wr.cell? ⟨ba,oa+k*3+2,none⟩=some (.bool x.yes):=hr1 2 _ rfl;have d2:wr.cell? ⟨bc,oc+k*3+2,none⟩=some (.bool x.yes):=hr2 2 _ rfl;have i0:(0:Int)<=(k:Int):=by omega
     have i1:(k:Int)<(m:Int):=by omega
     have hq:=fun W=>asy x.every x.rest x.yes W;clear hx e1 e2 hr1 hr2;go_wp2_with fail;go_quiet (fail);go_wp2_with fail;go_roundw
     case rel=>exact⟨k+1,by omega,by go_num,HW.out.drew _⟩
     case measure=>simp[intOf];omega
    ·have hke:k=m:=by omega
     have hnl:¬(k:Int)<(m:Int):=by omega
     have v1:=HW.out.a.2 3;have u1:wr.cell? ⟨w.heap.size,3,none⟩=some (.slice B1 m b1):=by rw[v1,<-hm];rfl
     clear v1 hke hlt;go_wp2_with fail;go_ret;exact⟨rfl,HW.out.up⟩
theorem aa3 (z:Zn)(s1 s2:Zs)(n m:Nat)(w:ae)(hl:Qs z)(hn:z.trans.length=n)(hm:z.J6.length=m)(h1:N7 w w.heap.size s1 z)(h2:N7 w w.heap.size s2 z):
  Calls Tryz.prog 34 #[.agg (JV z s1),.agg (JV z s2)] w (Gives (.bool true) w):=by
 have hn1:n<=10000:=by have:=hl.trans;omega
 have hmm:m<=10000:=by have:=hl.J6;omega
 have HC:Hid (N7 w w.heap.size s1 z/\N7 w w.heap.size s2 z):=JJ ⟨h1,h2⟩;have HV:=JJ (SS.start w 69 (JV z s1) (JV z s2));have XB:Hid (Calls Tryz.prog 57 #[.agg #[I z.cal.KI,.slice s1.A z.cal.JQ.length s1.a,I z.cal.Lm,.slice s1.B z.cal.rules.length s1.b],.agg #[I z.cal.KI,.slice s2.A z.cal.JQ.length s2.a,I z.cal.Lm,.slice s2.B z.cal.rules.length s2.b]] ((w.alloc (.cells (JV z s1) 69)).alloc (.cells (JV z s2) 69)) (Gives (.bool true) ((w.alloc (.cells (JV z s1) 69)).alloc (.cells (JV z s2) 69)))):=
  JJ (acA z.cal s1.A s2.A s1.B s2.B s1.a s2.a s1.b s2.b _ _ ((w.alloc (.cells (JV z s1) 69)).alloc (.cells (JV z s2) 69)) rfl rfl hl.JQ hl.rules (h1.JQ.keep HV.out.up |>.more HV.out.up.size) (h2.JQ.keep HV.out.up |>.more HV.out.up.size) (h1.rules.keep HV.out.up |>.more HV.out.up.size) (h2.rules.keep HV.out.up |>.more HV.out.up.size))
 clear h1 h2 hl;have g0:=HV.out.a.2;have g1:=HV.out.b.2;have p0:((w.alloc (.cells (JV z s1) 69)).alloc (.cells (JV z s2) 69)).cell? ⟨w.heap.size,0,none⟩=some (I z.cal.KI):=g0 0;have p1:((w.alloc (.cells (JV z s1) 69)).alloc (.cells (JV z s2) 69)).cell? ⟨w.heap.size,1,none⟩=some (.slice s1.A z.cal.JQ.length s1.a):=g0 1;have p2:((w.alloc (.cells (JV z s1) 69)).alloc (.cells (JV z s2) 69)).cell? ⟨w.heap.size,2,none⟩=some (I z.cal.Lm):=g0 2;have p3:((w.alloc (.cells (JV z s1) 69)).alloc (.cells (JV z s2) 69)).cell? ⟨w.heap.size,3,none⟩=some (.slice s1.B z.cal.rules.length s1.b):=g0 3;have p4:((w.alloc (.cells (JV z s1) 69)).alloc (.cells (JV z s2) 69)).cell? ⟨w.heap.size,4,none⟩=some (I z.start):=g0 4;have p5:((w.alloc (.cells (JV z s1) 69)).alloc (.cells (JV z s2) 69)).cell? ⟨w.heap.size,5,none⟩=some (.slice s1.C n s1.c):=by rw[g0 5,<-hn];rfl
 have p6:((w.alloc (.cells (JV z s1) 69)).alloc (.cells (JV z s2) 69)).cell? ⟨w.heap.size,6,none⟩=some (I z.hor):=g0 6;have p7:((w.alloc (.cells (JV z s1) 69)).alloc (.cells (JV z s2) 69)).cell? ⟨w.heap.size,7,none⟩=some (.slice s1.D m s1.d):=by rw[g0 7,<-hm];rfl
 have q0:((w.alloc (.cells (JV z s1) 69)).alloc (.cells (JV z s2) 69)).cell? ⟨w.heap.size+1,0,none⟩=some (I z.cal.KI):=g1 0;have q1:((w.alloc (.cells (JV z s1) 69)).alloc (.cells (JV z s2) 69)).cell? ⟨w.heap.size+1,1,none⟩=some (.slice s2.A z.cal.JQ.length s2.a):=g1 1;have q2:((w.alloc (.cells (JV z s1) 69)).alloc (.cells (JV z s2) 69)).cell? ⟨w.heap.size+1,2,none⟩=some (I z.cal.Lm):=g1 2;have q3:((w.alloc (.cells (JV z s1) 69)).alloc (.cells (JV z s2) 69)).cell? ⟨w.heap.size+1,3,none⟩=some (.slice s2.B z.cal.rules.length s2.b):=g1 3;have q4:((w.alloc (.cells (JV z s1) 69)).alloc (.cells (JV z s2) 69)).cell? ⟨w.heap.size+1,4,none⟩=some (I z.start):=g1 4;have q5:((w.alloc (.cells (JV z s1) 69)).alloc (.cells (JV z s2) 69)).cell? ⟨w.heap.size+1,5,none⟩=some (.slice s2.C n s2.c):=by rw[g1 5,<-hn];rfl
 have q6:((w.alloc (.cells (JV z s1) 69)).alloc (.cells (JV z s2) 69)).cell? ⟨w.heap.size+1,6,none⟩=some (I z.hor):=g1 6;have q7:((w.alloc (.cells (JV z s1) 69)).alloc (.cells (JV z s2) 69)).cell? ⟨w.heap.size+1,7,none⟩=some (.slice s2.D m s2.d):=by rw[g1 7,<-hm];rfl
 clear g0 g1;go_enter Tryz.func34,Tryz.ntmps34;go_wp2_with fail;clear p0 p1 p2 p3 p4 p5 p6 p7 q0 q1 q2 q3 q4 q5 q6 q7;refine XB.out.mono ?_;rintro e w2 ⟨rfl,hb2⟩;have Qd:=JJ (HV.out.below hb2);have t1:w2.cell? ⟨w.heap.size,5,none⟩=some (.slice s1.C n s1.c):=by rw[Qd.out.a.2 5,<-hn];rfl
 clear hb2 XB HV;go_wp2_with fail;clear t1
 go_loopw [5] (fun i wr=>Zo w 69 (JV z s1) (JV z s2) n i wr) (fun i _=>n - (intOf i).toNat)
 case atStart=>exact⟨0,aG _,rfl,Qd.out⟩
 case round=>
  obtain⟨k,hk,rfl,hv⟩:=hrel;have HW:=JJ hv;clear hv;by_cases hlt:k<n
  ·obtain⟨x,ba,oa,bc,oc,hx,e1,e2,hr1,hr2⟩:=acO (s:=2) (f:=Tr.cells) (xs:=z.trans) (fun _ _=>rfl) HC.out.1.trans HC.out.2.trans HW.out.up k (by omega) (by omega);have v1:wr.cell? ⟨w.heap.size,5,none⟩=some (.slice (some ⟨ba,oa,none⟩) n s1.c):=by rw[HW.out.a.2 5,<-e1];exact(by rw[<-hn];rfl)
   have v2:wr.cell? ⟨w.heap.size+1,5,none⟩=some (.slice (some ⟨bc,oc,none⟩) n s2.c):=by rw[HW.out.b.2 5,<-e2];exact(by rw[<-hn];rfl)
   have c0:wr.cell? ⟨ba,oa+k*2,none⟩=some (I x.at_):=hr1 0 _ rfl;have d0:wr.cell? ⟨bc,oc+k*2,none⟩=some (I x.at_):=hr2 0 _ rfl;have c1:wr.cell? ⟨ba,oa+k*2+1,none⟩=some (I x.off):=hr1 1 _ rfl;have d1:wr.cell? ⟨bc,oc+k*2+1,none⟩=some (I x.off):=hr2 1 _ rfl;have i0:(0:Int)<=(k:Int):=by omega
   have i1:(k:Int)<(n:Int):=by omega
   have hq:=fun W=>asz x.at_ x.off W;clear hx e1 e2 hr1 hr2;go_wp2_with fail;go_quiet (fail);go_wp2_with fail;go_roundw
   case rel=>exact⟨k+1,by omega,by go_num,HW.out.drew _⟩
   case measure=>simp[intOf];omega
  ·have hke:k=n:=by omega
   have hnl:¬(k:Int)<(n:Int):=by omega
   have v1:=HW.out.a.2 5;have u1:wr.cell? ⟨w.heap.size,5,none⟩=some (.slice s1.C n s1.c):=by rw[v1,<-hn];rfl
   clear v1 hke hlt;have v3:=HW.out.a.2 7;have u3:wr.cell? ⟨w.heap.size,7,none⟩=some (.slice s1.D m s1.d):=by rw[v3,<-hm];rfl
   clear v3;go_wp2_with fail;clear u3 hnl u1
   go_loopw [6] (fun i wr=>Zo w 69 (JV z s1) (JV z s2) m i wr) (fun i _=>m - (intOf i).toNat)
   case atStart=>exact⟨0,aG _,rfl,HW.out⟩
   case round=>
    obtain⟨k,hk,rfl,hv⟩:=hrel;have HW:=JJ hv;clear hv;by_cases hlt:k<m
    ·obtain⟨x,ba,oa,bc,oc,hx,e1,e2,hr1,hr2⟩:=acO (s:=5) (f:=Yr.cells) (xs:=z.J6) (fun _ _=>rfl) HC.out.1.J6 HC.out.2.J6 HW.out.up k (by omega) (by omega);have v1:wr.cell? ⟨w.heap.size,7,none⟩=some (.slice (some ⟨ba,oa,none⟩) m s1.d):=by rw[HW.out.a.2 7,<-e1];exact(by rw[<-hm];rfl)
     have v2:wr.cell? ⟨w.heap.size+1,7,none⟩=some (.slice (some ⟨bc,oc,none⟩) m s2.d):=by rw[HW.out.b.2 7,<-e2];exact(by rw[<-hm];rfl)
     have c0:wr.cell? ⟨ba,oa+k*5,none⟩=some (I x.month):=hr1 0 _ rfl;have d0:wr.cell? ⟨bc,oc+k*5,none⟩=some (I x.month):=hr2 0 _ rfl;have c1:wr.cell? ⟨ba,oa+k*5+1,none⟩=some (I x.La):=hr1 1 _ rfl;have d1:wr.cell? ⟨bc,oc+k*5+1,none⟩=some (I x.La):=hr2 1 _ rfl;have c2:wr.cell? ⟨ba,oa+k*5+2,none⟩=some (I x.Lh):=hr1 2 _ rfl;have d2:wr.cell? ⟨bc,oc+k*5+2,none⟩=some (I x.Lh):=hr2 2 _ rfl;have c3:wr.cell? ⟨ba,oa+k*5+3,none⟩=some (I x.minute):=hr1 3 _ rfl;have d3:wr.cell? ⟨bc,oc+k*5+3,none⟩=some (I x.minute):=hr2 3 _ rfl;have c4:wr.cell? ⟨ba,oa+k*5+4,none⟩=some (I x.off):=hr1 4 _ rfl;have d4:wr.cell? ⟨bc,oc+k*5+4,none⟩=some (I x.off):=hr2 4 _ rfl;have i0:(0:Int)<=(k:Int):=by omega
     have i1:(k:Int)<(m:Int):=by omega
     have hq:=fun W=>asA x.month x.La x.Lh x.minute x.off W;clear hx e1 e2 hr1 hr2;go_wp2_with fail;go_quiet (fail);go_wp2_with fail;go_roundw
     case rel=>exact⟨k+1,by omega,by go_num,HW.out.drew _⟩
     case measure=>simp[intOf];omega
    ·have hke:k=m:=by omega
     have hnl:¬(k:Int)<(m:Int):=by omega
     have v1:=HW.out.a.2 7;have u1:wr.cell? ⟨w.heap.size,7,none⟩=some (.slice s1.D m s1.d):=by rw[v1,<-hm];rfl
     clear v1 hke hlt;go_wp2_with fail;go_ret;exact⟨rfl,HW.out.up⟩
def adQ (d:Int):Int:=if d%7=0 then d else 7*d
def aeL (z:Zn):Int:=match z.J6 with| []=>1|_::_=>adQ (az0 z.cal)
theorem OY.alloc {w W:ae}{cs:ax ah}(h:OY w cs W)(o:Obj):OY w cs (W.alloc o):=h.grow (JM W o)
def Nv (wd wk:Int):Nat->Int->Int->Int->Int×Bool
 |0,_,_,last=>(last,wk==5&&decide (0<=last))
 |n+1,d,cn,last=>if d%7=wd then (if cn+1=wk/\wk<5 then (d,true) else Nv wd wk n (d+1) (cn+1) d) else Nv wd wk n (d+1) cn last
def arH (c:Cal)(bg y mo:Int):Int:=if mo=2 then bg+ale c y 1 else bg
def findF (c:Cal)(bg y:Int)(r:Yr):Int×Bool:=Nv r.Lh r.La (ale c y r.month).toNat (arH c bg y r.month) 0 (-1)
theorem SS.agi (w:ae)(t t1 t2:TypeId)(us vs:ax ah):SS w t us vs ((w.alloc (.cells us t1)).alloc (.cells vs t2)):=
 ⟨Row.Nk (dJ w _ _),Row.Nk (bW w _ _),JL (JM w _) (JM _ _)⟩
def ayH (w:ae)(us vs:ax ah)(wd wk fs:Int)(n:Nat)(res:Int×Bool)(c l d:ah)(wr:ae):Prop:=
 ∃j:Nat,∃cn la:Int,j<=n/\c=.int .i64 cn/\l=.int .i64 la/\d=.int .i64 (fs+j)/\0<=cn/\cn<=j/\ -1<=la/\la<=fs+j/\Nv wd wk (n - j) (fs+j) cn la=res/\SS w 0 us vs wr
theorem aiP {wd wk:Int}{n j:Nat}{d cn la:Int}{res:Int×Bool}(h:Nv wd wk (n - j) d cn la=res)(hj:n<=j):res=(la,wk==5&&decide (0<=la)):=by
 rw[Nat.sub_eq_zero_of_le hj] at h;exact h.symm
theorem aiO {wd wk fs:Int}{n j:Nat}{cn la:Int}{res:Int×Bool}(h:Nv wd wk (n - j) (fs+j) cn la=res)(hj:j<n)(ht:((fs+j)%7==wd)=false):Nv wd wk (n - (j+1)) (fs+((j+1:Nat):Int)) cn la=res:=by
 rw[show n - j=(n - (j+1))+1 by omega,Nv,bP (by simpa using ht)] at h;rw[show fs+((j+1:Nat):Int)=fs+(j:Int)+1 by omega];exact h
theorem alE {wd wk fs:Int}{n j:Nat}{cn la:Int}{res:Int×Bool}(h:Nv wd wk (n - j) (fs+j) cn la=res)(hj:j<n)(ht:((fs+j)%7==wd)=true)(hu:cn+1=wk/\wk<5):res=(fs+j,true):=by
 rw[show n - j=(n - (j+1))+1 by omega,Nv,bD (by simpa using ht),bD hu] at h;exact h.symm
theorem abL {wd wk fs:Int}{n j:Nat}{cn la:Int}{res:Int×Bool}(h:Nv wd wk (n - j) (fs+j) cn la=res)(hj:j<n)(ht:((fs+j)%7==wd)=true)(hu:¬(cn+1=wk/\wk<5)):Nv wd wk (n - (j+1)) (fs+((j+1:Nat):Int)) (cn+1) (fs+j)=res:=by
 rw[show n - j=(n - (j+1))+1 by omega,Nv,bD (by simpa using ht),bP hu] at h;rw[show fs+((j+1:Nat):Int)=fs+(j:Int)+1 by omega];exact h
end Go.Proofs.YtbaehbbonkljpaaGreatDoor
