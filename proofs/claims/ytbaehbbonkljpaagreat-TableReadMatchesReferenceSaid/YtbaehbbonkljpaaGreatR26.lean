/- The texts Vk, Vn, Vo, Qi, Kr, Ks, in this order. -/
import Derived.Test.YtbaehbbonkljpaaGreatR00
import Derived.Test.YtbaehbbonkljpaaGreatR04
import Derived.Test.YtbaehbbonkljpaaGreatR06
import Derived.Test.YtbaehbbonkljpaaGreatR10
import Derived.Test.YtbaehbbonkljpaaGreatR13
import Derived.Test.YtbaehbbonkljpaaGreatR15
import Derived.Test.YtbaehbbonkljpaaGreatR25
set_option maxRecDepth 10000
set_option maxHeartbeats 8000000
namespace Go.Proofs.YtbaehbbonkljpaaGreat
open Go Go.RowKit
abbrev eQ:=Option (List UInt8)
def gB {α β:Type} (t:eQ→α×eQ) (u:α→eQ→β×eQ) (o:eQ):β×eQ:=u (t o).1 (t o).2
def qm {α β:Type} (t:eQ→α×eQ) (f:α→β) (o:eQ):β×eQ:=(f (t o).1,(t o).2)
def tN (s:Nat):eQ→Int×eQ
 |none=>(0,none)
 |some B=>if s≤B.length then (Cj B false s,some (B.drop s)) else (0,none)
def tO:eQ→Int×eQ:=qm (tN 2) (fun n=>if 32768≤n then n - 65536 else n)
def tF:eQ→Bool×eQ:=qm (tN 1) GK
def tD:eQ→List UInt8×eQ
 |none=>(bU,none)
 |some B=>if 32≤B.length then (B.take 32,some (B.drop 32)) else (bU,none)
def tK (n:Nat):eQ→ByteArray×eQ
 |none=>(⟨#[]⟩,none)
 |some B=>if n≤B.length then (⟨(B.take n).toArray⟩,some (B.drop n)) else (⟨#[]⟩,none)
def tT:eQ→ByteArray×eQ:=gB (tN 1) (fun n=>tK n.toNat)
def iD {α:Type} (t:eQ→α×eQ):Nat→eQ→List α×eQ
 |0,o=>([],o)
 |_+1,none=>([],none)
 |k+1,some B=>((t (some B)).1::(iD t k (t (some B)).2).1,(iD t k (t (some B)).2).2)
def wP {α:Type} (s:Nat) (t:eQ→α×eQ):eQ→List α×eQ:=gB (tN s) (fun n=>iD t n.toNat)
def tLr:eQ→Lr×eQ:=gB (tN 2) fun a=>gB (tN 2) fun b=>qm tF fun c=>⟨a,b,c⟩
def tTr:eQ→Tr×eQ:=gB (tN 8) fun a=>qm tO fun b=>⟨a,b⟩
def tYr:eQ→Yr×eQ:=gB (tN 1) fun a=>gB (tN 1) fun b=>gB (tN 1) fun c=>gB (tN 2) fun d=>qm tO fun f=>⟨a,b,c,d,f⟩
def Jc:eQ→Cal×eQ:=gB (tN 4) fun a=>gB (wP 1 (tN 1)) fun b=>gB (tN 1) fun c=>qm (wP 1 tLr) fun d=>⟨a,b,c - 1,d⟩
def ZC:eQ→Zn×eQ:=gB Jc fun c=>gB tO fun s=>gB (wP 2 tTr) fun t=>gB (tN 8) fun h=>qm (wP 1 tYr) fun y=>⟨c,s,t,h,y⟩
def tZe:eQ→Ze×eQ:=gB tT fun n=>qm ZC fun z=>⟨n,z⟩
def tTb:eQ→Tb×eQ:=gB (tN 1) fun i=>gB (tN 1) fun v=>gB (tN 1) fun x=>gB tD fun d=>qm (wP 1 tZe) fun z=>⟨i,v,x,d,bU,z⟩
structure TP {α:Type} (p:List UInt8→Option (α×List UInt8)) (t:eQ→α×eQ):Prop where
 yes:∀B v R,p B=some (v,R)→t (some B)=(v,some R)
 no:∀B,p B=none→(t (some B)).2=none
 dead:(t none).2=none
theorem TP.bind {α β:Type} {p:List UInt8→Option (α×List UInt8)} {t:eQ→α×eQ} {q:α→List UInt8→Option (β×List UInt8)} {u:α→eQ→β×eQ} (h:TP p t) (k:∀a,TP (q a) (u a)):TP (fun B=>(p B).bind fun x=>q x.1 x.2) (gB t u) where
 yes B v R hB:=by
  cases hp:p B with
  |none=>rw [hp] at hB;cases hB
  |some x=>
   obtain ⟨a,B'⟩:=x;rw [hp] at hB;unfold gB;rw [h.yes B a B' hp];exact (k a).yes B' v R hB
 no B hB:=by
  unfold gB;cases hp:p B with
  |none=>rw [h.no B hp];exact (k _).dead
  |some x=>
   obtain ⟨a,B'⟩:=x;rw [hp] at hB;rw [h.yes B a B' hp];exact (k a).no B' hB
 dead:=by
  unfold gB;rw [h.dead];exact (k _).dead
theorem TP.map {α β:Type} {p:List UInt8→Option (α×List UInt8)} {t:eQ→α×eQ} {f:α→β} (h:TP p t):TP (fun B=>(p B).map fun x=>(f x.1,x.2)) (qm t f) where
 yes B v R hB:=by
  cases hp:p B with
  |none=>rw [hp] at hB;cases hB
  |some x=>
   obtain ⟨a,B'⟩:=x;rw [hp] at hB;simp only [Option.map_some,Option.some.injEq,Prod.mk.injEq] at hB;unfold qm;rw [h.yes B a B' hp,←hB.1,←hB.2]
 no B hB:=by
  unfold qm;cases hp:p B with
  |none=>exact h.no B hp
  |some x=>rw [hp] at hB;cases hB
 dead:=h.dead
theorem qF (s:Nat):TP (pN s) (tN s) where
 yes B v R h:=by
  obtain ⟨h1,h2,h3⟩:=IK h;show (if s≤B.length then _ else _)=_;rw [if_pos h1,h2,h3]
 no B h:=by
  have h1:=pN_no h;show ((if s≤B.length then _ else _:Int×eQ)).2=none;rw [if_neg (by omega)]
 dead:=rfl
theorem XM (B:List UInt8) (v:Int) (R:List UInt8) (h:pN 2 B=some (v,R)):0≤v∧v<65536:=by
 obtain ⟨h1,h2,_⟩:=IK h;obtain ⟨x,y,l,rfl⟩:∃x y l,B=x::y::l:=by
  match B,h1 with
  |x::y::l,_=>exact ⟨x,y,l,rfl⟩
 have hx:=x.toNat_lt;have hy:=y.toNat_lt;have e:le ((x.toNat:Int)+256*(y.toNat:Int)) 2= [x,y]:=by
  simp only [le,List.cons.injEq,and_true];constructor
  ·apply UInt8.toNat_inj.1;have h:=iq ((x.toNat:Int)+256*(y.toNat:Int));omega
  ·apply UInt8.toNat_inj.1;have h:=iq (((x.toNat:Int)+256*(y.toNat:Int)) / 256);omega
 have e2:x::y::l=le ((x.toNat:Int)+256*(y.toNat:Int)) 2++l:=by rw [e];rfl
 rw [h2,e2,Ue];omega
theorem TP_O:TP pO tO where
 yes B v R h:=by
  unfold pO at h;cases hp:pN 2 B with
  |none=>rw [hp] at h;cases h
  |some x=>
   obtain ⟨a,B'⟩:=x;rw [hp] at h;simp only [Option.map_some,Option.some.injEq,Prod.mk.injEq] at h;have hb:=XM B a B' hp;unfold tO qm;rw [(qF 2).yes B a B' hp,←h.1,←h.2,uq];simp only [Prod.mk.injEq,and_true];split<;>omega
 no B h:=by
  unfold pO at h;cases hp:pN 2 B with
  |none=>exact (qF 2).no B hp
  |some x=>rw [hp] at h;cases h
 dead:=rfl
theorem TP_F:TP (pFW GK) tF:=(qF 1).map
theorem TP_D:TP pD tD where
 yes B v R h:=by
  unfold pD at h;split at h
  ·rename_i hl;simp only [Option.some.injEq,Prod.mk.injEq] at h;show (if 32≤B.length then _ else _)=_;rw [if_pos hl,h.1,h.2]
  ·cases h
 no B h:=by
  unfold pD at h;split at h
  ·cases h
  ·rename_i hl;show ((if 32≤B.length then _ else _:List UInt8×eQ)).2=none;rw [if_neg hl]
 dead:=rfl
theorem TP_K (n:Nat):TP (pK n) (tK n) where
 yes B v R h:=by
  unfold pK at h;split at h
  ·rename_i hl;simp only [Option.some.injEq,Prod.mk.injEq] at h;show (if n≤B.length then _ else _)=_;rw [if_pos hl,h.1,h.2]
  ·cases h
 no B h:=by
  unfold pK at h;split at h
  ·cases h
  ·rename_i hl;show ((if n≤B.length then _ else _:ByteArray×eQ)).2=none;rw [if_neg hl]
 dead:=rfl
theorem TP_T:TP pT tT:=(qF 1).bind fun n=>TP_K n.toNat
theorem qK {α:Type} (p:List UInt8→Option (α×List UInt8)):∀(k:Nat) (B:List UInt8),dR p (k+1) B=(p B).bind fun y=>(dR p k y.2).map fun x=>(y.1::x.1,x.2)
 |0,B=>by
  show (some (([]:List α),B)).bind _=_;simp only [Option.bind_some];cases p B with
  |none=>rfl
  |some y=>rfl
 |k+1,B=>by
  show (dR p (k+1) B).bind _=_;rw [qK p k B];cases p B with
  |none=>rfl
  |some y=>
   simp only [Option.bind_some];show _=((dR p k y.2).bind _).map _;cases dR p k y.2 with
   |none=>rfl
   |some x=>
    simp only [Option.map_some,Option.bind_some];cases p x.2 with
    |none=>rfl
    |some z=>rfl
theorem Ho {α:Type} {p:List UInt8→Option (α×List UInt8)} {t:eQ→α×eQ} (h:TP p t):∀k:Nat,TP (dR p k) (iD t k)
 |0=>⟨fun B v R h=>by
   simp only [dR,Option.some.injEq,Prod.mk.injEq] at h;rw [←h.1,←h.2];rfl,fun B h=>(by cases h),rfl⟩
 |k+1=>by
  have ih:=Ho h k;refine ⟨fun B v R hB=>?_,fun B hB=>?_,rfl⟩
  ·rw [qK] at hB;cases hp:p B with
   |none=>rw [hp] at hB;cases hB
   |some y=>
    obtain ⟨a,B'⟩:=y;rw [hp] at hB;simp only [Option.bind_some,Option.map_eq_some_iff,Prod.mk.injEq] at hB;obtain ⟨⟨xs,R'⟩,h1,h2,h3⟩:=hB;show ((t (some B)).1::(iD t k (t (some B)).2).1,(iD t k (t (some B)).2).2)=_;rw [h.yes B a B' hp];simp only;rw [ih.yes B' xs R' h1,←h2,←h3]
  ·rw [qK] at hB;show (iD t k (t (some B)).2).2=none;cases hp:p B with
   |none=>rw [h.no B hp];exact ih.dead
   |some y=>
    obtain ⟨a,B'⟩:=y;rw [hp] at hB;rw [h.yes B a B' hp];simp only [Option.bind_some,Option.map_eq_none_iff] at hB;exact ih.no B' hB
theorem vX {α:Type} {p:List UInt8→Option (α×List UInt8)} {t:eQ→α×eQ} (s:Nat) (h:TP p t):TP (fO s p) (wP s t):=(qF s).bind fun n=>Ho h n.toNat
theorem TP_Lr:TP (XD GK) tLr:=(qF 2).bind fun _=>(qF 2).bind fun _=>TP_F.map
theorem TP_Tr:TP LQ tTr:=(qF 8).bind fun _=>TP_O.map
theorem TP_Yr:TP GM tYr:=(qF 1).bind fun _=>(qF 1).bind fun _=>(qF 1).bind fun _=>(qF 2).bind fun _=>TP_O.map
theorem TP_Cal:TP (Ei GK) Jc:=(qF 4).bind fun a=>(vX 1 (qF 1)).bind fun b=>(qF 1).bind fun c=>(vX 1 TP_Lr).map (f:=fun d=>(⟨a,b,c - 1,d⟩:Cal))
def TZ (f:Int→Bool) (B:List UInt8):Option (Zn×List UInt8):=(Ei f B).bind fun c=>(pO c.2).bind fun s=>(fO 2 LQ s.2).bind fun t=>(pN 8 t.2).bind fun h=>(fO 1 GM h.2).map fun y=>(⟨c.1,s.1,t.1,h.1,y.1⟩,y.2)
theorem TP_Zn:TP (TZ GK) ZC:=TP_Cal.bind fun _=>TP_O.bind fun _=>(vX 2 TP_Tr).bind fun _=>(qF 8).bind fun _=>(vX 1 TP_Yr).map
theorem TP_Ze0:TP (fun B=>(pT B).bind fun n=>(TZ GK n.2).map fun z=>((⟨n.1,z.1⟩:Ze),z.2)) tZe:=TP_T.bind fun _=>TP_Zn.map
theorem Yi (B:List UInt8):((pT B).bind fun n=>(TZ GK n.2).map fun z=>((⟨n.1,z.1⟩:Ze),z.2))=LU GK B:=by
 unfold LU TZ;cases pT B with
 |none=>rfl
 |some n=>
  simp only [Option.bind_some];cases Ei GK n.2 with
  |none=>rfl
  |some c=>
   simp only [Option.bind_some];cases pO c.2 with
   |none=>rfl
   |some s=>
    simp only [Option.bind_some];cases fO 2 LQ s.2 with
    |none=>rfl
    |some t=>
     simp only [Option.bind_some];cases pN 8 t.2 with
     |none=>rfl
     |some h=>
      simp only [Option.bind_some];cases fO 1 GM h.2 with
      |none=>rfl
      |some y=>rfl
theorem TP_Ze:TP (LU GK) tZe:=by
 have h:=TP_Ze0
 rwa [show (fun B=>(pT B).bind fun n=>(TZ GK n.2).map fun z=>((⟨n.1,z.1⟩:Ze),z.2))=LU GK from funext Yi] at h
theorem Zb:TP (LM GK) tTb:=(qF 1).bind fun i=>(qF 1).bind fun v=>(qF 1).bind fun x=>TP_D.bind fun d=>(vX 1 TP_Ze).map (f:=fun z=>(⟨i,v,x,d,bU,z⟩:Tb))
def yS (B:List UInt8):Option Tb:=
 match tTb (some B) with
 |(t,some [])=>if pM t=0∧xe t=B then some t else none
 |_=>none
theorem pX (B:List UInt8):yS B=mV B:=by
 rw [←Rt];unfold yS Hy;cases h:LM GK B with
 |none=>
  have h2:=Zb.no B h;generalize tTb (some B)=q at h2;obtain ⟨t,o⟩:=q;simp only at h2;subst h2;rfl
 |some x=>
  obtain ⟨t,R⟩:=x;rw [Zb.yes B t R h];cases R<;>rfl
def wZ:List UInt8→Nat
 | []=>0
 |b::l=>b.toNat+256*wZ l
theorem AY:∀l:List UInt8,wZ l<256 ^ l.length
 | []=>by simp [wZ]
 |b::l=>by
  have h:=AY l;have hb:=b.toNat_lt;simp only [wZ,List.length_cons,Nat.pow_succ];omega
theorem IA:∀(l:List UInt8) (b:UInt8),wZ (l++ [b])=wZ l+256 ^ l.length*b.toNat
 | [],b=>by simp [wZ]
 |a::l,b=>by
  simp only [List.cons_append,wZ,IA l b,List.length_cons,Nat.pow_succ,Nat.mul_add];rw [Nat.mul_comm (256 ^ l.length) 256,Nat.mul_assoc];omega
theorem Tq:∀l:List UInt8,le (wZ l:Int) l.length=l
 | []=>rfl
 |b::l=>by
  have hb:=b.toNat_lt;have e1:byteOf ((wZ (b::l):Nat):Int)=b:=by
   apply UInt8.toNat_inj.1;have h:=iq ((wZ (b::l):Nat):Int);have e:wZ (b::l)=b.toNat+256*wZ l:=rfl;omega
  have e2:((wZ (b::l):Nat):Int) / 256=((wZ l:Nat):Int):=by
   have e:wZ (b::l)=b.toNat+256*wZ l:=rfl;omega
  show byteOf ((wZ (b::l):Nat):Int)::le (((wZ (b::l):Nat):Int) / 256) l.length=b::l;rw [e1,e2,Tq l]
theorem KC {a b:Int} (h:a%256=b%256):byteOf a=byteOf b:=by
 unfold byteOf;rw [h]
theorem IB (n:Int):le (wrap64 n) 8=le n 8:=by
 obtain ⟨k,hk⟩:∃k:Int,wrap64 n=n+18446744073709551616*k:=⟨-((n+9223372036854775808) / 18446744073709551616),by unfold wrap64;omega⟩;rw [hk];simp only [le,List.cons.injEq,and_true];refine ⟨?_,?_,?_,?_,?_,?_,?_,?_⟩<;>(apply KC;omega)
theorem XN (B:List UInt8) (s:Nat) (hs:s=1∨s=2∨s=4∨s=8) (hl:s≤B.length):Cj B false s=wrap64 (wZ (B.take s)):=by
 have hT:(B.take s).length=s:=by rw [List.length_take];omega
 have h1:=Tq (B.take s);have h2:=AY (B.take s);rw [hT] at h1 h2;have e:B=B.take s++B.drop s:=(List.take_append_drop s B).symm;generalize B.take s=T at h1 h2 e;generalize B.drop s=D at e;subst e;rw [←h1];rcases hs with rfl|rfl|rfl|rfl
 ·rw [nC _ (by omega) (by omega),h1];unfold wrap64;omega
 ·rw [xI _ (by omega) (by omega),h1];unfold wrap64;omega
 ·rw [Zy _ (by omega) (by omega),h1];unfold wrap64;omega
 ·rw [←IB,Uf _ ⟨by unfold wrap64;omega,by unfold wrap64;omega⟩,IB,h1]
def tX (n:Nat):eQ→List UInt8×eQ
 |none=>([],none)
 |some B=>if n≤B.length then (B.take n,some (B.drop n)) else ([],none)
structure RR (M:Nat) (w:World) (rb:Nat) (o:eQ):Prop where
 lo:M≤rb
 at_:∃A n c,w.heap[rb]? =some (.cells #[.slice A n c, .bool o.isNone] 91 (0,0))∧n≤c∧c≤9223372036854775807∧∀B,o=some B→B.length=n∧BytesAt w M A B
theorem RR.lt {M:Nat} {w:World} {rb:Nat} {o:eQ} (h:RR M w rb o):rb<w.heap.size:=by
 obtain ⟨A,n,c,h1,_⟩:=h.at_;exact (bK.1 h1).1
theorem BytesAt.blocks {M:Nat} {w w':World} {A:Option Addr} {B:List UInt8} (h:BytesAt w M A B) (h2:∀k,k<M→w'.heap[k]? =w.heap[k]?):BytesAt w' M A B:=by
 rcases h with h|⟨b,off,hA,hb,hc⟩
 ·exact .inl h
 ·exact .inr ⟨b,off,hA,hb,fun j hj=>(World.cell?_of_block (a:=⟨b,off+j,none⟩) (h2 b hb)).trans (hc j hj)⟩
theorem RR.of {M:Nat} {w w':World} {rb:Nat} {o:eQ} (h:RR M w rb o) (h1:w'.heap[rb]? =w.heap[rb]?) (h2:∀k,k<M→w'.heap[k]? =w.heap[k]?):RR M w' rb o:=by
 obtain ⟨A,n,c,g1,g2,g3,g4⟩:=h.at_;exact ⟨h.lo,A,n,c,h1.trans g1,g2,g3,fun B hB=>⟨(g4 B hB).1,(g4 B hB).2.blocks h2⟩⟩
theorem RR.below {M B:Nat} {w w':World} {rb:Nat} {o:eQ} (h:RR M w rb o) (hb:Below B w w') (hM:rb<B):RR M w' rb o:=
 h.of (hb.block rb hM) fun k hk=>hb.block k (by have:=h.lo;omega)
theorem RR.drew {M:Nat} {w:World} {rb:Nat} {o:eQ} (h:RR M w rb o):RR M w.drew rb o:=h.of rfl fun _ _=>rfl
theorem Ul {M rb m n c':Nat} {w:World} {A':Option Addr} {v:Value} {B:List UInt8} (hM:M≤rb) (h1:w.heap[rb]? =some (.cells #[v, .bool false] 91 (0,0))) (hl:B.length=m) (hc:m - n≤c') (hc2:c'≤9223372036854775807) (hB:BytesAt w M A' (B.drop n)):
  RR M (w.setCell ⟨rb,0,none⟩ (.slice A' (m - n) c')) rb (some (B.drop n))∧dA rb w (w.setCell ⟨rb,0,none⟩ (.slice A' (m - n) c')):=by
 refine ⟨⟨hM,A',m - n,c',(heap_setCell_same w rb 0 _ _ _ h1).trans rfl,hc,hc2,fun D hD=>?_⟩,⟨rfl,rfl,rfl,by simp [World.setCell],fun k _ hk=>heap_setCell_other w ⟨rb,0,none⟩ k _ hk⟩⟩;injection hD with hD;subst hD;exact ⟨by rw [List.length_drop,hl],hB.blocks fun k hk=>heap_setCell_other w ⟨rb,0,none⟩ k _ (by show k≠rb;omega)⟩
theorem BytesAt.take {M:Nat} {w:World} {A:Option Addr} {B:List UInt8} (h:BytesAt w M A B) (n:Nat):BytesAt w M A (B.take n):=by
 rcases h with h|⟨b,off,hA,hb,hc⟩
 ·exact .inl (by rw [List.length_take];omega)
 ·exact .inr ⟨b,off,hA,hb,fun j hj=>by rw [List.length_take] at hj;rw [hc j (by omega),List.getElem?_take_of_lt (by omega)]⟩
theorem BytesAt.drop {M:Nat} {w:World} {A:Option Addr} {B:List UInt8} (h:BytesAt w M A B) (n:Nat):BytesAt w M (Option.map (fun x=>x.add n) A) (B.drop n):=by
 rcases h with h|⟨b,off,hA,hb,hc⟩
 ·exact .inl (by rw [List.length_drop];omega)
 ·refine .inr ⟨b,off+n,by rw [hA];simp [Addr.add],hb,fun j hj=>?_⟩;rw [List.length_drop] at hj;rw [Nat.add_assoc,hc (n+j) (by omega),List.getElem?_drop]
def VL (M:Nat) (w:World) (rb n:Nat) (o:eQ) (e:Ending) (w':World):Prop:=
 ∃A c,e= .returned (.slice A (tX n o).1.length c)∧BytesAt w' M A (tX n o).1∧RR M w' rb (tX n o).2∧dA rb w w'
theorem Um {M rb n c:Nat} {w:World} {A:Option Addr} {v:Bool} (hM:M≤rb) (h1:w.heap[rb]? =some (.cells #[.slice A n c, .bool v] 91 (0,0))) (hc:n≤c) (hc2:c≤9223372036854775807):
  RR M (w.setCell ⟨rb,1,none⟩ (.bool true)) rb none∧dA rb w (w.setCell ⟨rb,1,none⟩ (.bool true)):=
 ⟨⟨hM,A,n,c,(heap_setCell_same w rb 1 _ _ _ h1).trans rfl,hc,hc2,fun B h=>nomatch h⟩,⟨rfl,rfl,rfl,by simp [World.setCell],fun k _ hk=>heap_setCell_other w ⟨rb,1,none⟩ k _ hk⟩⟩
theorem Et (M:Nat) (w:World) (rb n:Nat) (o:eQ) (hr:RR M w rb o) (hn:n≤1000000):
  Calls Tryz.prog 38 #[pt rb,I n] w (VL M w rb n o):=by
 obtain ⟨hM,A,m,c,h1,h2,h3,h4⟩:=hr;have hc0:w.cell? ⟨rb,0,none⟩=some (.slice A m c):=cell_of_row w rb 0 _ _ _ h1;have hc1:w.cell? ⟨rb,1,none⟩=some (.bool o.isNone):=cell_of_row w rb 1 _ _ _ h1;have hf0:=frozen_of_row w rb 0 _ _ h1;have hf1:=frozen_of_row w rb 1 _ _ h1;have HSH:=ae (Um hM h1 h2 h3);cases o with
 |none=>
  have hc1:w.cell? ⟨rb,1,none⟩=some (.bool true):=hc1;clear h1 h4;go_enter Tryz.func38,Tryz.ntmps38
  go_wp2
  go_ret;exact ⟨none,0,rfl, .inl rfl,HSH.out.1,HSH.out.2⟩
 |some B=>
  have hc1:w.cell? ⟨rb,1,none⟩=some (.bool false):=hc1;obtain ⟨hl,hB⟩:=h4 B rfl;by_cases hn:n≤B.length
  ·have HT:Hid (tX n (some B)=(B.take n,some (B.drop n))):=ae (by show (if n≤B.length then _ else _)=_;rw [if_pos hn]);have n1:¬(m:Int)<(n:Int):=by omega
   have n2:(0:Int)≤(n:Int):=by omega
   have n3:(n:Int)≤(m:Int):=by omega
   have hnm:n≤m:=by omega
   have HM:=ae hM;have HL:=ae hl;have HB:=ae hB;have H1:=ae h1;clear h1 h4 hl hB hM hn;go_enter Tryz.func38,Tryz.ntmps38
   go_wp2
   ·have hcn:c=n:=by assumption
    go_ret;have hmn:m=n:=by omega
    have hd:B.drop n= []:=List.drop_eq_nil_of_le (by rw [HL.out];omega);have hS:=Ul (n:=n) (c':=0) (A':=A) HM.out H1.out HL.out (by omega) (by omega) (.inl (by rw [hd];rfl));refine ⟨A,c,?_,?_,?_,hS.2⟩
    ·rw [HT.out];simp [HL.out,hnm,hcn]
    ·rw [HT.out];exact (HB.out.take n).blocks fun k hk=>heap_setCell_other w ⟨rb,0,none⟩ k _ (by show k≠rb;have:=HM.out;omega)
    ·rw [HT.out];exact hS.1
   ·go_ret;have hS:=Ul (n:=n) (c':=c - n) HM.out H1.out HL.out (by omega) (by omega) (HB.out.drop n);refine ⟨A,c,?_,?_,?_,hS.2⟩
    ·rw [HT.out];simp [HL.out,hnm]
    ·rw [HT.out];exact (HB.out.take n).blocks fun k hk=>heap_setCell_other w ⟨rb,0,none⟩ k _ (by show k≠rb;have:=HM.out;omega)
    ·rw [HT.out];exact hS.1
  ·have HT:Hid (tX n (some B)=([],none)):=ae (by show (if n≤B.length then _ else _)=_;rw [if_neg hn]);have n1:(m:Int)<(n:Int):=by omega
   clear h1 h4 hl hB hn;go_enter Tryz.func38,Tryz.ntmps38
   go_wp2
   go_ret;unfold VL;rw [HT.out];exact ⟨none,0,rfl, .inl rfl,HSH.out.1,HSH.out.2⟩
theorem wrap_nil:wrap64 (wZ []:Nat)=0:=by
 show wrap64 0=0;unfold wrap64;omega
theorem FQ {s:Nat} {B:List UInt8} (h:s≤B.length):tX s (some B)=(B.take s,some (B.drop s)):=by
 show (if s≤B.length then _ else _)=_;rw [if_pos h]
theorem Ol {s:Nat} {B:List UInt8} (h:¬s≤B.length):tX s (some B)=([],none):=by
 show (if s≤B.length then _ else _)=_;rw [if_neg h]
theorem MC (s:Nat) (hs:s=1∨s=2∨s=4∨s=8) (o:eQ):tN s o=(wrap64 (wZ (tX s o).1),(tX s o).2):=by
 cases o with
 |none=>show ((0,none):Int×eQ)=(wrap64 (wZ []),none);rw [wrap_nil]
 |some B=>
  by_cases h:s≤B.length
  ·rw [FQ h];show (if s≤B.length then _ else _)=_;rw [if_pos h,XN B s hs h]
  ·rw [Ol h];show (if s≤B.length then _ else _)=_;rw [if_neg h,wrap_nil]
theorem MF (s:Nat) (o:eQ):(tX s o).1.length≤s:=by
 unfold tX;cases o with
 |none=>simp
 |some B=>
  simp only;split
  ·rw [List.length_take];omega
  ·simp
def OX (M:Nat) (w:World) (rb:Nat) (v:Int) (o:eQ) (e:Ending) (w':World):Prop:=e= .returned (I v)∧RR M w' rb o∧dA rb w w'
def RnR (w1:World) (L:List UInt8) (x i:Value) (wr:World):Prop:=∃k:Nat,k≤L.length∧x= .int .u64 (wZ (L.take k))∧i= .int .i64 k∧wr=w1
theorem Tn (L:List UInt8) (k:Nat) (h:k<L.length) (h8:L.length≤8):(wZ (L.take (k+1)):Int)=wZ (L.take k)+(L[k]?.getD 0).toNat*2 ^ (8*k)∧wZ (L.take (k+1))<18446744073709551616:=by
 have e:L.take (k+1)=L.take k++ [L[k]?.getD 0]:=by
  rw [List.take_add_one,bZ h];rfl
 constructor
 ·rw [e,IA,List.length_take,Nat.min_eq_left (by omega),show (256:Nat)=2 ^ 8 by decide,←Nat.pow_mul,Nat.mul_comm ((2:Nat) ^ (8*k))]
  push_cast
  rfl
 ·have h1:=AY (L.take (k+1));have h2:256 ^ (L.take (k+1)).length≤256 ^ 8:=Nat.pow_le_pow_right (by omega) (by rw [List.length_take];omega);omega
theorem Es (M:Nat) (w:World) (rb s:Nat) (o:eQ) (hr:RR M w rb o) (hs:s=1∨s=2∨s=4∨s=8):
  Calls Tryz.prog 37 #[pt rb,I s] w (OX M w rb (tN s o).1 (tN s o).2):=by
 have HT:=ae (Et M w rb s o hr (by omega));have h8:=Nat.le_trans (MF s o) (by omega:s≤8);have HE:=ae (MC s hs o);obtain ⟨L,hL⟩:∃L,(tX s o).1=L:=⟨_,rfl⟩;obtain ⟨o',ho⟩:∃o',(tX s o).2=o':=⟨_,rfl⟩;unfold VL at HT;rw [hL,ho] at HT HE;rw [hL] at h8;clear hL ho hr;go_enter Tryz.func37,Tryz.ntmps37;go_wp2_with fail;refine HT.out.mono ?_;rintro e w1 ⟨A,c,rfl,hB,hR,hK⟩;have HB:=ae hB;have HR:=ae hR;have HK:=ae hK;clear hB hR hK HT;obtain ⟨n,hn⟩:∃n,L.length=n:=⟨_,rfl⟩;rw [hn] at h8 ⊢;have HN:=ae hn;go_wp2_with fail
 go_loopw [6,7] (fun x i wr=>RnR w1 L x i wr) (fun _ i _=>n - (intOf i).toNat)
 case atStart=>exact ⟨0,Nat.zero_le _,rfl,by go_num,rfl⟩
 case round=>
  obtain ⟨k,hk,rfl,rfl,rfl⟩:=hrel;by_cases hlt:(k:Int)<(n:Int)
  ·have hb:∃b off,A=some ⟨b,off,none⟩∧wr.cell? ⟨b,off+k,none⟩=some (Extern.Stop.cell (L[k]?.getD 0)):=by
    rcases HB.out with h|⟨b,off,hA,_,hc⟩
    ·have:=HN.out;omega
    ·exact ⟨b,off,hA,hc k (by have:=HN.out;omega)⟩
   obtain ⟨b,off,rfl,hc⟩:=hb;obtain ⟨x,hx⟩:∃x,L[k]?.getD 0=x:=⟨_,rfl⟩;rw [hx] at hc;have hxl:=x.toNat_lt;have hk8:k<8:=by omega
   replace hc:wr.cell? ⟨b,off+k,none⟩=some (.int .u8 x.toNat):=hc;have i0:(0:Int)≤(k:Int):=by omega
   go_wp2_with fail;go_roundw
   case rel=>
    obtain ⟨e1,e2⟩:=Tn L k (by omega) (by omega);rw [hx] at e1;have e3:(0:Int)≤(x.toNat:Int)*2 ^ (8*k):=Int.mul_nonneg (by omega) (Int.pow_nonneg (by omega));refine ⟨k+1,by omega,?_,by go_num,rfl⟩;rw [IntKind.wrap_u64,IntKind.wrap_u64];generalize (x.toNat:Int)*2 ^ (8*k)=y at e1 e3;congr 1;omega
   case measure=>simp [intOf];omega
  ·go_wp2_with fail;go_ret;have hkn:k=n:=by omega
   refine ⟨?_,by rw [HE.out];exact HR.out,HK.out⟩;rw [HE.out,hkn,←hn,List.take_length];rfl
theorem PS (M:Nat) (w:World) (rb:Nat) (o:eQ) (hr:RR M w rb o):
  Calls Tryz.prog 58 #[pt rb] w (OX M w rb (tO o).1 (tO o).2):=by
 have HN:=ae (Es M w rb 2 o hr (by omega));have hb:0≤(tN 2 o).1∧(tN 2 o).1<65536:=by
  rw [MC 2 (by omega) o];have h1:=AY (tX 2 o).1;have h2:256 ^ (tX 2 o).1.length≤256 ^ 2:=Nat.pow_le_pow_right (by omega) (MF 2 o);simp only;unfold wrap64;omega
 have HE:Hid ((tO o).1=(if 32768≤(tN 2 o).1 then (tN 2 o).1 - 65536 else (tN 2 o).1)∧(tO o).2=(tN 2 o).2):=ae ⟨rfl,rfl⟩;obtain ⟨v,hv⟩:∃v,(tN 2 o).1=v:=⟨_,rfl⟩;obtain ⟨o',ho⟩:∃o',(tN 2 o).2=o':=⟨_,rfl⟩;rw [hv,ho] at HN HE;rw [hv] at hb;obtain ⟨u,hu⟩:∃u,(tO o).1=u:=⟨_,rfl⟩;rw [HE.out.2,hu];rw [hu] at HE;have HU:=ae HE.out.1;clear HE hv ho hr hu;obtain ⟨hb0,hb1⟩:=hb;go_enter Tryz.func58,Tryz.ntmps58;go_wp2_with fail;refine HN.out.mono ?_;rintro e w1 ⟨rfl,hR,hK⟩;have HR:=ae hR;have HK:=ae hK;clear hR hK HN;by_cases hge:32768≤v
 ·have hU:u=v - 65536:=HU.out.trans (if_pos hge);go_wp2_with fail;go_ret;exact ⟨by rw [hU];rfl,HR.out,HK.out⟩
 ·have hU:u=v:=HU.out.trans (if_neg hge);go_wp2_with fail;go_ret;exact ⟨by rw [hU];rfl,HR.out,HK.out⟩
def LV (lo:Nat) (v:Value) (W:World) (A:Option Addr) (cs:List Value):Prop:=
 cs.length=0∨∃b off,A=some ⟨b,off,none⟩∧lo≤b∧b<W.heap.size∧some b≠v.ownBlock∧∀j u,cs[j]? =some u→W.cell? ⟨b,off+j,none⟩=some u
theorem LV.keep {lo:Nat} {v v':Value} {W W':World} {A:Option Addr} {cs:List Value} (h:LV lo v W A cs) (hs:W.heap.size≤W'.heap.size) (hb:∀b,lo≤b→b<W.heap.size→some b≠v.ownBlock→W'.heap[b]? =W.heap[b]? ∧some b≠v'.ownBlock):LV lo v' W' A cs:=by
 rcases h with h|⟨b,off,h1,h2,h3,h4,h5⟩
 ·exact .inl h
 ·exact .inr ⟨b,off,h1,h2,by omega,(hb b h2 h3 h4).2,fun j u hu=>(World.cell?_of_block (a:=⟨b,off+j,none⟩) (hb b h2 h3 h4).1).trans (h5 j u hu)⟩
theorem LV.at {lo:Nat} {v:Value} {W:World} {A:Option Addr} {cs:List Value} (h:LV lo v W A cs):az W W.heap.size A cs:=by
 rcases h with h|⟨b,off,h1,h2,h3,h4,h5⟩
 ·exact .inl h
 ·exact .inr ⟨b,off,h1,h3,h5⟩
def gJ (lo:Nat) (v:Value) (W:World) (s:Zs) (z:Zn):Prop:=LV lo v W s.A (z.cal.aj.map I)∧LV lo v W s.B (z.cal.rules.flatMap Lr.cells)∧LV lo v W s.C (z.trans.flatMap Tr.cells)∧LV lo v W s.D (z.ax.flatMap Yr.cells)
theorem gJ.keep {lo:Nat} {v v':Value} {W W':World} {s:Zs} {z:Zn} (h:gJ lo v W s z) (hs:W.heap.size≤W'.heap.size) (hb:∀b,lo≤b→b<W.heap.size→some b≠v.ownBlock→W'.heap[b]? =W.heap[b]? ∧some b≠v'.ownBlock):gJ lo v' W' s z:=
 ⟨h.1.keep hs hb,h.2.1.keep hs hb,h.2.2.1.keep hs hb,h.2.2.2.keep hs hb⟩
theorem gJ.at {lo:Nat} {v:Value} {W:World} {s:Zs} {z:Zn} (h:gJ lo v W s z):jy W W.heap.size s z:=⟨h.1.at,h.2.1.at,h.2.2.1.at,h.2.2.2.at⟩
def iO (lo:Nat) (v:Value) (W:World) (y:fH):Prop:=LV lo v W y.A (aV y.zs)∧∀z∈y.zs,gJ lo v W z.s z.e.z
theorem iO.keep {lo:Nat} {v v':Value} {W W':World} {y:fH} (h:iO lo v W y) (hs:W.heap.size≤W'.heap.size) (hb:∀b,lo≤b→b<W.heap.size→some b≠v.ownBlock→W'.heap[b]? =W.heap[b]? ∧some b≠v'.ownBlock):iO lo v' W' y:=
 ⟨h.1.keep hs hb,fun z hz=>(h.2 z hz).keep hs hb⟩
theorem CB.fresh (w:World) (cs:Array Value) (t:TypeId):CB w.heap.size (.slice none 0 0) w cs [] (some ⟨w.heap.size+1,0,none⟩) 0 0 ((w.alloc (.cells cs t)).alloc (.cells #[] 5)):=by
 have hb:Below w.heap.size w ((w.alloc (.cells cs t)).alloc (.cells #[] 5)):=ai (ag w _) (ag _ _);have ho:=iU (w.alloc (.cells cs t)) 5 1;refine ⟨(Row.new w cs t).keep (ag _ _),mY.lower (lo:=w.heap.size+1) (by simpa [mY] using ho) (by omega),rfl,⟨hb.os,hb.tape,hb.output,hb.size,fun k hk _=>hb.block k hk, .inr ⟨w.heap.size+1,rfl,by omega⟩⟩,fun e=>?_⟩;have h:w.heap.size=w.heap.size+1:=Option.some.inj e;omega
theorem take_snoc {α:Type} (l:List α) (k:Nat) (x:α) (hx:l[k]? =some x):l.take (k+1)=l.take k++ [x]:=by
 rw [List.take_add_one,hx];rfl
theorem CB.grown {lo n c n' c':Nat} {v0:Value} {A A':Option Addr} {w W W':World} {o:Obj} {cs:Array Value} {bs bs':List UInt8} (h:CB lo v0 w cs bs A n c W) (hO:mY lo W' A' n' c' bs') (hl:bs'.length=n') (hg:(W.alloc o).grownBy W' (Value.slice A n c).ownBlock) (hat:(Value.slice A' n' c').ownBlock=(Value.slice A n c).ownBlock∨(Value.slice A' n' c').ownBlock=some (W.heap.size+1)):CB lo v0 w cs bs' A' n' c' W':=
 h.next hO hl (uh.app hg (hat.imp id fun e=>e.trans (by simp)))
theorem xA (d:List UInt8) (w:World) (hd:d.length=32):
  Calls Tryz.prog 22 #[.agg (ay d).toArray] w (ZH w.heap.size (.slice none 0 0) w d):=by
 obtain ⟨i0,hi,hz0,hz1,hz2⟩:=info_parts lh;have HI:=ae hi;have HZ0:=ae hz0;have HZ1:=ae hz1;have HZ2:=ae hz2;clear hi hz0 hz1 hz2;have HF:=ae (CB.fresh w (ay d).toArray 24);have HD:=ae hd;clear hd;go_enter Tryz.func22,Tryz.ntmps22;go_wp2_with fail
 go_loopw [3,4] (fun b i wr=>GN w.heap.size (.slice none 0 0) w (ay d).toArray (fun k=>d.take k) 32 b i wr) (fun _ i _=>32 - (intOf i).toNat)
 case atStart=>exact ⟨0,0,0,_,Nat.zero_le _,rfl,by go_num,HF.out⟩
 case round=>
  obtain ⟨k,n,c,A,hk,rfl,rfl,hb⟩:=hrel;have HB:Hid (CB w.heap.size (.slice none 0 0) w (ay d).toArray (d.take k) A n c wr):=ae hb;have hn:n=k:=by rw [←hb.len];show (d.take k).length=k;rw [List.length_take,HD.out];omega
  have hsz:w.heap.size≤wr.heap.size:=hb.keep.size;clear hb;subst hn;by_cases hlt:(n:Int)<32
  ·obtain ⟨x,hx⟩:∃x,d[n]? =some x:=⟨_,bZ (by rw [HD.out];omega)⟩;have v0:wr.cell? ⟨w.heap.size,n,none⟩=some (.int .u8 (x.toNat:Int)):=by rw [HB.out.row.2 n,List.getElem?_toArray];unfold ay;rw [List.getElem?_map,hx];rfl
   have HX:=ae hx;clear hx;obtain ⟨pre,hpre⟩:∃l,d.take n=l:=⟨_,rfl⟩;have CJ:=ae hpre;rw [hpre] at HB;clear hpre;have JI:=ae (World.ownsRow.alloc HB.out.own (.cells #[Value.int .u8 (x.toNat:Int)] 5));go_wp2_with (at_builtin;go_must (refine wpList_append_own_at _ rfl _ _ 22 rfl w.heap.size 5 i0 (.int .u8 0) 1 1 Tryz.underlying22 HI.out HZ0.out HZ1.out HZ2.out rfl (by decide) _ n ((pre).map Extern.Stop.cell) rfl JI.out _ 1 1 [Value.int .u8 (x.toNat:Int)] rfl rfl (cell_one_new _ _ _) (vJ _) (by unfold maxLen;omega) (by omega) (by simp;omega) ?_));intro v' w3 hown hg _ hat;obtain ⟨A',c',rfl⟩:=fC hown;have H2:=ae (HB.out.grown (bs':=d.take (n+1)) (by unfold mY;rw [take_snoc d n x HX.out,CJ.out,List.map_append];exact hown) (by rw [List.length_take,HD.out];omega) hg hat);clear hown hg hat;go_wp2_with fail;go_roundw
   case rel=>exact ⟨n+1,n+1,c',A',by omega,rfl,by go_num,H2.out⟩
   case measure=>simp [intOf];omega
  ·have HN:Hid (n=32):=ae (by omega);go_wp2_with fail;go_ret;have hb:=HB.out;rw [HN.out,List.take_of_length_le (Nat.le_of_eq HD.out)] at hb;have hn:=HN.out;subst hn;exact ⟨A,32,c,HD.out,rfl,hb.own,hb.keep⟩
def xb3 (m:Int) (x:UInt8):UInt8:=byteOf (bits BinOp.xor IntKind.u8 x.toNat m)
theorem X9 (x:UInt8) (m:Int):0≤bits BinOp.xor IntKind.u8 x.toNat m∧bits BinOp.xor IntKind.u8 x.toNat m<256:=by
 unfold bits;simp only [IntKind.wrap,IntKind.bits,IntKind.signed];constructor
 ·exact Int.emod_nonneg _ (by decide)
 ·exact Int.emod_lt_of_pos _ (by decide)
theorem UR (m:Int) (x:UInt8):Extern.Stop.cell (xb3 m x)= .int .u8 (bits BinOp.xor IntKind.u8 x.toNat m):=by
 obtain ⟨h1,h2⟩:=X9 x m;unfold xb3;rw [fQ];congr 1;omega
def wo (m:Int) (d:List UInt8):List UInt8:=d.map (xb3 m)++List.replicate 32 (byteOf m)
theorem sG (m:Int) (d:List UInt8) (h:d.length=32):(wo m d).length=64:=by simp [wo,h]
theorem RI (m:Int) (h0:0≤m) (h1:m<256):Extern.Stop.cell (byteOf m)= .int .u8 m:=by
 rw [fQ];congr 1;omega
theorem D5 (m:Int) (d:List UInt8) (w:World) (hd:d.length=32) (h0:0≤m) (h1:m<256):
  Calls Tryz.prog 59 #[.agg (ay d).toArray, .int .u8 m] w (ZH w.heap.size (.slice none 0 0) w (wo m d)):=by
 obtain ⟨i0,hi,hz0,hz1,hz2⟩:=info_parts lh;have HI:=ae hi;have HZ0:=ae hz0;have HZ1:=ae hz1;have HZ2:=ae hz2;clear hi hz0 hz1 hz2;have HF:=ae (CB.fresh w (ay d).toArray 24);have HD:=ae hd;obtain ⟨xs,hxs⟩:∃l,d.map (xb3 m)=l:=⟨_,rfl⟩;have QA:Hid (xs.length=32):=ae (by rw [←hxs,List.length_map,hd]);have Q4:=ae hxs;obtain ⟨ys,hys⟩:∃l,List.replicate 32 (byteOf m)=l:=⟨_,rfl⟩;have oI:Hid (ys.length=32):=ae (by rw [←hys,List.length_replicate]);have Wl:=ae hys;have HM:=ae (RI m h0 h1);clear hd hxs hys;go_enter Tryz.func59,Tryz.ntmps59;go_wp2_with fail
 go_loopw [5,6] (fun b i wr=>GN w.heap.size (.slice none 0 0) w (ay d).toArray (fun k=>xs.take k) 32 b i wr) (fun _ i _=>32 - (intOf i).toNat)
 case atStart=>exact ⟨0,0,0,_,Nat.zero_le _,rfl,by go_num,HF.out⟩
 case round=>
  obtain ⟨k,n,c,A,hk,rfl,rfl,hb⟩:=hrel;have HB:Hid (CB w.heap.size (.slice none 0 0) w (ay d).toArray (xs.take k) A n c wr):=ae hb;have hn:n=k:=by rw [←hb.len];show (xs.take k).length=k;rw [List.length_take,QA.out];omega
  have hsz:w.heap.size≤wr.heap.size:=hb.keep.size;clear hb;subst hn;by_cases hlt:(n:Int)<32
  ·obtain ⟨x,hx⟩:∃x,d[n]? =some x:=⟨_,bZ (by rw [HD.out];omega)⟩;have v0:wr.cell? ⟨w.heap.size,n,none⟩=some (.int .u8 (x.toNat:Int)):=by rw [HB.out.row.2 n,List.getElem?_toArray];unfold ay;rw [List.getElem?_map,hx];rfl
   have HX:Hid (xs[n]? =some (xb3 m x)):=ae (by rw [←Q4.out,List.getElem?_map,hx];rfl);have HXC:=ae (UR m x);clear hx;obtain ⟨pre,hpre⟩:∃l,xs.take n=l:=⟨_,rfl⟩;have CJ:=ae hpre;rw [hpre] at HB;clear hpre;have JI:=ae (World.ownsRow.alloc HB.out.own (.cells #[Value.int .u8 (bits BinOp.xor IntKind.u8 x.toNat m)] 5));go_wp2_with (at_builtin;go_must (refine wpList_append_own_at _ rfl _ _ 22 rfl w.heap.size 5 i0 (.int .u8 0) 1 1 Tryz.underlying22 HI.out HZ0.out HZ1.out HZ2.out rfl (by decide) _ n ((pre).map Extern.Stop.cell) rfl JI.out _ 1 1 [Value.int .u8 (bits BinOp.xor IntKind.u8 x.toNat m)] rfl rfl (cell_one_new _ _ _) (vJ _) (by unfold maxLen;omega) (by omega) (by simp;omega) ?_));intro v' w3 hown hg _ hat;obtain ⟨A',c',rfl⟩:=fC hown;have H2:=ae (HB.out.grown (bs':=xs.take (n+1)) (by unfold mY;rw [take_snoc xs n _ HX.out,CJ.out,List.map_append];show World.ownsRow _ _ _ _ _ _ (_++ [Extern.Stop.cell _]);rw [HXC.out];exact hown) (by rw [List.length_take,QA.out];omega) hg hat);clear hown hg hat;go_wp2_with fail;go_roundw
   case rel=>exact ⟨n+1,n+1,c',A',by omega,rfl,by go_num,H2.out⟩
   case measure=>simp [intOf];omega
  ·have HN32:Hid (n=32):=ae (by omega);have HB3:Hid (CB w.heap.size (.slice none 0 0) w (ay d).toArray (xs++ys.take 0) A n c wr):=ae (by have hb:=HB.out;rw [HN32.out,List.take_of_length_le (Nat.le_of_eq QA.out),←HN32.out] at hb;simpa using hb);go_wp2_with fail
   go_loopw [5,7] (fun b i wr=>GN w.heap.size (.slice none 0 0) w (ay d).toArray (fun k=>xs++ys.take k) 32 b i wr) (fun _ i _=>32 - (intOf i).toNat)
   case atStart=>exact ⟨0,n,c,A,Nat.zero_le _,rfl,by go_num,HB3.out⟩
   case round=>
    clear HB HB3 hsz hk hlt;obtain ⟨k,n2,c,A,hk,rfl,rfl,hb⟩:=hrel;have HB:Hid (CB w.heap.size (.slice none 0 0) w (ay d).toArray (xs++ys.take k) A n2 c wr):=ae hb;have hn:n2=32+k:=by rw [←hb.len];show (xs++ys.take k).length=32+k;rw [bH,List.length_take,QA.out,oI.out];omega
    have hsz:w.heap.size≤wr.heap.size:=hb.keep.size;clear hb;subst hn;by_cases hlt:(k:Int)<32
    ·have HX:Hid (ys[k]? =some (byteOf m)):=ae (by rw [←Wl.out,List.getElem?_replicate,if_pos (by omega)]);obtain ⟨pre,hpre⟩:∃l,xs++ys.take k=l:=⟨_,rfl⟩;have CJ:=ae hpre;rw [hpre] at HB;clear hpre;have JI:=ae (World.ownsRow.alloc HB.out.own (.cells #[Value.int .u8 m] 5));go_wp2_with (at_builtin;go_must (refine wpList_append_own_at _ rfl _ _ 22 rfl w.heap.size 5 i0 (.int .u8 0) 1 1 Tryz.underlying22 HI.out HZ0.out HZ1.out HZ2.out rfl (by decide) _ (32+k) ((pre).map Extern.Stop.cell) rfl JI.out _ 1 1 [Value.int .u8 m] rfl rfl (cell_one_new _ _ _) (vJ _) (by unfold maxLen;omega) (by omega) (by simp;omega) ?_));intro v' w3 hown hg _ hat;obtain ⟨A',c',rfl⟩:=fC hown;have H2:=ae (HB.out.grown (bs':=xs++ys.take (k+1)) (n':=32+k+1) (by unfold mY;rw [take_snoc ys k _ HX.out,←List.append_assoc,CJ.out,List.map_append];show World.ownsRow _ _ _ _ _ _ (_++ [Extern.Stop.cell _]);rw [HM.out];exact hown) (by rw [bH,List.length_take,QA.out,oI.out];omega) hg hat);clear hown hg hat;go_wp2_with fail;go_roundw
     case rel=>exact ⟨k+1,32+k+1,c',A',by omega,rfl,by go_num,H2.out⟩
     case measure=>simp [intOf];omega
    ·have HN:Hid (k=32):=ae (by omega);go_wp2_with fail;go_ret;have hb:=HB.out;have hk:=HN.out;subst hk;rw [List.take_of_length_le (Nat.le_of_eq oI.out),←Q4.out,←Wl.out] at hb;exact ⟨A,64,c,sG m d HD.out,rfl,hb.own,hb.keep⟩
end Go.Proofs.YtbaehbbonkljpaaGreat
