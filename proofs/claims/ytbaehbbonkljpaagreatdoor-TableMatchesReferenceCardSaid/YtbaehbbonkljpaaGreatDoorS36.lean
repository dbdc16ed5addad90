/- The texts Ua, Sb, in this order. -/
import Derived.Test.YtbaehbbonkljpaaGreatDoorS00
import Derived.Test.YtbaehbbonkljpaaGreatDoorS18
import Derived.Test.YtbaehbbonkljpaaGreatDoorS28
import Derived.Test.YtbaehbbonkljpaaGreatDoorS35
set_option maxRecDepth 10000
set_option maxHeartbeats 8000000
namespace Go.Proofs.YtbaehbbonkljpaaGreatDoor
open Go Go.RowKit
attribute [local go_sem] dI dM dJ dN fM fO dG dK dH dL jd je
def cu {α:Type} (p:Option (α×List UInt8)) (N:Ending->World->Prop) (Y:α->List UInt8->Ending->World->Prop) (e:Ending) (w:World):Prop:=
 match p with
 |none=>N e w
 |some x=>Y x.1 x.2 e w
theorem cu.no {α:Type} {p:Option (α×List UInt8)} {N:Ending->World->Prop} {Y:α->List UInt8->Ending->World->Prop} {e:Ending} {w:World} (h:p=none) (hn:N e w):cu p N Y e w:=by
 subst h;exact hn
theorem cu.yes {α:Type} {p:Option (α×List UInt8)} {N:Ending->World->Prop} {Y:α->List UInt8->Ending->World->Prop} {e:Ending} {w:World} {a:α} {R:List UInt8} (h:p=some (a,R)) (hy:Y a R e w):cu p N Y e w:=by
 subst h;exact hy
theorem cu.get {α:Type} {p:Option (α×List UInt8)} {N:Ending->World->Prop} {Y:α->List UInt8->Ending->World->Prop} {e:Ending} {w:World} (h:cu p N Y e w):(p=none/\N e w)\/∃a R,p=some (a,R)/\Y a R e w:=by
 cases p with
 |none=>exact .inl ⟨rfl,h⟩
 |some x=>exact .inr ⟨x.1,x.2,rfl,h⟩
def pN (s:Nat) (B:List UInt8):Option (Int×List UInt8):=if s<=B.length then some (O0 B false s,B.drop s) else none
def pO (B:List UInt8):Option (Int×List UInt8):=(pN 2 B).map fun x=>(IntKind.i16.wrap x.1,x.2)
def pF (B:List UInt8):Option (Bool×List UInt8):=(pN 1 B).map fun x=>(decide (x.1=1),x.2)
def pD (B:List UInt8):Option (List UInt8×List UInt8):=if 32<=B.length then some (B.take 32,B.drop 32) else none
def pK (n:Nat) (B:List UInt8):Option (ByteArray×List UInt8):=if n<=B.length then some (⟨(B.take n).toArray⟩,B.drop n) else none
def pT (B:List UInt8):Option (ByteArray×List UInt8):=(pN 1 B).bind fun x=>pK x.1.toNat x.2
def Wp (B:List UInt8):Option (Lr×List UInt8):=(pN 2 B).bind fun a=>(pN 2 a.2).bind fun b=>(pF b.2).map fun c=>(⟨a.1,b.1,c.1⟩,c.2)
def Yo (B:List UInt8):Option (Tr×List UInt8):=(pN 8 B).bind fun a=>(pO a.2).map fun b=>(⟨a.1,b.1⟩,b.2)
def RI (B:List UInt8):Option (Yr×List UInt8):=(pN 1 B).bind fun a=>(pN 1 a.2).bind fun b=>(pN 1 b.2).bind fun c=>(pN 2 c.2).bind fun d=>(pO d.2).map fun f=>(⟨a.1,b.1,c.1,d.1,f.1⟩,f.2)
def gm {α:Type} (p:List UInt8->Option (α×List UInt8)):Nat->List UInt8->Option (List α×List UInt8)
 |0,B=>some ([],B)
 |k+1,B=>(gm p k B).bind fun x=>(p x.2).map fun y=>(x.1++ [y.1],y.2)
def jg {α:Type} (s:Nat) (p:List UInt8->Option (α×List UInt8)) (B:List UInt8):Option (List α×List UInt8):=(pN s B).bind fun x=>gm p x.1.toNat x.2
def Nk (B:List UInt8):Option (Cal×List UInt8):=(pN 4 B).bind fun a=>(jg 1 (pN 1) a.2).bind fun b=>(pN 1 b.2).bind fun c=>(jg 1 Wp c.2).map fun d=>(⟨a.1,b.1,c.1 - 1,d.1⟩,d.2)
def OL (B:List UInt8):Option (Ze×List UInt8):=(pT B).bind fun n=>(Nk n.2).bind fun c=>(pO c.2).bind fun s=>(jg 2 Yo s.2).bind fun t=>(pN 8 t.2).bind fun h=>(jg 1 RI h.2).map fun y=>(⟨n.1,⟨c.1,s.1,t.1,h.1,y.1⟩⟩,y.2)
def Ii (B:List UInt8):Option (Tb×List UInt8):=(pN 1 B).bind fun i=>(pN 1 i.2).bind fun v=>(pN 1 v.2).bind fun x=>(pD x.2).bind fun d=>(jg 1 OL d.2).map fun z=>(⟨i.1,v.1,x.1,d.1,fU,z.1⟩,z.2)
theorem mZ {α:Type} (p:List UInt8->Option (α×List UInt8)):∀(k:Nat) (B:List UInt8) (zs:List α) (R:List UInt8),gm p k B=some (zs,R)->zs.length=k
 |0,B,zs,R,h=>by
  simp only [gm,Option.some.injEq,Prod.mk.injEq] at h;rw [<-h.1];rfl
 |k+1,B,zs,R,h=>by
  unfold gm at h;cases hp:gm p k B with
  |none=>rw [hp] at h;simp at h
  |some x=>
   obtain ⟨xs,R1⟩:=x;rw [hp] at h;simp only [Option.bind_some] at h;cases hq:p R1 with
   |none=>rw [hq] at h;simp at h
   |some y=>
    rw [hq] at h;simp only [Option.map_some,Option.some.injEq,Prod.mk.injEq] at h;rw [<-h.1,bF,mZ p k B xs R1 hp,List.length_singleton]
theorem oK {α:Type} (p:List UInt8->Option (α×List UInt8)) (k:Nat) (B:List UInt8) (h:gm p k B=none):∀(n:Nat),k<=n->gm p n B=none
 |0,hk=>by
  have:k=0:=by omega
  rw [<-this];exact h
 |n+1,hk=>by
  by_cases he:k=n+1
  ·rw [<-he];exact h
  ·unfold gm;rw [oK p k B h n (by omega)];rfl
theorem nP {α:Type} (p:List UInt8->Option (α×List UInt8)) {k:Nat} {B:List UInt8} {zs:List α} {R R':List UInt8} {x:α} (h:gm p k B=some (zs,R)) (hx:p R=some (x,R')):gm p (k+1) B=some (zs++ [x],R'):=by
 unfold gm;rw [h];simp only [Option.bind_some];rw [hx];rfl
theorem nR {α:Type} (p:List UInt8->Option (α×List UInt8)) {k:Nat} {B:List UInt8} {zs:List α} {R:List UInt8} (h:gm p k B=some (zs,R)) (hx:p R=none):gm p (k+1) B=none:=by
 unfold gm;rw [h];simp only [Option.bind_some];rw [hx];rfl
theorem UH {s:Nat} {B R:List UInt8} {v:Int} (h:pN s B=some (v,R)):s<=B.length/\v=O0 B false s/\R=B.drop s:=by
 unfold pN at h;split at h
 ·rename_i h1;simp only [Option.some.injEq,Prod.mk.injEq] at h;exact ⟨h1,h.1.symm,h.2.symm⟩
 ·simp at h
theorem GG {s:Nat} {B:List UInt8} (h:s<=B.length):pN s B=some (O0 B false s,B.drop s):=by
 unfold pN;rw [if_pos h]
theorem X7 (b:UInt8):le (b.toNat:Int) 1= [b]:=by
 have hb:=b.toNat_lt;simp only [le,List.cons.injEq,and_true];apply UInt8.toNat_inj.1;have h:=oV (b.toNat:Int);omega
theorem UF (b:UInt8) (B:List UInt8):pN 1 (b::B)=some ((b.toNat:Int),B):=by
 rw [GG (by simp)];have h:=rdN_1 (b.toNat:Int) (by omega) (by have:=b.toNat_lt;omega) B;rw [X7] at h;have h:O0 (b::B) false 1=(b.toNat:Int):=h;rw [h];rfl
theorem Yl {B R:List UInt8} {v:Int} (h:pN 1 B=some (v,R)):∃b,B=b::R/\v=((b.toNat:Nat):Int):=by
 cases B with
 |nil=>obtain ⟨h1,_⟩:=UH h;simp at h1
 |cons b B=>
  rw [UF] at h;simp only [Option.some.injEq,Prod.mk.injEq] at h;exact ⟨b,by rw [h.2],h.1.symm⟩
theorem rQ {B R:List UInt8} {v:Int} (h:pN 1 B=some (v,R)):∃n:Nat,v=(n:Int)/\n<256:=by
 obtain ⟨b,_,h2⟩:=Yl h;exact ⟨b.toNat,h2,b.toNat_lt⟩
theorem le_two (a b:UInt8):le ((a.toNat:Int)+256*(b.toNat:Int)) 2= [a,b]:=by
 have ha:=a.toNat_lt;have hb:=b.toNat_lt;simp only [le,List.cons.injEq,and_true];constructor
 ·apply UInt8.toNat_inj.1;have h:=oV ((a.toNat:Int)+256*(b.toNat:Int));omega
 ·apply UInt8.toNat_inj.1;have h:=oV (((a.toNat:Int)+256*(b.toNat:Int)) / 256);omega
theorem UG (a b:UInt8) (B:List UInt8):pN 2 (a::b::B)=some ((a.toNat:Int)+256*(b.toNat:Int),B):=by
 have ha:=a.toNat_lt;have hb:=b.toNat_lt;rw [GG (by simp)];have h:=rdN_2s ((a.toNat:Int)+256*(b.toNat:Int)) (by omega) (by omega) B;rw [le_two] at h;have h:O0 (a::b::B) false 2=(a.toNat:Int)+256*(b.toNat:Int):=h;rw [h];rfl
theorem Ym {B R:List UInt8} {v:Int} (h:pN 2 B=some (v,R)):∃a b,B=a::b::R/\v=(a.toNat:Int)+256*(b.toNat:Int):=by
 match B,h with
 | [],h=>obtain ⟨h1,_⟩:=UH h;simp at h1
 | [_],h=>obtain ⟨h1,_⟩:=UH h;simp at h1
 |a::b::B,h=>
  rw [UG] at h;simp only [Option.some.injEq,Prod.mk.injEq] at h;exact ⟨a,b,by rw [h.2],h.1.symm⟩
theorem Yn {B R:List UInt8} {v:Int} (h:pN 2 B=some (v,R)):∃n:Nat,v=(n:Int)/\n<65536:=by
 obtain ⟨a,b,_,h2⟩:=Ym h;have ha:=a.toNat_lt;have hb:=b.toNat_lt;exact ⟨a.toNat+256*b.toNat,by rw [h2];omega,by omega⟩
def dO (cs C:Array Value):Prop:=C.size=cs.size/\(cs.all (·.oneCell')=true->C.all (·.oneCell')=true)
theorem dO.refl (cs:Array Value):dO cs cs:=⟨rfl,id⟩
theorem dO.trans {a b c:Array Value} (h:dO a b) (k:dO b c):dO a c:=⟨k.1.trans h.1,fun x=>k.2 (h.2 x)⟩
theorem dO.set {cs C:Array Value} {o:Nat} {v:Value} (h:dO cs C) (hv:v.oneCell'=true):dO cs (C.setIfInBounds o v):=by
 refine ⟨by rw [Array.size_setIfInBounds];exact h.1,fun x=>?_⟩;have h2:=h.2 x;rw [Array.all_eq_true_iff_forall_mem] at h2 ⊢;intro u hu;rcases Array.mem_or_eq_of_mem_setIfInBounds hu with h3|h3
 ·exact h2 u h3
 ·rw [h3];exact hv
def dD (w:World) (rb pb:Nat) (t:TypeId) (cs:Array Value) (e:Ending) (w':World):Prop:=e= .panicked nJ/\∃C:Array Value,dO cs C/\bH w rb pb t C w'
theorem BF {P:Program} {fn:Func} {R:Ending->World->Prop} {a:Act} {w:World} {c:List PanicEntry} (hd:a.defers= []) (hR:R (.panicked c) w):bodyPost P fn R (.panic c) a w:=⟨hd,hR⟩
theorem dD.after {w w1 w2:World} {rb pb:Nat} {t:TypeId} {cs C:Array Value} {e:Ending} (h:dD w1 rb pb t C e w2) (hb:bH w rb pb t C w1) (hs:dO cs C):dD w rb pb t cs e w2:=by
 obtain ⟨he,D,hD,hT⟩:=h;exact ⟨he,D,hs.trans hD,hb.trans hT⟩
theorem dD.bT {w w2:World} {rb pb:Nat} {t:TypeId} {cs:Array Value} {e:Ending} (h:dD w.drew rb pb t cs e w2):dD w rb pb t cs e w2:=by
 obtain ⟨he,D,hD,hT⟩:=h;exact ⟨he,D,hD,hT.bT⟩
theorem Ej (M:Nat) (w:World) (rb pb po size:Nat) (t:TypeId) (cs:Array Value) (rest:List UInt8) (hr:jO M w rb rest) (hn:rest.length<size) (hp:w.heap[pb]? =some (.cells cs t (0,0))) (hpo:po<cs.size) (qO:M<=pb) (hne:pb≠rb):
  Calls Tryz.prog 183 #[pt rb, .pointer (some ⟨pb,po,none⟩),I size] w (dD w rb pb t cs):=by
 refine (callsIn_wide (n:=3)).1 ?_;have hro:Fence.wide.round=none:=rfl;have h1:1<=3:=by omega
 have hlt:=hr.lt;have hpl:pb<w.heap.size:=(bV.1 hp).1;have hMl:=hr.lo;have hc0:w.cell? ⟨pb,po,none⟩=some cs[po]:=by rw [cell_of_row w pb po _ _ _ hp];exact Array.getElem?_eq_getElem hpo
 have hf0:w.frozen? ⟨pb,po,none⟩=false:=frozen_of_row w pb po _ _ hp;obtain ⟨WS,hWS⟩:∃W,w.setCell ⟨pb,po,none⟩ (I 0)=W:=⟨_,rfl⟩;have zW:gB pb w WS:=by rw [<-hWS];exact ⟨rfl,rfl,rfl,by simp [World.setCell],fun k _ hk2=>heap_setCell_other _ _ k _ hk2⟩
 have htS:bH w rb pb t (cs.setIfInBounds po (I 0)) WS:=by rw [<-hWS];exact (bH.refl hp).put po (I 0)
 have hsS:pb<WS.heap.size:=by have:=zW.size;omega
 obtain ⟨W1,hW1⟩:∃W,WS.alloc (.cells #[.pointer (some ⟨pb,po,none⟩)] 125)=W:=⟨_,rfl⟩;have hk1:gB pb w W1:=by
  rw [<-hW1];exact ⟨zW.os,zW.tape,zW.output,Nat.le_trans zW.size (by simp),fun k hk hk2=>(Below.heap_alloc WS _ k (dP hk zW.size)).trans (zW.block k hk hk2)⟩
 have ht1:bH w rb pb t (cs.setIfInBounds po (I 0)) W1:=by rw [<-hW1];exact htS.grow (ag WS _) hsS hne
 rw [<-hWS] at hW1;have hr1:jO M W1 rb rest:=hr.of (hk1.block rb hlt (fun e=>hne e.symm)) fun k hk=>hk1.block k (by omega) (by omega);have HT:=ae (xP M W1 rb size rest hr1 hn);have jP:Hid (dD w rb pb t cs (.panicked nJ) W1):=ae ⟨rfl,_,(dO.refl cs).set rfl,ht1⟩;have HW1:=ae hW1;clear hr hr1 hk1 zW hW1 hWS hp htS ht1 hsS;refine callsIn_of_wp_marks Tryz.func183 rfl trivial ?_ hro;simp only [Tryz.ntmps183,List.size_toArray,List.length_cons,List.length_nil,Nat.reduceAdd,Nat.reduceSub,Array.replicate_succ,Array.replicate_zero,List.push_toArray,List.append_toArray,List.nil_append,List.cons_append]
 gi_wp2_with first
  |(refine ⟨trivial,?_⟩;gi_at_call 186;rw [HW1.out];refine (callsIn_wide.2 HT.out).mono ?_;rintro e w2 ⟨rfl,rfl⟩)
 exact jP.out
theorem fE (M:Nat) (w:World) (rb pb po size:Nat) (t:TypeId) (cs:Array Value) (B:List UInt8) (hr:jO M w rb B) (h8:size<=8) (hp:w.heap[pb]? =some (.cells cs t (0,0))) (hpo:po<cs.size) (qO:M<=pb) (hne:pb≠rb):
  Calls Tryz.prog 183 #[pt rb, .pointer (some ⟨pb,po,none⟩),I size] w (cu (pN size B) (dD w rb pb t cs) fun v R=>SL M w rb pb po t cs v R):=by
 by_cases h:size<=B.length
 ·exact (xO M w rb pb po size t cs B hr h8 h hp hpo qO hne).mono fun e w' h1=>cu.yes (GG h) h1
 ·exact (Ej M w rb pb po size t cs B hr (by omega) hp hpo qO hne).mono fun e w' h1=>cu.no (by unfold pN;rw [if_neg h]) h1
theorem oL (M:Nat) (w:World) (rb size:Nat) (m:Int) (B:List UInt8) (hr:jO M w rb B) (h8:size<=8):
  Calls Tryz.prog 182 #[pt rb,I m,I size] w (cu (pN size B) (Zg w) fun v R=>ZY M w rb v R):=by
 by_cases h:size<=B.length
 ·have hl:=hr.lt;have hlo:=hr.lo;have hb:=ag w (.cells #[I 0] 3);have hpl:=heap_alloc_last w (.cells #[I 0] 3);have HC:=ae (xO M (w.alloc (.cells #[I 0] 3)) rb w.heap.size 0 size 3 #[I 0] B (hr.below hb hl) h8 h hpl (by decide) (by omega) (by omega));have HB:=ae hb;obtain ⟨v,hv⟩:∃v,O0 B false size=v:=⟨_,rfl⟩;obtain ⟨R,hR⟩:∃R,B.drop size=R:=⟨_,rfl⟩;refine (show Calls Tryz.prog 182 #[pt rb,I m,I size] w (ZY M w rb v R) from ?_).mono fun e w' h1=>cu.yes (by rw [GG h,hv,hR]) h1;unfold TNum at HC;rw [hv,hR] at HC;clear hr hb hpl hv hR;go_enter Tryz.func182,Tryz.ntmps182;go_wp2_with fail;refine HC.out.mono ?_;rintro e w1 ⟨rfl,hr1,hp1⟩;have hc1:w1.cell? ⟨w.heap.size,0,none⟩=some (I v):=hp1.cell 0;have HR1:=ae hr1;have jP:Hid (gB rb w w1):=ae ⟨hp1.os,hp1.tape,hp1.output,by have:=hp1.size;simp at this;omega,fun k hk hkr=>(hp1.block k (by simp;omega) (by omega) hkr).trans (HB.out.block k hk)⟩;clear hr1 hp1 HC;go_wp2_with fail;go_ret;exact ⟨rfl,HR1.out,jP.out⟩
 ·exact (JU M w rb size m B hr (by omega)).mono fun e w' h1=>cu.no (by unfold pN;rw [if_neg h]) h1
theorem yN (M:Nat) (w:World) (rb pb po:Nat) (t:TypeId) (cs:Array Value) (B:List UInt8) (hr:jO M w rb B) (hp:w.heap[pb]? =some (.cells cs t (0,0))) (hpo:po<cs.size) (qO:M<=pb) (hne:pb≠rb):
  Calls Tryz.prog 184 #[pt rb, .pointer (some ⟨pb,po,none⟩)] w (cu (pO B) (dD w rb pb t cs) fun v R=>SL M w rb pb po t cs v R):=by
 have HC:=ae (fE M w rb pb po 2 t cs B hr (by omega) hp hpo qO hne);clear hr hp;go_enter Tryz.func184,Tryz.ntmps184;go_wp2_with fail;refine HC.out.mono ?_;intro e w1 h;rcases h.get with ⟨hq,hd⟩|⟨u,R,hq,rfl,hr1,hp1⟩
 ·obtain ⟨rfl,hd2⟩:=hd;exact ⟨rfl,cu.no (by unfold pO;rw [hq];rfl) ⟨rfl,hd2⟩⟩
 obtain ⟨n,hn⟩:∃n,IntKind.i16.wrap u=n:=⟨_,rfl⟩;have hn0: -32768<=n:=by rw [<-hn,Fp];omega
 have hn1:n<=32767:=by rw [<-hn,Fp];omega
 have HQ:Hid (pO B=some (n,R)):=ae (by unfold pO;rw [hq,<-hn];rfl);have hc1:w1.cell? ⟨pb,po,none⟩=some (I u):=(hp1.cell po).trans (by simp [hpo]);have hf1:=hp1.fZ po;have HR1:=ae (hr1.put (o:=po) qO hne (I n));have sS:=ae (hp1.put po (I n));clear hr1 hp1 HC h hq;go_wp2_with fail
 go_end0
 exact cu.yes HQ.out ⟨rfl,HR1.out,by have h:=sS.out;rwa [Array.setIfInBounds_setIfInBounds] at h⟩
theorem NI (M:Nat) (w:World) (rb pb po:Nat) (t:TypeId) (cs:Array Value) (b0:Bool) (B:List UInt8) (hr:jO M w rb B) (hp:w.heap[pb]? =some (.cells cs t (0,0))) (hpo:cs[po]? =some (.bool b0)) (qO:M<=pb) (hne:pb≠rb):
  Calls Tryz.prog 181 #[pt rb, .pointer (some ⟨pb,po,none⟩)] w (cu (pF B) (dD w rb pb t cs) fun b R=>TSetR M w rb pb po t cs (.bool b) R):=by
 have hpl:pb<w.heap.size:=(bV.1 hp).1;have hlo:=hr.lo;have hrl:=hr.lt;have hb2:=ag w (.cells #[I 0] 3);have HB2:=ae hb2;have HC:=ae (fE M (w.alloc (.cells #[I 0] 3)) rb w.heap.size 0 1 3 #[I 0] B (hr.below hb2 hrl) (by omega) (heap_alloc_last w _) (by decide) (by omega) (by omega));have HP0:=ae (bH.refl (rb:=rb) hp);have HPO:=ae hpo;clear hr hp hb2 hpo;go_enter Tryz.func181,Tryz.ntmps181;go_wp2_with fail;refine HC.out.mono ?_;intro e w3 h;rcases h.get with ⟨hq,hd⟩|⟨v,R,hq,rfl,hr3,hp3⟩
 ·obtain ⟨rfl,D,hD,hT⟩:=hd;have hs3:=hT.size;rw [World.size_alloc] at hs3;have hk3:gB rb w w3:=⟨hT.os,hT.tape,hT.output,by omega,fun b hb hbr=>(hT.block b (by simp;omega) (by omega) hbr).trans (HB2.out.block b hb)⟩;exact ⟨rfl,cu.no (by unfold pF;rw [hq];rfl) ⟨rfl,cs,dO.refl cs,HP0.out.qZ hk3 hpl hne⟩⟩
 obtain ⟨n,rfl,hn⟩:=rQ hq;have d3:w3.cell? ⟨w.heap.size,0,none⟩=some (I n):=hp3.cell 0;have hs3:=hp3.size;rw [World.size_alloc] at hs3;have hk3:gB rb w w3:=⟨hp3.os,hp3.tape,hp3.output,by omega,fun b hb hbr=>(hp3.block b (by simp;omega) (by omega) hbr).trans (HB2.out.block b hb)⟩;have Gq:bH w rb pb t cs w3:=HP0.out.qZ hk3 (by omega) hne;have e3:w3.cell? ⟨pb,po,none⟩=some (.bool b0):=(Gq.cell po).trans HPO.out;have f3:=Gq.fZ po;obtain ⟨b,hb⟩:∃b,decide (n=1)=b:=⟨_,rfl⟩;have HQ:Hid (pF B=some (b,R)):=ae (by
  unfold pF;rw [hq,<-hb];have h:decide ((n:Int)=1)=decide (n=1):=by
   apply decide_eq_decide.2;omega
  simp [h])
 have xk:=ae (Gq.put po (.bool b));have HR4:=ae (hr3.put (o:=po) qO hne (.bool b));clear hr3 hp3 hk3 Gq HC h hq;by_cases h1:n=1
 ·have hbt:b=true:=by rw [<-hb];simp [h1]
  subst hbt;subst h1;clear hb;go_wp2_with fail
  go_end0
  exact cu.yes HQ.out ⟨rfl,HR4.out,xk.out⟩
 ·have hbt:b=false:=by rw [<-hb];simp [h1]
  have hn1:((n:Int)==1)=false:=by simp;omega
  subst hbt;clear hb;go_wp2_with fail
  go_end0
  exact cu.yes HQ.out ⟨rfl,HR4.out,xk.out⟩
theorem NK (M:Nat) (w:World) (rb pb po:Nat) (t:TypeId) (cs:Array Value) (s0:ByteArray) (B:List UInt8) (hr:jO M w rb B) (hp:w.heap[pb]? =some (.cells cs t (0,0))) (hpo:cs[po]? =some (.string s0)) (qO:M<=pb) (hne:pb≠rb):
  Calls Tryz.prog 185 #[pt rb, .pointer (some ⟨pb,po,none⟩)] w (cu (pT B) (dD w rb pb t cs) fun s R=>TTxtR M w rb pb po t cs (.string s) R):=by
 have hpl:pb<w.heap.size:=(bV.1 hp).1;have HC:=ae (oL M w rb 1 0 B hr (by omega));have HP:=ae hp;have HPO:=ae hpo;clear hr hp hpo;go_enter Tryz.func185,Tryz.ntmps185;go_wp2_with fail;refine HC.out.mono ?_;intro e w1 h;rcases h.get with ⟨hq,hd⟩|⟨v,R,hq,rfl,hr1,hk1⟩
 ·obtain ⟨rfl,hb⟩:=hd;exact ⟨rfl,cu.no (by unfold pT;rw [hq];rfl) ⟨rfl,cs,dO.refl cs,(bH.refl HP.out).grow hb hpl hne⟩⟩
 obtain ⟨n,rfl,hn⟩:=rQ hq;have HQ:=ae hq;have HR1:=ae hr1;have jP:=ae hk1;have hs1:=hk1.size;clear hr1 hk1 HC h hq;go_wp2_with fail;by_cases hlen:n<=R.length
 ·refine (wU M w1 rb n R HR1.out hlen).mono ?_;rintro e w2 ⟨bb,off,c,rfl,hc1,hc2,hbM,hby,hr2,hk2⟩;obtain ⟨s,hs⟩:∃s:ByteArray,(⟨(R.take n).toArray⟩:ByteArray)=s:=⟨_,rfl⟩;have hss:s.size=n:=by rw [<-hs];show (R.take n).toArray.size=n;simp;omega
  have hsd:s.data.toList=R.take n:=by rw [<-hs]
  have jr:Hid (pT B=some (s,R.drop n)):=ae (by
   unfold pT;rw [HQ.out];simp only [Option.bind_some,Int.toNat_natCast];unfold pK;rw [if_pos hlen,hs])
  rw [<-hsd,<-hss] at hby;have hcv:=Ju w2 bb off c s hby;rw [hss] at hcv;have hp2:w2.heap[pb]? =some (.cells cs t (0,0)):=(hk2.block pb (by omega) hne).trans ((jP.out.block pb hpl hne).trans HP.out);have hcp:w2.cell? ⟨pb,po,none⟩=some (.string s0):=(cell_of_row w2 pb po _ _ _ hp2).trans HPO.out;have hfp:=frozen_of_row w2 pb po _ _ hp2;have HR2:=ae (hr2.put (o:=po) qO hne (.string s));have HP2:Hid (bH w rb pb t (cs.setIfInBounds po (.string s)) (w2.setCell ⟨pb,po,none⟩ (.string s))):=ae ((((bH.refl HP.out).qZ jP.out hpl hne).qZ hk2 (by omega) hne).put po (.string s));clear hby hr2 hk2 hp2 hs hss hsd HQ;go_wp2_with fail
  go_end0
  exact cu.yes jr.out ⟨rfl,HR2.out,HP2.out⟩
 ·refine (xP M w1 rb n R HR1.out (by omega)).mono ?_;rintro e w2 ⟨rfl,rfl⟩;exact ⟨rfl,cu.no (by unfold pT;rw [HQ.out];simp only [Option.bind_some,Int.toNat_natCast];unfold pK;rw [if_neg hlen]) ⟨rfl,cs,dO.refl cs,(bH.refl HP.out).qZ jP.out hpl hne⟩⟩
theorem Ei (M:Nat) (w:World) (rb pb po:Nat) (t:TypeId) (cs:Array Value) (B:List UInt8) (hr:jO M w rb B) (h32:B.length<32) (hp:w.heap[pb]? =some (.cells cs t (0,0))):
  Calls Tryz.prog 180 #[pt rb, .pointer (some ⟨pb,po,none⟩)] w (dD w rb pb t cs):=by
 have HC:=ae (xP M w.drew rb 32 B hr.drew h32);have HP:Hid (dD w rb pb t cs (.panicked nJ) w.drew):=ae ⟨rfl,cs,dO.refl cs,(bH.refl hp).drew⟩;clear hr hp h32;go_enter Tryz.func180,Tryz.ntmps180;go_wp2_with fail;refine wp_region_held_drew (S:=fun _=>True) (by kernel_rfl) trivial (fun hH=>?_);refine oI (i:=0) (v:=(.pointer (some ⟨pb,po,none⟩))) (some 4) rfl rfl (by kernel_rfl) (by kernel_rfl) (by kernel_rfl) (fun _ _ _ h=>⟨h.1,h.2⟩) (Or.inl ⟨by rfl,fun W hW=>by go_simp⟩) hH ?_;refine az ?_;refine oI (i:=1) (v:=(.pointer (some ⟨pb,po,none⟩))) (some 5) rfl rfl (by kernel_rfl) (by kernel_rfl) (by kernel_rfl) (fun _ _ _ h=>⟨h.1,h.2⟩) (Or.inl ⟨by rfl,fun W hW=>by go_simp⟩) hH ?_;refine az ?_;refine oI (i:=2) (v:=(.slice (some ⟨pb,po,none⟩) 32 32)) (some 6) rfl rfl (by kernel_rfl) (by kernel_rfl) (by kernel_rfl) (fun _ _ _ h=>⟨h.1,h.2⟩) (Or.inl ⟨by rfl,fun W hW=>by go_simp⟩) hH ?_;refine az ?_;refine oI (i:=3) (v:=(pt rb)) (some 7) rfl rfl (by kernel_rfl) (by kernel_rfl) (by kernel_rfl) (fun _ _ _ h=>⟨h.1,h.2⟩) (Or.inl ⟨by rfl,fun W hW=>by go_simp⟩) hH ?_;refine az ?_;refine aY 4 (fun K hK=>?_);go_simp;go_at_call 186;refine HC.out.mono ?_;rintro e w5 ⟨rfl,rfl⟩;exact BF rfl HP.out
theorem GZ (M:Nat) (w:World) (rb pb po:Nat) (t:TypeId) (cs:Array Value) (B:List UInt8) (hr:jO M w rb B) (hp:w.heap[pb]? =some (.cells cs t (0,0))) (hpo:po+32<=cs.size) (qO:M<=pb) (hne:pb≠rb):
  Calls Tryz.prog 180 #[pt rb, .pointer (some ⟨pb,po,none⟩)] w (cu (pD B) (dD w rb pb t cs) fun xs R e w'=>e= .returned (.tuple #[])/\jO M w' rb R/\bH w rb pb t (putRow cs po (ax xs)) w'):=by
 by_cases h:32<=B.length
 ·have hr':=hr;rw [<-List.take_append_drop 32 B] at hr';exact (JP M w rb pb po t cs (B.take 32) (B.drop 32) hr' (by rw [List.length_take];omega) hp hpo qO hne).mono fun e w' h1=>cu.yes (by unfold pD;rw [if_pos h]) h1
 ·exact (Ei M w rb pb po t cs B hr (by omega) hp).mono fun e w' h1=>cu.no (by unfold pD;rw [if_neg h]) h1
theorem JV (M:Nat) (w:World) (rb pb po:Nat) (t:TypeId) (cs:Array Value) (B:List UInt8) (hr:jO M w rb B) (hp:w.heap[pb]? =some (.cells cs t (0,0))) (hpo:po<cs.size) (qO:M<=pb) (hne:pb≠rb):
  Calls Tryz.prog 104 #[.iface 134 (pt rb), .pointer (some ⟨pb,po,none⟩)] w (cu (pN 1 B) (dD w rb pb t cs) fun v R=>SL M w rb pb po t cs v R):=by
 have HC:=ae (fE M w rb pb po 1 t cs B hr (by omega) hp hpo qO hne);clear hr hp;go_enter Tryz.func104,Tryz.ntmps104;go_wp2_with fail;refine HC.out.mono ?_;intro e w1 h;rcases h.get with ⟨hq,hd⟩|⟨u,R,hq,rfl,hr1⟩
 ·obtain ⟨rfl,hd2⟩:=hd;exact ⟨rfl,cu.no hq ⟨rfl,hd2⟩⟩
 have HQ:=ae hq;have H:=ae hr1;clear hr1 HC h hq;go_wp2_with fail
 go_end0
 exact cu.yes HQ.out ⟨rfl,H.out⟩
theorem YN (M:Nat) (w:World) (rb pb po:Nat) (t:TypeId) (cs:Array Value) (B:List UInt8) (hr:jO M w rb B) (hp:w.heap[pb]? =some (.cells cs t (0,0))) (hpo:po+3<=cs.size) (hb0:cs[po+2]? =some (.bool false)) (qO:M<=pb) (hne:pb≠rb):
  Calls Tryz.prog 106 #[.iface 134 (pt rb), .pointer (some ⟨pb,po,none⟩)] w (cu (Wp B) (dD w rb pb t cs) fun x R=>TItR M w rb pb po t cs (Lr.cells x) R):=by
 have HB0:=ae (show bH w rb pb t cs w from bH.refl hp);have HF0:=ae hb0;have HR0:=ae hr;have HZ0:=ae (dO.refl cs);clear hr hp hb0;go_enter Tryz.func106,Tryz.ntmps106;have FD:=ae (fE M w.drew rb pb (po) 2 t (cs) B HR0.out.drew (by omega) HB0.out.drew.tgt (by rw [HZ0.out.1];omega) qO hne);go_wp2_with fail;go_still_tail 7,(by kernel_rfl);go_wp2_with fail;refine FD.out.mono ?_;intro e w1 h;rcases h.get with ⟨hq,hd⟩|⟨v0,R0,hq,rfl,hr,hp⟩
 ·obtain ⟨rfl,D,hD,hT⟩:=hd;exact ⟨rfl,cu.no (by simp only [Wp,hq,Option.bind_none]) ⟨rfl,D,HZ0.out.trans hD,HB0.out.trans hT.bT⟩⟩
 have sU:=ae hq;have HB1:=ae (HB0.out.trans hp.bT);have HZ1:Hid (dO cs ((cs).setIfInBounds (po) (I v0))):=ae (HZ0.out.set rfl);have HR1:=ae hr;clear hr hp h hq FD HR0 HB0 HZ0;have mG:=ae (fE M w1.drew rb pb (po+1) 2 t ((cs).setIfInBounds (po) (I v0)) R0 HR1.out.drew (by omega) HB1.out.drew.tgt (by rw [HZ1.out.1];omega) qO hne);go_wp2_with fail;go_still_tail 7,(by kernel_rfl);go_wp2_with fail;refine mG.out.mono ?_;intro e w2 h;rcases h.get with ⟨hq,hd⟩|⟨v1,R1,hq,rfl,hr,hp⟩
 ·obtain ⟨rfl,D,hD,hT⟩:=hd;exact ⟨rfl,cu.no (by simp only [Wp,sU.out,hq,Option.bind_some,Option.bind_none]) ⟨rfl,D,HZ1.out.trans hD,HB1.out.trans hT.bT⟩⟩
 have kD:=ae hq;have HB2:=ae (HB1.out.trans hp.bT);have HZ2:Hid (dO cs (((cs).setIfInBounds (po) (I v0)).setIfInBounds (po+1) (I v1))):=ae (HZ1.out.set rfl);have HR2:=ae hr;clear hr hp h hq mG HR1 HB1 HZ1;have HC2:=ae (NI M w2.drew rb pb (po+2) t (((cs).setIfInBounds (po) (I v0)).setIfInBounds (po+1) (I v1)) false R1 HR2.out.drew HB2.out.drew.tgt (by rw [Array.getElem?_setIfInBounds_ne (by omega),Array.getElem?_setIfInBounds_ne (by omega)];exact HF0.out) qO hne);go_wp2_with fail;go_still_tail 7,(by kernel_rfl);go_wp2_with fail;refine HC2.out.mono ?_;intro e w3 h;rcases h.get with ⟨hq,hd⟩|⟨v2,R2,hq,rfl,hr,hp⟩
 ·obtain ⟨rfl,D,hD,hT⟩:=hd;exact ⟨rfl,cu.no (by simp only [Wp,sU.out,kD.out,hq,Option.bind_some,Option.map_none]) ⟨rfl,D,HZ2.out.trans hD,HB2.out.trans hT.bT⟩⟩
 have jr:=ae hq;have HB3:=ae (HB2.out.trans hp.bT);have HZ3:Hid (dO cs ((((cs).setIfInBounds (po) (I v0)).setIfInBounds (po+1) (I v1)).setIfInBounds (po+2) (.bool v2))):=ae (HZ2.out.set rfl);have HR3:=ae hr;clear hr hp h hq HC2 HR2 HB2 HZ2;go_wp2_with fail
 go_end0
 exact cu.yes (a:=⟨v0,v1,v2⟩) (by simp only [Wp,sU.out,kD.out,jr.out,Option.bind_some,Option.map_some]) ⟨rfl,HR3.out,HB3.out⟩
theorem U8 (M:Nat) (w:World) (rb pb po:Nat) (t:TypeId) (cs:Array Value) (B:List UInt8) (hr:jO M w rb B) (hp:w.heap[pb]? =some (.cells cs t (0,0))) (hpo:po+2<=cs.size) (qO:M<=pb) (hne:pb≠rb):
  Calls Tryz.prog 85 #[.iface 134 (pt rb), .pointer (some ⟨pb,po,none⟩)] w (cu (Yo B) (dD w rb pb t cs) fun x R=>TItR M w rb pb po t cs (Tr.cells x) R):=by
 have HB0:=ae (show bH w rb pb t cs w from bH.refl hp);have HR0:=ae hr;have HZ0:=ae (dO.refl cs);clear hr hp;go_enter Tryz.func85,Tryz.ntmps85;have FD:=ae (fE M w.drew rb pb (po) 8 t (cs) B HR0.out.drew (by omega) HB0.out.drew.tgt (by rw [HZ0.out.1];omega) qO hne);go_wp2_with fail;go_still_tail 7,(by kernel_rfl);go_wp2_with fail;refine FD.out.mono ?_;intro e w1 h;rcases h.get with ⟨hq,hd⟩|⟨v0,R0,hq,rfl,hr,hp⟩
 ·obtain ⟨rfl,D,hD,hT⟩:=hd;exact ⟨rfl,cu.no (by simp only [Yo,hq,Option.bind_none]) ⟨rfl,D,HZ0.out.trans hD,HB0.out.trans hT.bT⟩⟩
 have sU:=ae hq;have HB1:=ae (HB0.out.trans hp.bT);have HZ1:Hid (dO cs ((cs).setIfInBounds (po) (I v0))):=ae (HZ0.out.set rfl);have HR1:=ae hr;clear hr hp h hq FD HR0 HB0 HZ0;have mG:=ae (yN M w1.drew rb pb (po+1) t ((cs).setIfInBounds (po) (I v0)) R0 HR1.out.drew HB1.out.drew.tgt (by rw [HZ1.out.1];omega) qO hne);go_wp2_with fail;go_still_tail 7,(by kernel_rfl);go_wp2_with fail;refine mG.out.mono ?_;intro e w2 h;rcases h.get with ⟨hq,hd⟩|⟨v1,R1,hq,rfl,hr,hp⟩
 ·obtain ⟨rfl,D,hD,hT⟩:=hd;exact ⟨rfl,cu.no (by simp only [Yo,sU.out,hq,Option.bind_some,Option.map_none]) ⟨rfl,D,HZ1.out.trans hD,HB1.out.trans hT.bT⟩⟩
 have kD:=ae hq;have HB2:=ae (HB1.out.trans hp.bT);have HZ2:Hid (dO cs (((cs).setIfInBounds (po) (I v0)).setIfInBounds (po+1) (I v1))):=ae (HZ1.out.set rfl);have HR2:=ae hr;clear hr hp h hq mG HR1 HB1 HZ1;go_wp2_with fail
 go_end0
 exact cu.yes (a:=⟨v0,v1⟩) (by simp only [Yo,sU.out,kD.out,Option.bind_some,Option.map_some]) ⟨rfl,HR2.out,HB2.out⟩
theorem YO (M:Nat) (w:World) (rb pb po:Nat) (t:TypeId) (cs:Array Value) (B:List UInt8) (hr:jO M w rb B) (hp:w.heap[pb]? =some (.cells cs t (0,0))) (hpo:po+5<=cs.size) (qO:M<=pb) (hne:pb≠rb):
  Calls Tryz.prog 87 #[.iface 134 (pt rb), .pointer (some ⟨pb,po,none⟩)] w (cu (RI B) (dD w rb pb t cs) fun x R=>TItR M w rb pb po t cs (Yr.cells x) R):=by
 have HB0:=ae (show bH w rb pb t cs w from bH.refl hp);have HR0:=ae hr;have HZ0:=ae (dO.refl cs);clear hr hp;go_enter Tryz.func87,Tryz.ntmps87;have FD:=ae (fE M w.drew rb pb (po) 1 t (cs) B HR0.out.drew (by omega) HB0.out.drew.tgt (by rw [HZ0.out.1];omega) qO hne);go_wp2_with fail;go_still_tail 7,(by kernel_rfl);go_wp2_with fail;refine FD.out.mono ?_;intro e w1 h;rcases h.get with ⟨hq,hd⟩|⟨v0,R0,hq,rfl,hr,hp⟩
 ·obtain ⟨rfl,D,hD,hT⟩:=hd;exact ⟨rfl,cu.no (by simp only [RI,hq,Option.bind_none]) ⟨rfl,D,HZ0.out.trans hD,HB0.out.trans hT.bT⟩⟩
 have sU:=ae hq;have HB1:=ae (HB0.out.trans hp.bT);have HZ1:Hid (dO cs ((cs).setIfInBounds (po) (I v0))):=ae (HZ0.out.set rfl);have HR1:=ae hr;clear hr hp h hq FD HR0 HB0 HZ0;have mG:=ae (fE M w1.drew rb pb (po+1) 1 t ((cs).setIfInBounds (po) (I v0)) R0 HR1.out.drew (by omega) HB1.out.drew.tgt (by rw [HZ1.out.1];omega) qO hne);go_wp2_with fail;go_still_tail 7,(by kernel_rfl);go_wp2_with fail;refine mG.out.mono ?_;intro e w2 h;rcases h.get with ⟨hq,hd⟩|⟨v1,R1,hq,rfl,hr,hp⟩
 ·obtain ⟨rfl,D,hD,hT⟩:=hd;exact ⟨rfl,cu.no (by simp only [RI,sU.out,hq,Option.bind_some,Option.bind_none]) ⟨rfl,D,HZ1.out.trans hD,HB1.out.trans hT.bT⟩⟩
 have kD:=ae hq;have HB2:=ae (HB1.out.trans hp.bT);have HZ2:Hid (dO cs (((cs).setIfInBounds (po) (I v0)).setIfInBounds (po+1) (I v1))):=ae (HZ1.out.set rfl);have HR2:=ae hr;clear hr hp h hq mG HR1 HB1 HZ1;have HC2:=ae (fE M w2.drew rb pb (po+2) 1 t (((cs).setIfInBounds (po) (I v0)).setIfInBounds (po+1) (I v1)) R1 HR2.out.drew (by omega) HB2.out.drew.tgt (by rw [HZ2.out.1];omega) qO hne);go_wp2_with fail;go_still_tail 7,(by kernel_rfl);go_wp2_with fail;refine HC2.out.mono ?_;intro e w3 h;rcases h.get with ⟨hq,hd⟩|⟨v2,R2,hq,rfl,hr,hp⟩
 ·obtain ⟨rfl,D,hD,hT⟩:=hd;exact ⟨rfl,cu.no (by simp only [RI,sU.out,kD.out,hq,Option.bind_some,Option.bind_none]) ⟨rfl,D,HZ2.out.trans hD,HB2.out.trans hT.bT⟩⟩
 have jr:=ae hq;have HB3:=ae (HB2.out.trans hp.bT);have HZ3:Hid (dO cs ((((cs).setIfInBounds (po) (I v0)).setIfInBounds (po+1) (I v1)).setIfInBounds (po+2) (I v2))):=ae (HZ2.out.set rfl);have HR3:=ae hr;clear hr hp h hq HC2 HR2 HB2 HZ2;have xX:=ae (fE M w3.drew rb pb (po+3) 2 t ((((cs).setIfInBounds (po) (I v0)).setIfInBounds (po+1) (I v1)).setIfInBounds (po+2) (I v2)) R2 HR3.out.drew (by omega) HB3.out.drew.tgt (by rw [HZ3.out.1];omega) qO hne);go_wp2_with fail;go_still_tail 7,(by kernel_rfl);go_wp2_with fail;refine xX.out.mono ?_;intro e w4 h;rcases h.get with ⟨hq,hd⟩|⟨v3,R3,hq,rfl,hr,hp⟩
 ·obtain ⟨rfl,D,hD,hT⟩:=hd;exact ⟨rfl,cu.no (by simp only [RI,sU.out,kD.out,jr.out,hq,Option.bind_some,Option.bind_none]) ⟨rfl,D,HZ3.out.trans hD,HB3.out.trans hT.bT⟩⟩
 have yY:=ae hq;have HB4:=ae (HB3.out.trans hp.bT);have Bh:Hid (dO cs (((((cs).setIfInBounds (po) (I v0)).setIfInBounds (po+1) (I v1)).setIfInBounds (po+2) (I v2)).setIfInBounds (po+3) (I v3))):=ae (HZ3.out.set rfl);have HR4:=ae hr;clear hr hp h hq xX HR3 HB3 HZ3;have xZ:=ae (yN M w4.drew rb pb (po+4) t (((((cs).setIfInBounds (po) (I v0)).setIfInBounds (po+1) (I v1)).setIfInBounds (po+2) (I v2)).setIfInBounds (po+3) (I v3)) R3 HR4.out.drew HB4.out.drew.tgt (by rw [Bh.out.1];omega) qO hne);go_wp2_with fail;go_still_tail 7,(by kernel_rfl);go_wp2_with fail;refine xZ.out.mono ?_;intro e w5 h;rcases h.get with ⟨hq,hd⟩|⟨v4,R4,hq,rfl,hr,hp⟩
 ·obtain ⟨rfl,D,hD,hT⟩:=hd;exact ⟨rfl,cu.no (by simp only [RI,sU.out,kD.out,jr.out,yY.out,hq,Option.bind_some,Option.map_none]) ⟨rfl,D,Bh.out.trans hD,HB4.out.trans hT.bT⟩⟩
 have PR:=ae hq;have qU:=ae (HB4.out.trans hp.bT);have HZ5:Hid (dO cs ((((((cs).setIfInBounds (po) (I v0)).setIfInBounds (po+1) (I v1)).setIfInBounds (po+2) (I v2)).setIfInBounds (po+3) (I v3)).setIfInBounds (po+4) (I v4))):=ae (Bh.out.set rfl);have sV:=ae hr;clear hr hp h hq xZ HR4 HB4 Bh;go_wp2_with fail
 go_end0
 exact cu.yes (a:=⟨v0,v1,v2,v3,v4⟩) (by simp only [RI,sU.out,kD.out,jr.out,yY.out,PR.out,Option.bind_some,Option.map_some]) ⟨rfl,sV.out,qU.out⟩
end Go.Proofs.YtbaehbbonkljpaaGreatDoor
namespace Go.Proofs.YtbaehbbonkljpaaGreatDoor
open Go Go.RowKit
attribute [local go_sem] dI dM dJ dN fM fO dG dK dH dL jd je
def kM (xs:List Value) (o:Nat):List Value->List Value
 | []=>xs
 |v::vs=>kM (xs.set o v) (o+1) vs
theorem zB:∀(vs:List Value) (cs:Array Value) (o m:Nat),(iR cs o vs).toList.take m=kM (cs.toList.take m) o vs
 | [],_,_,_=>rfl
 |v::vs,cs,o,m=>by
  unfold iR kM;rw [zB vs,Array.toList_setIfInBounds,List.take_set]
theorem uC:∀(vs:List Value) (cs:Array Value) (o:Nat),(iR cs o vs).size=cs.size
 | [],_,_=>rfl
 |v::vs,cs,o=>by
  unfold iR;rw [uC vs,Array.size_setIfInBounds]
theorem zA:∀(vs xs:List Value) (o:Nat),(kM xs o vs).length=xs.length
 | [],_,_=>rfl
 |v::vs,xs,o=>by
  unfold kM;rw [zA vs,List.length_set]
theorem qC (vs ls z:List Value) (h:z.length=vs.length):kM (ls++z) ls.length vs=ls++vs:=by
 induction vs generalizing ls z with
 |nil=>
  rw [List.eq_nil_of_length_eq_zero h];rfl
 |cons v vs ih=>
  obtain ⟨u,z',rfl⟩:∃u z',z=u::z':=by
   cases z with
   |nil=>simp at h
   |cons u z'=>exact ⟨u,z',rfl⟩
  unfold kM;have h2:=ih (ls++ [v]) z' (by simpa using h);rw [bF,List.length_singleton] at h2;rw [List.set_append_right _ _ (Nat.le_refl _),Nat.sub_self,List.set_cons_zero];simpa using h2
theorem Ak {W W':World} {lo e size g n m cap rb o:Nat} {xs vs:List Value} {cur:Array Value} (h:W.ownsRow lo e size (.slice (some ⟨g,0,none⟩) n cap) m xs) (hg:W.heap[g]? =some (.cells cur e (0,0))) (hp:bH W rb g e (iR cur o vs) W'):
  W'.ownsRow lo e size (.slice (some ⟨g,0,none⟩) n cap) m (kM xs o vs):=by
 obtain ⟨cur',h1,h2,h3,h4,h5,h6,h7,rfl⟩:=lT h;rw [hg] at h1;injection h1 with h1;injection h1 with h1;subst h1;exact Nj hp.tgt h2 h3 h4 (by rw [uC];exact h5) (by rw [zB,h6]) (by rw [zA];exact h7)
def Xt (M:Nat) (w:World) (rb pb po:Nat) (t:TypeId) (cs:Array Value) (E s:Nat) (ls:List Value) (n:Nat) (R:List UInt8) (e:Ending) (w':World):Prop:=
 e= .returned (.tuple #[])/\∃A c,jO M w' rb R/\bH w rb pb t (cs.setIfInBounds po (.slice A n c)) w'/\w'.ownsRow w.heap.size E s (.slice A n c) n ls/\(n=0->A=none/\c=0)
end Go.Proofs.YtbaehbbonkljpaaGreatDoor
