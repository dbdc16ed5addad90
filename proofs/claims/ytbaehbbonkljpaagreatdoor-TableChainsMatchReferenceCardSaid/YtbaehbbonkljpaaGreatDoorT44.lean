/- The texts Fd, Lk, Ll, Lm, Wq, in this order. -/
import Derived.Lib.AppendZerosOnto
import Derived.Test.YtbaehbbonkljpaaGreatDoorT41
set_option maxRecDepth 10000
set_option maxHeartbeats 8000000
namespace Go.Proofs.YtbaehbbonkljpaaGreatDoor
open Go Go.RowKit
structure apI (t:Tb):Prop where
 i0:0<=t.J5
 v0:0<=t.version/\t.version<=64
 w0:0<=t.JU
 prev:t.prev.length=32
 Ku:t.Ku.length=32
 bad:16<=t.J5\/t.version<1\/t.version<=t.JU\/(t.version=1/\¬t.prev=KA)
theorem aaZ (zs:ag L9)(K k:Nat)(h:k<=K):NG (zs.take K) k=NG zs k:=by
 cases k with
 |zero=>rfl
 |succ k=>
  show((zs.take K)[k]?.map (·.e.name)).getD ⟨#[]⟩=_;rw[dK (by omega)];rfl
theorem OV.take {zs:ag L9}(h:OV zs)(K:Nat):OV (zs.take K):=by
 intro k x hx;have hk:k<K:=by
  have:=(MF.1 hx).1;rw[bn] at this;omega
 rw[dK hk] at hx;rw[aaZ zs K k (by omega)];exact h k x hx
theorem Yz.head {x y:Kv}(h:Yz x y)(hx:RV x):RV y\/apI y.t:=by
 obtain⟨hg,hu⟩:=hx;have hv0:0<=x.t.version:=by have:=hg.version.1;omega
 cases h with
 |J5 v h0 h1=>
  by_cases h2:v<16
  ·exact .inl ⟨⟨⟨h0,h2⟩,hg.version,hg.JU,hg.prev,hg.Ku,hg.first,hg.num,hg.good,hg.short⟩,hu⟩
  ·exact .inr ⟨h0,⟨hv0,hg.version.2⟩,hg.JU.1,hg.prev,hg.Ku,.inl (by show 16<=v;omega)⟩
 |version v h0 h1=>
  by_cases h2:1<=v/\x.t.JU<v/\(v=1->x.t.prev=KA)
  ·exact .inl ⟨⟨hg.J5,⟨h2.1,by show v<=64;omega⟩,⟨hg.JU.1,h2.2.1⟩,hg.prev,hg.Ku,h2.2.2,hg.num,hg.good,hg.short⟩,hu⟩
  ·refine .inr ⟨hg.J5.1,⟨h0,by show v<=64;omega⟩,hg.JU.1,hg.prev,hg.Ku,?_⟩;show 16<=x.t.J5\/v<1\/v<=x.t.JU\/(v=1/\¬x.t.prev=KA);by_cases a:1<=v
   ·by_cases b:x.t.JU<v
    ·refine .inr (.inr (.inr ?_));by_cases c:v=1
     ·exact⟨c,fun d=>h2 ⟨a,b,fun _=>d⟩⟩
     ·exact absurd ⟨a,b,fun d=>absurd d c⟩ h2
    ·exact .inr (.inr (.inl (by omega)))
   ·exact .inr (.inl (by omega))
 |JU v h0 h1=>
  by_cases h2:v<x.t.version
  ·exact .inl ⟨⟨hg.J5,hg.version,⟨h0,h2⟩,hg.prev,hg.Ku,hg.first,hg.num,hg.good,hg.short⟩,hu⟩
  ·exact .inr ⟨hg.J5.1,⟨hv0,hg.version.2⟩,h0,hg.prev,hg.Ku,.inr (.inr (.inl (by show x.t.version<=v;omega)))⟩
 |prev j u hj=>
  have hl:(x.t.prev.set j u).length=32:=by rw[eu];exact hg.prev
  by_cases h2:x.t.version=1->x.t.prev.set j u=KA
  ·exact .inl ⟨⟨hg.J5,hg.version,hg.JU,hl,hg.Ku,h2,hg.num,hg.good,hg.short⟩,hu⟩
  ·refine .inr ⟨hg.J5.1,⟨hv0,hg.version.2⟩,hg.JU.1,hl,hg.Ku,.inr (.inr (.inr ?_))⟩;by_cases a:x.t.version=1
   ·exact⟨a,fun d=>h2 fun _=>d⟩
   ·exact absurd (fun d=>absurd d a) h2
 |Ku j u hj=>exact .inl ⟨⟨hg.J5,hg.version,hg.JU,hg.prev,by show(x.t.Ku.set j u).length=32;rw[eu];exact hg.Ku,hg.first,hg.num,hg.good,hg.short⟩,hu⟩
 |JX k hk=>
  exact .inl ⟨⟨hg.J5,hg.version,hg.JU,hg.prev,hg.Ku,hg.first,by show(x.t.JX.take k).length<=128;rw[bn];have:=hg.num;omega,fun e he=>hg.good e (dP he),fun e he=>hg.short e (dP he)⟩,hu.take k⟩
theorem Yz.same {x y:Kv}(h:Yz x y)(hx:RV x)(hn:x.t.JX=x.zs.map (·.e))(he:ZP x.t=ZP y.t):y=x:=by
 obtain⟨hg,hu⟩:=hx;have q1:=hg.J5;have q2:=hg.version;have q3:=hg.JU;have q4:=hg.num;cases h with
 |J5 v h0 h1=>
  have e:=aiA (t:=x.t) (v:=v) ⟨by omega,by omega⟩ ⟨h0,by omega⟩ he;subst e;rfl
 |version v h0 h1=>
  have e:=afU (t:=x.t) (v:=v) ⟨by omega,by omega⟩ ⟨h0,by omega⟩ he;subst e;rfl
 |JU v h0 h1=>
  have e:=acr (t:=x.t) (v:=v) ⟨by omega,by omega⟩ ⟨h0,by omega⟩ he;subst e;rfl
 |prev j u hj=>
  have e:=an8 (t:=x.t) (p:=x.t.prev.set j u) hg.prev (by rw[eu];exact hg.prev) he;show(⟨{x.t with prev:=x.t.prev.set j u},x.A,x.c,x.zs⟩:Kv)=x;rw[e]
 |Ku j u hj=>
  have e:=ass (t:=x.t) (m:=x.t.Ku.set j u) he;show(⟨{x.t with Ku:=x.t.Ku.set j u},x.A,x.c,x.zs⟩:Kv)=x;rw[e]
 |JX k hk=>
  have e:=ak5 (t:=x.t) (k:=k) (by omega) he;have e2:x.zs.take k=x.zs:=by
   have h1:=dA List.length e;rw[bn,hn,aI] at h1;exact aU (by omega)
  show(⟨{x.t with JX:=x.t.JX.take k},x.A,x.c,x.zs.take k⟩:Kv)=x;rw[e,e2]
def aba (ts os:ag Kv):Prop:=os=ts\/∃(i:Nat) (x y:Kv),ts[i]? =some x/\Yz x y/\os=ts.set i y
theorem aba.len {ts os:ag Kv}(h:aba ts os):os.length=ts.length:=by
 rcases h with rfl|⟨i,x,y,_,_,rfl⟩
 ·rfl
 ·rw[eu]
theorem aba.good {ts os:ag Kv}(h:aba ts os)(hg:∀x∈ts,RV x):(∀x∈os,RV x)\/∃(i:Nat) (y:Kv),os[i]? =some y/\apI y.t/\∀j,j<i->os[j]? =ts[j]? :=by
 rcases h with rfl|⟨i,x,y,hx,hm,rfl⟩
 ·exact .inl hg
 ·have hi:=(MF.1 hx).1;rcases hm.head (hg x (LQ hx)) with h1|h1
  ·refine .inl fun z hz=>?_;rcases jY hz with h2|h2
   ·exact hg z h2
   ·exact h2▸h1
  ·exact .inr ⟨i,y,by rw[iJ hi],h1,fun j hj=>by rw[gQ (by omega)]⟩
theorem aba.same {ts os:ag Kv}(h:aba ts os)(hg:∀x∈ts,RV x)(hn:∀x∈ts,x.t.JX=x.zs.map (·.e))(hl:∀(i:Nat) (x y:Kv),ts[i]? =some x->os[i]? =some y->ZP x.t=ZP y.t):os=ts:=by
 rcases h with rfl|⟨i,x,y,hx,hm,rfl⟩
 ·rfl
 ·have hi:=(MF.1 hx).1;have e:=hm.same (hg x (LQ hx)) (hn x (LQ hx)) (hl i x y hx (by rw[iJ hi]));rw[e];refine lU fun j=>?_;by_cases hj:i=j
  ·subst hj;rw[iJ hi,hx]
  ·rw[gQ hj]
def z0:Zn:=⟨⟨0,[3], -1,[]⟩,60,[],0,[]⟩
def zs0 (mb:Nat):Zs:=⟨some ⟨mb,0,none⟩,1,none,0,none,0,none,0⟩
def XX:Ze:=⟨⟨#[97]⟩,z0⟩
def vt (n wd:Int)(b:Bool):Tb:=⟨2,n,wd,KA,KA,if b then [XX] else []⟩
def azS (w:ae)(e:Ending)(w':ae):Prop:=∃mb,w.heap.size<=mb/\e=.returned (.agg (JV z0 (zs0 mb)))/\w'.heap[mb]? =some (.cells #[I 3] 3 (0,0))/\ai w.heap.size w w'
def av7 (w:ae)(n wd:Int)(b:Bool)(e:Ending)(w':ae):Prop:=
 ∃A c ys,e=.returned (.agg (JK (vt n wd b) (.slice A ys.length c)))/\OI w.heap.size w' (.slice A ys.length c) ys/\ys.map (·.e)=(vt n wd b).JX/\ai w.heap.size w w'
theorem axd {lo mb:Nat}{w:ae}(h:w.heap[mb]? =some (.cells #[I 3] 3 (0,0)))(hl:lo<=mb):LI lo w (some ⟨mb,0,none⟩) [3]:=
 .inr ⟨mb,0,rfl,hl,(KY.1 h).1,fun j hj=>by
  have e:j=0:=by simp at hj;omega
  subst e;exact aC w mb 0 _ _ _ h⟩
theorem ao5 {lo g mb:Nat}{w:ae}(hg:w.heap[g]? =some (.cells (⟨XX,zs0 mb⟩:L9).cells 76 (0,0)))(hl:lo<=g)(hm:w.heap[mb]? =some (.cells #[I 3] 3 (0,0)))(hm2:lo<=mb):OI lo w (.slice (some ⟨g,0,none⟩) 1 1) [⟨XX,zs0 mb⟩]:=
 ⟨⟨rfl,.inr ⟨g,1,_,rfl,hl,hg,ay _,by unfold maxLen;omega,rfl,rfl⟩⟩,fun x hx=>by rw[aY.1 hx];exact axd hm hm2,fun x hx=>by rw[aY.1 hx];exact⟨⟨rfl,rfl⟩,⟨rfl,rfl⟩,⟨rfl,rfl⟩⟩,fun h=>by cases h⟩
theorem ao4 (lo:Nat)(w:ae):OI lo w (.slice none 0 0) []:=⟨dD _ _ _ _,(fun _ h=>nomatch h),(fun _ h=>nomatch h),fun _=>rfl⟩
theorem ahJ:Tz z0:=⟨⟨⟨by decide,by decide⟩,⟨by decide,by decide⟩,rfl,rfl,fun m hm=>by rw[aY.1 hm];decide⟩,⟨by decide,by decide⟩,rfl,⟨by decide,by decide⟩,rfl⟩
theorem aoR (n wd:Int)(b:Bool)(h1:1<=n)(h2:n<=64)(h3:0<=wd)(h4:wd<n):RY (vt n wd b):=by
 refine⟨⟨show(0:Int)<=2 by decide,show(2:Int)<16 by decide⟩,⟨h1,h2⟩,⟨h3,h4⟩,rfl,rfl,fun _=>rfl,by cases b<;>exact jg rfl,fun e he=>?_,fun e he=>?_⟩
 ·cases b with
  |false=>cases he
  |true=>rw[aY.1 he];exact ahJ
 ·cases b with
  |false=>cases he
  |true=>rw[aY.1 he];decide
theorem XU {lo:Nat}{w:ae}{n wd:Int}{b:Bool}{A:aj Addr}{c:Nat}{ys:ag L9}(h:OI lo w (.slice A ys.length c) ys)(he:ys.map (·.e)=(vt n wd b).JX):Ld w w.heap.size ⟨vt n wd b,A,c,ys⟩:=by
 refine⟨he.symm,rfl,rfl,⟨JS.Le h.row,fun x hx=>?_⟩⟩;have h0:x.e=XX:=by
  have hm:x.e∈(vt n wd b).JX:=by rw[<-he];exact fM hx
  cases b with
  |false=>cases hm
  |true=>exact aY.1 hm
 have hz:x.e.z=z0:=by rw[h0];rfl
 refine⟨?_,?_,?_,?_⟩
 ·have hl:=h.JQ x hx;rcases hl with hl|⟨b2,off,e1,_,h2,h3⟩
  ·exact .inl (by rw[aI];exact hl)
  ·refine .inr ⟨b2,off,e1,h2,fun j u hu=>?_⟩;rw[aJ] at hu;cases hj:x.e.z.cal.JQ[j]? with
   |none=>rw[hj] at hu;cases hu
   |some m=>
    rw[hj] at hu;injection hu with hu;rw[h3 j (MF.1 hj).1,hj,<-hu];rfl
 ·rw[hz];exact .inl rfl
 ·rw[hz];exact .inl rfl
 ·rw[hz];exact .inl rfl
theorem alJ (w:ae):Calls Tryz.prog 44 #[] w (azS w):=by
 go_enter Tryz.func44,Tryz.ntmps44;have h1:AV w.heap.size 69 OQ (w.alloc (.cells OQ 69)):=AV.new w _ _;have h2:=h1.below (JM _ (.cells #[I 3] 3));have h3:AV (w.heap.size+1) 3 #[I 3] ((w.alloc (.cells OQ 69)).alloc (.cells #[I 3] 3)):=⟨bW w _ _⟩;have H2:=JJ h2;have H3:=JJ h3;clear h1 h2 h3;go_wp2_with(first
  |((with_reducible refine Kz 69 ?_);refine Ll rfl _ rfl OQ (by kernel_rfl) ?_)
  |((with_reducible refine KZ 69 ?_);refine aB rfl _ _ _ rfl w.heap.size (JV z0 (zs0 (w.heap.size+1))) rfl rfl 69 OQ H2.out.var (by kernel_rfl) rfl (by kernel_rfl) ?_))
 refine aX (v:=.agg (JV z0 (zs0 (w.heap.size+1)))) (dH rfl _ _ w.heap.size _ (JV z0 (zs0 (w.heap.size+1))) (0,0) _ rfl (aQ _ _ _ _ _ _ H2.out.var) cu rfl (by kernel_rfl)) rfl ?_;exact⟨w.heap.size+1,bV _,rfl,(cZ _ _ _ _ (by omega)).trans H3.out.var,JR (JL (JM w _) (JM _ _)) (ay _) _⟩
theorem ai6 (n wd:Int)(w:ae):Calls Tryz.prog 23 #[I n,I wd,.bool false] w (av7 w n wd false):=by
 obtain⟨T,hT⟩:∃T,vt n wd false=T:=⟨_,rfl⟩;have hTp:T.prev.length=32:=by rw[<-hT];rfl
 have hTm:T.Ku.length=32:=by rw[<-hT];rfl
 have HT:=JJ hT;have H1:Hid (AV w.heap.size 26 (JK J8 (.slice none 0 0)) (((w.alloc (.cells (JK J8 (.slice none 0 0)) 26)).alloc (.cells (JK J8 (.slice none 0 0)) 26)).setRow (w.heap.size+1) (JK T (.slice none 0 0)))):=JJ ⟨(cZ _ _ _ _ (by omega)).trans (dJ w _ _)⟩;have H2:Hid (AV (w.heap.size+1) 26 (JK T (.slice none 0 0)) (((w.alloc (.cells (JK J8 (.slice none 0 0)) 26)).alloc (.cells (JK J8 (.slice none 0 0)) 26)).setRow (w.heap.size+1) (JK T (.slice none 0 0)))):=JJ ⟨aQ _ _ _ _ _ _ (bW w _ _)⟩;have HB1:Hid (ai w.heap.size w (((w.alloc (.cells (JK J8 (.slice none 0 0)) 26)).alloc (.cells (JK J8 (.slice none 0 0)) 26)).setRow (w.heap.size+1) (JK T (.slice none 0 0)))):=JJ (JR (JL (JM w _) (JM _ _)) (bV _) _);have L6:Hid (∀v,(Tryz.prog.info? 26).map (·.size)=some (JK T v).size):=JJ fun v=>Ky _ v hTp hTm;have WV:Hid (∀v,(JK J8 (.slice none 0 0)).size=(JK T v).size):=JJ fun v=>(Kq J8 _ rfl rfl).trans (Kq T v hTp hTm).symm;clear hT hTp hTm;go_enter Tryz.func23,Tryz.ntmps23;go_upto_region 2 with (first
  |((with_reducible refine Kz 26 ?_);refine JW rfl _ rfl (JK J8 (.slice none 0 0)) KQ ?_)
  |((with_reducible refine LY 26 ?_);refine KE rfl _ rfl (JK T (.slice none 0 0)) (by rw[<-HT.out];kernel_rfl) ?_)
  |((with_reducible refine KZ 26 ?_);refine aB rfl _ _ _ rfl (w.heap.size+1) (JK T (.slice none 0 0)) (dA (fun b=>Value.pointer (some ⟨b,0,none⟩)) (RZ w _)) rfl 26 (JK J8 (.slice none 0 0)) (bW w _ _) (L6.out _) (WV.out _) (J9 _ _ _ _) ?_))
 generalize ((w.alloc (.cells (JK J8 (.slice none 0 0)) 26)).alloc (.cells (JK J8 (.slice none 0 0)) 26)).setRow (w.heap.size+1) (JK T (.slice none 0 0))=W1 at H1 H2 HB1⊢;have hw1:=H2.out.lt;refine KG ?_
 (try rw[RZ w])
 go_wp2_with(first
  |((with_reducible refine KO 26 ?_);refine J3 rfl _ _ rfl (w.heap.size+1) rfl (JK T (.slice none 0 0)) H2.out.Nc _ az rfl (L6.out _) ?_)
  |((with_reducible refine KZ 26 ?_);refine aB rfl _ _ _ rfl w.heap.size (JK T (.slice none 0 0)) rfl rfl 26 (JK J8 (.slice none 0 0)) H1.out.var (L6.out _) (WV.out _) (J9 _ _ _ _) ?_))
 refine aX (v:=.agg (JK T (.slice none 0 0))) (dH rfl _ _ w.heap.size _ (JK T (.slice none 0 0)) (0,0) _ rfl (aQ _ _ _ _ _ _ H1.out.var) az rfl (L6.out _)) rfl ?_;exact⟨none,0,[],by rw[HT.out];rfl,ao4 _ _,rfl,JR HB1.out (ay _) _⟩
theorem abO (n wd:Int)(w:ae):Calls Tryz.prog 23 #[I n,I wd,.bool true] w (av7 w n wd true):=by
 obtain⟨T,hT⟩:∃T,vt n wd false=T:=⟨_,rfl⟩;have hTp:T.prev.length=32:=by rw[<-hT];rfl
 have hTm:T.Ku.length=32:=by rw[<-hT];rfl
 have HT:=JJ hT;have H1:Hid (AV w.heap.size 26 (JK J8 (.slice none 0 0)) (((w.alloc (.cells (JK J8 (.slice none 0 0)) 26)).alloc (.cells (JK J8 (.slice none 0 0)) 26)).setRow (w.heap.size+1) (JK T (.slice none 0 0)))):=JJ ⟨(cZ _ _ _ _ (by omega)).trans (dJ w _ _)⟩;have H2:Hid (AV (w.heap.size+1) 26 (JK T (.slice none 0 0)) (((w.alloc (.cells (JK J8 (.slice none 0 0)) 26)).alloc (.cells (JK J8 (.slice none 0 0)) 26)).setRow (w.heap.size+1) (JK T (.slice none 0 0)))):=JJ ⟨aQ _ _ _ _ _ _ (bW w _ _)⟩;have HB1:Hid (ai w.heap.size w (((w.alloc (.cells (JK J8 (.slice none 0 0)) 26)).alloc (.cells (JK J8 (.slice none 0 0)) 26)).setRow (w.heap.size+1) (JK T (.slice none 0 0)))):=JJ (JR (JL (JM w _) (JM _ _)) (bV _) _);have L6:Hid (∀v,(Tryz.prog.info? 26).map (·.size)=some (JK T v).size):=JJ fun v=>Ky _ v hTp hTm;have WV:Hid (∀v,(JK J8 (.slice none 0 0)).size=(JK T v).size):=JJ fun v=>(Kq J8 _ rfl rfl).trans (Kq T v hTp hTm).symm;clear hT hTp hTm;go_enter Tryz.func23,Tryz.ntmps23;go_upto_region 2 with (first
  |((with_reducible refine Kz 26 ?_);refine JW rfl _ rfl (JK J8 (.slice none 0 0)) KQ ?_)
  |((with_reducible refine LY 26 ?_);refine KE rfl _ rfl (JK T (.slice none 0 0)) (by rw[<-HT.out];kernel_rfl) ?_)
  |((with_reducible refine KZ 26 ?_);refine aB rfl _ _ _ rfl (w.heap.size+1) (JK T (.slice none 0 0)) (dA (fun b=>Value.pointer (some ⟨b,0,none⟩)) (RZ w _)) rfl 26 (JK J8 (.slice none 0 0)) (bW w _ _) (L6.out _) (WV.out _) (J9 _ _ _ _) ?_))
 generalize ((w.alloc (.cells (JK J8 (.slice none 0 0)) 26)).alloc (.cells (JK J8 (.slice none 0 0)) 26)).setRow (w.heap.size+1) (JK T (.slice none 0 0))=W1 at H1 H2 HB1⊢;have hw1:=H2.out.lt;refine KG ?_
 (try rw[RZ w])
 go_wp2_with fail;refine(alJ W1).mono ?_;rintro e w2 ⟨mb,hmb,rfl,hm2,hb2⟩;rw[show JV z0 (zs0 mb)= #[I 0,.slice (some ⟨mb,0,none⟩) 1 1,I (-1),.slice none 0 0,I 60,.slice none 0 0,I 0,.slice none 0 0] from rfl];have h1:=H1.out.below hb2;have h2:=H2.out.below hb2;have HB2:=JJ (JL HB1.out hb2);have hl2:W1.heap.size<=w2.heap.size:=hb2.size;have hml:mb<w2.heap.size:=(KY.1 hm2).1;have hbv:=JM w2 (.cells #[.string ⟨#[97]⟩,I 0,.slice (some ⟨mb,0,none⟩) 1 1,I (-1),.slice none 0 0,I 60,.slice none 0 0,I 0,.slice none 0 0] 76);have h1':=(h1.below hbv).far (g:=w.heap.size+1) (by omega) 3 (.slice (some ⟨w2.heap.size,0,none⟩) 1 1);have h2':=(h2.below hbv).put 3 (.slice (some ⟨w2.heap.size,0,none⟩) 1 1);rw[Rf] at h2';have c3:(w2.alloc (.cells #[.string ⟨#[97]⟩,I 0,.slice (some ⟨mb,0,none⟩) 1 1,I (-1),.slice none 0 0,I 60,.slice none 0 0,I 0,.slice none 0 0] 76)).cell? ⟨w.heap.size+1,3,none⟩=some (.slice none 0 0):=((h2.below hbv).cell 3).trans (LD _ _);have f3:(w2.alloc (.cells #[.string ⟨#[97]⟩,I 0,.slice (some ⟨mb,0,none⟩) 1 1,I (-1),.slice none 0 0,I 60,.slice none 0 0,I 0,.slice none 0 0] 76)).frozen? ⟨w.heap.size+1,3,none⟩=false:=(h2.below hbv).Oo 3;have HO:Hid (OI (w.heap.size+1) ((w2.alloc (.cells #[.string ⟨#[97]⟩,I 0,.slice (some ⟨mb,0,none⟩) 1 1,I (-1),.slice none 0 0,I 60,.slice none 0 0,I 0,.slice none 0 0] 76)).setCell ⟨w.heap.size+1,3,none⟩ (.slice (some ⟨w2.heap.size,0,none⟩) 1 1)) (.slice (some ⟨w2.heap.size,0,none⟩) 1 1) [⟨XX,zs0 mb⟩]):=JJ (ao5 ((aN _ ⟨w.heap.size+1,3,none⟩ _ _ (by show w2.heap.size≠w.heap.size+1;omega)).trans (aF w2 _)) (by omega) ((aN _ ⟨w.heap.size+1,3,none⟩ _ _ (by show mb≠w.heap.size+1;omega)).trans ((hbv.block _ hml).trans hm2)) (by omega));have HB3:Hid (ai w.heap.size w ((w2.alloc (.cells #[.string ⟨#[97]⟩,I 0,.slice (some ⟨mb,0,none⟩) 1 1,I (-1),.slice none 0 0,I 60,.slice none 0 0,I 0,.slice none 0 0] 76)).setCell ⟨w.heap.size+1,3,none⟩ (.slice (some ⟨w2.heap.size,0,none⟩) 1 1))):=JJ ((JL HB2.out hbv).setCell (p:=⟨w.heap.size+1,3,none⟩) (show w.heap.size<=w.heap.size+1 by omega) _);clear H1 H2 h1 h2 hm2 hb2 HB1 hbv;have H1:=JJ h1';have H2:=JJ h2';clear h1' h2';go_wp2_with(first
  |((with_reducible refine KO 26 ?_);refine J3 rfl _ _ rfl (w.heap.size+1) rfl (JK T (.slice (some ⟨w2.heap.size,0,none⟩) 1 1)) H2.out.Nc _ az rfl (L6.out _) ?_)
  |((with_reducible refine KZ 26 ?_);refine aB rfl _ _ _ rfl w.heap.size (JK T (.slice (some ⟨w2.heap.size,0,none⟩) 1 1)) rfl rfl 26 (JK J8 (.slice none 0 0)) H1.out.var (L6.out _) (WV.out _) (J9 _ _ _ _) ?_))
 refine aX (v:=.agg (JK T (.slice (some ⟨w2.heap.size,0,none⟩) 1 1))) (dH rfl _ _ w.heap.size _ (JK T (.slice (some ⟨w2.heap.size,0,none⟩) 1 1)) (0,0) _ rfl (aQ _ _ _ _ _ _ H1.out.var) az rfl (L6.out _)) rfl ?_;exact⟨some ⟨w2.heap.size,0,none⟩,1,[⟨XX,zs0 mb⟩],by rw[<-HT.out];rfl,(HO.out.Kr (by simp[World.setRow]) fun k h1 h2=>cZ _ _ k _ (by omega)).lower (bV _),rfl,JR HB3.out (ay _) _⟩
section
attribute [local go_sem] NT NU OH LD
theorem UE (k:Nat):Builtin.zeroCells (Value.cells (.int .u8 0)) k=(List.replicate k (Value.int .u8 0)).toArray:=by
 apply Array.ext
 ·simp[Builtin.zeroCells,Value.cells]
 ·intro i h1 h2;have e:i%1=0:=qK i;simp[Builtin.zeroCells,Value.cells,e]
theorem aa1 (w:ae)(ty:TypeId)(lo n c k:Nat)(A:aj Addr)(bs:ag au)(hown:Rh lo w A n c bs)(h0:0<n)(hk:0<k)(hn:n+k<=1000000)(hbase:lo<=w.heap.size):
  ∃A' c' w',(Builtin.append_ #[55,3] ty #[.slice A n c,.int .i64 (k:Int)]).run Tryz.prog w=.ok (.slice A' (n+k) c') w'/\Rh lo w' A' (n+k) c' (bs++List.replicate k 0)/\Vu (.slice A n c) w (.slice A' (n+k) c') w':=by
 obtain⟨i0,hi,hz0,hz1,hz2⟩:=dN Qb;have hl:bs.length=n:=by have:=hown.1;rw[aI] at this;omega
 rcases hown.2 with ⟨_,h⟩|⟨g,cap,cur,hv,hg,hh,hnc,hcm,hcs,htk⟩
 ·omega
 injection hv with hA _ hC;subst hA hC;have hcsz:cur.size=c:=by rw[hcs,fA]
 have hnews:(List.replicate k (Value.int .u8 0)).length=k:=gz;have hcell:(List.replicate k (0:au)).map Extern.Stop.cell=List.replicate k (Value.int .u8 0):=by rw[oQ];rfl
 by_cases hroom:n+k<=c
 ·have hst:=run_storeCells_at Tryz.prog g (n*i0.size) 5 (List.replicate k (Value.int .u8 0)) 0 cur w hh (by rw[hz1,hnews,hcsz];omega) (fun u hu=>by rw[(List.mem_replicate.1 hu).2];rfl);simp only[jX] at hst;have hw:IntKind.i64.wrap (k:Int)=k:=by rw[aA];omega
  have hneg:¬((k:Int)<0):=by omega
  have hkz:¬(k*i0.size=0):=by rw[hz1];omega
  have h48:¬(281474976710656<(k:Int)*(i0.bytes:Int)):=by rw[hz2];omega
  have hrun:(Builtin.append_ #[55,3] ty #[.slice (some ⟨g,0,none⟩) n c,.int .i64 (k:Int)]).run Tryz.prog w=.ok (.slice (some ⟨g,0,none⟩) (n+k) c) (w.setRow g (cur.toList.take (n*i0.size)++List.replicate k (Value.int .u8 0)++cur.toList.drop (n*i0.size+(List.replicate k (Value.int .u8 0)).length)).toArray):=by
   simp[Builtin.append_,run_underlying Tryz.underlying55,run_underlying Tryz.underlying3,sizeOf,typeInfo,zeroValue,hi,hz0,asInt,asIntOf,hw,hneg,hkz,h48,hroom,UE,Addr.add_lit,hst]
  rw[hz1,fA,hnews] at hrun;rw[fA] at htk;refine⟨_,_,_,hrun,⟨by rw[aI,KN,gz,hl,fA],.inr ⟨g,c,_,rfl,hg,aQ w g cur _ _ _ hh,hroom,hcm,?_,?_⟩⟩,⟨rfl,rfl,rfl,by simp[World.setRow],fun b _ hb=>cZ w g b _ (fun e=>hb (by rw[e];rfl)),.inl rfl⟩⟩
  ·simp only[bZ,KN,bn,iH,gz,dF];omega
  ·rw[htk,fA,bY,hcell,aH,<-aH];exact List.take_left' (by rw[KN,aI,gz,hl])
 ·have holds:∀j u,(bs.map Extern.Stop.cell)[j]? =some u->w.drew.cell? ((⟨g,0,none⟩:Addr).add j)=some u:=World.ownsRow.cells hown (g:=g) rfl;have hf:=run_firstCells_some (P:=Tryz.prog) w.drew i0.size n ⟨g,0,none⟩ n c (bs.map Extern.Stop.cell) (by rw[aI,hl,hz1,fA]) holds;have hrun:=Lib.run_append_grow_zeros (P:=Tryz.prog) w 55 3 ty 5 i0 (.int .u8 0) .i64 .i64 bC jC hi hz0 (some ⟨g,0,none⟩) n c (bs.map Extern.Stop.cell) hf k hk (by rw[hz1];omega) (by omega) (by omega) (by rw[hz2];omega) (growslice_fits (by omega) (by rw[hz2];omega));have hge:=grownCap_ge w (n+k) c 5;have hcm2:=grownCap_le_maxLen w (n+k) c 5 (by unfold maxLen;omega);refine⟨_,_,_,hrun,⟨by rw[aI,KN,gz,hl,fA],.inr ⟨w.heap.size,_,_,rfl,hbase,heap_alloc_new w.drew _,hge,hcm2,?_,?_⟩⟩,⟨rfl,rfl,rfl,by simp,fun b hb _=>heap_alloc_old w.drew _ hb,.inr ⟨w.heap.size,rfl,ay _⟩⟩⟩
  ·simp only[UE,Array.size_append,bZ,aI,gz,hl];omega
  ·rw[UE,UE];simp only[Array.toList_append,bY,hcell];exact List.take_left' (by rw[KN,aI,gz,hl,fA])
theorem Ub {ops:ax Oper}{rest:ag Oper}{o:Oper}{a:Act}{Q:Exit->Act->ae->Prop}{w:ae}(hgd:o.guard=none)(sl x:Operand)
  (ho:o.op=.call {callee:=.builtin .append,args:= #[sl,x],argTypes:= #[55,3]})(lo n c k:Nat)(A:aj Addr)(bs:ag au)(hs:a.eval sl=.slice A n c)(hx:a.eval x=.int .i64 (k:Int))(hown:Rh lo w A n c bs)
  (h0:0<n)(hk:0<k)(hn:n+k<=1000000)(hbase:lo<=w.heap.size)
  (h:∀A' c' w',Rh lo w' A' (n+k) c' (bs++List.replicate k 0)->Vu (.slice A n c) w (.slice A' (n+k) c') w'->wpList Tryz.prog ops Q rest (a.put o.dst (.slice A' (n+k) c')) w'):wpList Tryz.prog ops Q (o::rest) a w:=by
 obtain⟨A',c',w',hr,h1,h2⟩:=aa1 w o.type lo n c k A bs hown h0 hk hn hbase;exact Lib.wpList_append_run w hgd sl x _ _ ho _ _ hs hx _ _ hr (h A' c' w' h1 h2)
theorem aa2 (A A2:aj Addr)(n c c2:Nat)(bs:ag au)(w:ae)(hl:bs.length=n)(hn:n<=1000000)(h1:JS w w.heap.size A (bs.map Extern.Stop.cell))(h2:JS w w.heap.size A2 (bs.map Extern.Stop.cell)):
  Calls Tryz.prog 25 #[.slice A n c,.slice A2 n c2] w (Gives (.bool true) w):=by
 have H1:=JJ h1;have H2:=JJ h2;have HL:=JJ hl;clear h1 h2 hl;go_enter Tryz.func25,Tryz.ntmps25;go_wp2_with fail
 go_loopw [5] (fun i wr=>∃k:Nat,k<=n/\i=I k/\∃m,wr=w.drewN m) (fun i _=>n - (intOf i).toNat)
 case atStart=>exact⟨0,aG _,rfl,0,rfl⟩
 case round=>
  obtain⟨k,hk,rfl,m,rfl⟩:=hrel;by_cases hlt:(k:Int)<(n:Int)
  ·have hk2:k<n:=by omega
   obtain⟨b,off,rfl,hb,hc⟩:=H1.out.there (by rw[aI,HL.out];omega);obtain⟨b2,YA,rfl,hb2,hc2⟩:=H2.out.there (by rw[aI,HL.out];omega);obtain⟨x,hx⟩:∃x,bs[k]? =some x:=⟨_,KL (by rw[HL.out];exact hk2)⟩;have e1:w.cell? ⟨b,off+k,none⟩=some (.int .u8 (x.toNat:Int)):=hc k _ (by rw[aJ,hx];rfl);have e2:w.cell? ⟨b2,YA+k,none⟩=some (.int .u8 (x.toNat:Int)):=hc2 k _ (by rw[aJ,hx];rfl);clear hc hc2 hx;go_wp2_with fail;go_quiet (fail);go_wp2_with fail;go_roundw
   case rel=>exact⟨k+1,by omega,by go_num,_,rfl⟩
   case measure=>simp[intOf];omega
  ·go_wp2_with fail;go_ret;exact⟨rfl,rfl,rfl,rfl,ay _,fun _ _=>rfl⟩
theorem agp (A:aj Addr)(n c:Nat)(w:ae)(hn:n<=4):Calls Tryz.prog 16 #[.slice A n c,I 5] w (Gives (.tuple #[.agg (JK J8 (.slice none 0 0)),.int .i64 4]) w):=by
 have HW0:=JJ (AV.new w (JK J8 (.slice none 0 0)) 26);have HB0:=JJ (JM w (.cells (JK J8 (.slice none 0 0)) 26));have YN:Hid ((Tryz.prog.info? 26).map (·.size)=some (JK J8 (.slice none 0 0)).size):=JJ (Ky J8 _ rfl rfl);have i1:(n:Int)<5:=by omega
 go_enter nU,mW;go_wp2_with(first
  |((with_reducible refine Kz 26 ?_);refine JW rfl _ rfl (JK J8 (.slice none 0 0)) KQ ?_)
  |((with_reducible refine LY 26 ?_);refine KE rfl _ rfl (JK J8 (.slice none 0 0)) (by kernel_rfl) ?_)
  |((with_reducible refine KZ 26 ?_);refine aB rfl _ _ _ rfl w.heap.size (JK J8 (.slice none 0 0)) rfl rfl 26 (JK J8 (.slice none 0 0)) HW0.out.var YN.out rfl (J9 _ _ _ _) ?_))
 refine aX (v:=.tuple #[.agg (JK J8 (.slice none 0 0)),I 4]) (Ko rfl _ _ w.heap.size _ (JK J8 (.slice none 0 0)) (0,0) _ rfl (aQ _ _ _ _ _ _ HW0.out.var) az rfl YN.out _ rfl) rfl ?_;exact⟨rfl,JR HB0.out (ay _) _⟩
theorem al0 (t:Tb)(A:aj Addr)(n c:Nat)(w:ae)(hi:0<=t.J5/\t.J5<16)(hv:t.version<1):Calls Tryz.prog 29 #[.agg (JK t (.slice A n c))] w (Gives (.int .i64 1) w):=by
 obtain⟨is,his⟩:∃i,t.J5=i:=⟨_,rfl⟩;obtain⟨ve,hve⟩:∃i,t.version=i:=⟨_,rfl⟩;have HA:=JJ (AV.new w (JK t (.slice A n c)) 26);have c0:(w.alloc (.cells (JK t (.slice A n c)) 26)).cell? ⟨w.heap.size,0,none⟩=some (I is):=(HA.out.cell 0).trans (by rw[<-his];rfl);have c1:(w.alloc (.cells (JK t (.slice A n c)) 26)).cell? ⟨w.heap.size,1,none⟩=some (I ve):=(HA.out.cell 1).trans (by rw[<-hve];rfl);rw[his] at hi;rw[hve] at hv;obtain⟨i0,i1⟩:=hi;have i2:¬is<0:=by omega
 have i3:¬(16:Int)<=is:=by omega
 have HB:=JJ (JM w (.cells (JK t (.slice A n c)) 26));clear his hve;go_enter Tryz.func29,Tryz.ntmps29;go_wp2_with fail;go_ret;exact⟨rfl,HB.out⟩
def Sj (ts:ag Kv):Int:=if (TM ts).2=false then -1 else if (TM ts).1<0 then -4 else ((ts[(TM ts).1.toNat]?).map (·.t.version)).getD 0
theorem Vx (A:aj Addr)(c n:Nat)(ts:ag Kv)(w:ae)(hn:ts.length=n)(hn1:n<=1000)(hl:TC ts)(h:LJ w w.heap.size A ts)(hp:∀x∈ts,x.t.prev.length=32/\x.t.Ku.length=32):
  Calls Tryz.prog 26 #[.slice A n c] w (Gives (.int .i64 (Sj ts)) w):=by
 have HC:=JJ (ZU A c n ts w hn hn1 hl h);have HPM:=JJ hp;obtain⟨F,hF⟩:∃F,Sj ts=F:=⟨_,rfl⟩;rw[hF];have HF:=JJ hF;clear hn hl h hp hF;go_enter Tryz.func26,Tryz.ntmps26;go_wp2_with fail;refine HC.out.mono ?_;rintro e w2 ⟨hb2,p,b,hpb,⟨rfl,rfl⟩|⟨rfl,hp0,rfl⟩|⟨rfl,i,x,y,rfl,hx,hy,_,rfl,hO⟩⟩
 ·have HE:Hid (F= -1):=JJ (by rw[<-HF.out];unfold Sj;rw[hpb];rfl);clear hpb;have Qd:=JJ (AV.new w2 (JK J8 (.slice none 0 0)) 26);have HB2:=JJ (JL hb2 (JM w2 (.cells (JK J8 (.slice none 0 0)) 26)));have HW:=JJ hb2.size;clear hb2;rw[RU];go_wp2_with(first
   |((with_reducible refine Kz 26 ?_);refine JW rfl _ rfl (JK J8 (.slice none 0 0)) KQ ?_)
   |((with_reducible refine KZ 26 ?_);refine aB rfl _ _ _ rfl w2.heap.size (JK J8 (.slice none 0 0)) rfl rfl 26 (JK J8 (.slice none 0 0)) Qd.out.var (Ky J8 _ rfl rfl) rfl (J9 _ _ _ _) ?_))
  go_ret;exact⟨by rw[HE.out];rfl,JR HB2.out HW.out _⟩
 ·have HE:Hid (F= -4):=JJ (by rw[<-HF.out];unfold Sj;rw[hpb];simp[hp0]);clear hpb hp0;have Qd:=JJ (AV.new w2 (JK J8 (.slice none 0 0)) 26);have HB2:=JJ (JL hb2 (JM w2 (.cells (JK J8 (.slice none 0 0)) 26)));have HW:=JJ hb2.size;clear hb2;rw[RU];go_wp2_with(first
   |((with_reducible refine Kz 26 ?_);refine JW rfl _ rfl (JK J8 (.slice none 0 0)) KQ ?_)
   |((with_reducible refine KZ 26 ?_);refine aB rfl _ _ _ rfl w2.heap.size (JK J8 (.slice none 0 0)) rfl rfl 26 (JK J8 (.slice none 0 0)) Qd.out.var (Ky J8 _ rfl rfl) rfl (J9 _ _ _ _) ?_))
  go_ret;exact⟨by rw[HE.out];rfl,JR HB2.out HW.out _⟩
 ·have HE:Hid (F=x.t.version):=JJ (by rw[<-HF.out];unfold Sj;rw[hpb];simp[hx];intro h;omega);have hq:=HPM.out x (LQ hx);obtain⟨T,hT⟩:∃T,y.t=T:=⟨_,rfl⟩;have hTx:T=x.t:=hT.symm.trans hy;rw[hT];have L6:Hid ((Tryz.prog.info? 26).map (·.size)=some (JK T (.slice y.A y.zs.length y.c)).size):=JJ (Ky T _ (by rw[hTx];exact hq.1) (by rw[hTx];exact hq.2));have WV:Hid ((JK J8 (.slice none 0 0)).size=(JK T (.slice y.A y.zs.length y.c)).size):=JJ ((Kq J8 _ rfl rfl).trans (Kq T _ (by rw[hTx];exact hq.1) (by rw[hTx];exact hq.2)).symm);obtain⟨ve,hve⟩:∃v,T.version=v:=⟨_,rfl⟩;have HVE:Hid (F=ve):=JJ (by rw[HE.out,<-hve,hTx]);have Qd:=JJ ((AV.new w2 (JK J8 (.slice none 0 0)) 26));have HB2:=JJ (JR (JL hb2 (JM w2 (.cells (JK J8 (.slice none 0 0)) 26))) hb2.size (JK T (.slice y.A y.zs.length y.c)));have TF:=JJ (Qd.out.SA (JK T (.slice y.A y.zs.length y.c)));have c1:((w2.alloc (.cells (JK J8 (.slice none 0 0)) 26)).setRow w2.heap.size (JK T (.slice y.A y.zs.length y.c))).cell? ⟨w2.heap.size,1,none⟩=some (I ve):=(TF.out.cell 1).trans (by rw[<-hve];rfl);clear hb2 hpb hx hy hO hq hT hTx hve;go_wp2_with(first
   |((with_reducible refine Kz 26 ?_);refine JW rfl _ rfl (JK J8 (.slice none 0 0)) KQ ?_)
   |((with_reducible refine KZ 26 ?_);refine aB rfl _ _ _ rfl w2.heap.size (JK T (.slice y.A y.zs.length y.c)) rfl rfl 26 (JK J8 (.slice none 0 0)) Qd.out.var L6.out WV.out (J9 _ _ _ _) ?_))
  go_ret;exact⟨by rw[HVE.out];rfl,HB2.out⟩
end
section
attribute [local go_sem] NT NU OH LD
section
variable {P:Program}{ops:ax Oper}{a:Act}{w:ae}{rest:ag Oper}{o:Oper}
theorem SC {Q:Act->Prop}(hw:Region.wanted o (yielded ops a.tmps)=true)(ty:TypeId)(x:Operand)(ho:o.op=.load ty x)(g off:Nat)(hx:a.eval x=.pointer (some ⟨g,off,none⟩))(cs:ag ah)(hr:w.rangeAt g off cs)
  (d:TypeDesc)(hu:P.underlying ty=some d)(hd:d.isRow=true)(hi:(P.info? ty).map (·.size)=some cs.length)
  (h:wpStill P ops w Q rest (a.put o.dst (.agg cs.toArray))):wpStill P ops w Q (o::rest) a:=by
 refine wpStill_step fun K hK=>?_;rw[bD hw];unfold Oper.still execOp;simp only[ho,hx,Instr.loadAt,Instr.sureAddr,fH,jF,dX,lu w g off ty cs d hr hu hd hi];exact⟨rfl,hK _ h⟩
end
theorem abC (r:ag au)(h:r.length=32)(W:ae):(binOp .neq 24 (.agg (JO r).toArray) (.agg (JO r).toArray)).run Tryz.prog W=.ok (.bool false) W:=by
 unfold JO;rw[nM,Go.Proofs.YtbaehbbonkljpaaGreatDoor.VQ W r h];simp[Result.andThen]
theorem ahL (x:L9):∀j u,(JV x.e.z x.s).toList[j]? =some u->x.cells.toList[1+j]? =some u:=fun j u hu=>by
 rw[kP];exact hu
theorem aac (t:Tb)(A1 A2:aj Addr)(c1 c2 n:Nat)(ys1 ys2:ag L9)(zs:ag Ze)(w:ae)(hp:t.prev.length=32)(hm:t.Ku.length=32)(h1:ys1.map (·.e)=zs)(h2:ys2.map (·.e)=zs)(hn:zs.length=n)(hn1:n<=1000)(hl:∀e∈zs,Qs e.z)(m1:O3 w w.heap.size A1 ys1)(m2:O3 w w.heap.size A2 ys2):
  Calls Tryz.prog 21 #[.agg (JK t (.slice A1 n c1)),.agg (JK t (.slice A2 n c2))] w (Gives (.bool true) w):=by
 have HV:=JJ (SS.start w 26 (JK t (.slice A1 n c1)) (JK t (.slice A2 n c2)));have l1:ys1.length=n:=by rw[<-hn,<-h1,aI]
 have l2:ys2.length=n:=by rw[<-hn,<-h2,aI]
 obtain⟨W0,hW0⟩:∃W0,(w.alloc (.cells (JK t (.slice A1 n c1)) 26)).alloc (.cells (JK t (.slice A2 n c2)) 26)=W0:=⟨_,rfl⟩;rw[hW0] at HV;have HW0:=JJ hW0;have UY:=JJ l1;have HL2:=JJ l2;have HE1:=JJ h1;have HE2:=JJ h2;have Xx:=JJ m1;have HM2:=JJ m2;have HLE:=JJ hl;have nq1:=abC t.prev hp;have nq2:=abC t.Ku hm;have WZ:=JJ (Tj t _ HV.out.a);have HP2:=JJ (Tj t _ HV.out.b);have Ri:=JJ (Vo t _ HV.out.a hp);have PR:=JJ (Vo t _ HV.out.b hp);have H32:Hid ((Tryz.prog.info? 24).map (·.size)=some (JO t.prev).length):=JJ (by simp only[JO,aI,hp];kernel_rfl);have H33:Hid ((Tryz.prog.info? 24).map (·.size)=some (JO t.Ku).length):=JJ (by simp only[JO,aI,hm];kernel_rfl);have p0:=HV.out.a.2;have p1:=HV.out.b.2;clear hn h1 h2 m1 m2 hl hp hm l1 l2 hW0;go_enter Tryz.func21,Tryz.ntmps21;go_upto_region 1 with fail;rw[HW0.out];go_wp2_with(first
  |((with_reducible refine Nb 24 ?_);go_must (first
    |(refine Kt rfl _ _ rfl w.heap.size 4 rfl (JO t.prev) WZ.out _ aK rfl H32.out ?_)
    |(refine Kt rfl _ _ rfl (w.heap.size+1) 4 rfl (JO t.prev) HP2.out _ aK rfl H32.out ?_)
    |(refine Kt rfl _ _ rfl w.heap.size 36 rfl (JO t.Ku) Ri.out _ aK rfl H33.out ?_)
    |(refine Kt rfl _ _ rfl (w.heap.size+1) 36 rfl (JO t.Ku) PR.out _ aK rfl H33.out ?_))))
 go_loopw [5] (fun i wr=>Zo w 26 (JK t (.slice A1 n c1)) (JK t (.slice A2 n c2)) n i wr) (fun i _=>n - (intOf i).toNat)
 case atStart=>exact⟨0,aG _,rfl,HV.out⟩
 case round=>
  clear p0 p1 nq1 nq2;obtain⟨k,hk,rfl,hv⟩:=hrel;have HVR:=JJ hv;have p3:wr.cell? ⟨w.heap.size,3,none⟩=some (.slice A1 n c1):=(hv.a.2 3).trans (LD _ _);have q3:wr.cell? ⟨w.heap.size+1,3,none⟩=some (.slice A2 n c2):=(hv.b.2 3).trans (LD _ _);clear hv;by_cases hlt:(k:Int)<(n:Int)
  ·have hk2:k<n:=by omega
   obtain⟨x1,hx1⟩:∃x,ys1[k]? =some x:=⟨_,KL (by rw[UY.out];exact hk2)⟩;obtain⟨x2,hx2⟩:∃x,ys2[k]? =some x:=⟨_,KL (by rw[HL2.out];exact hk2)⟩;have he:x1.e=x2.e:=by
    have a1:zs[k]? =some x1.e:=by rw[<-HE1.out,aJ,hx1];rfl
    have a2:zs[k]? =some x2.e:=by rw[<-HE2.out,aJ,hx2];rfl
    rw[a1] at a2;injection a2
   have hel:Qs x1.e.z:=HLE.out _ (by rw[<-HE1.out];exact fM (LQ hx1));have z1:=Xx.out.each x1 (LQ hx1);have z2:=HM2.out.each x2 (LQ hx2);obtain⟨b,off,rfl,hb,hc⟩:=Xx.out.row.there (by rw[MB,UY.out];omega);obtain⟨b2,YA,rfl,hb2,hc2⟩:=HM2.out.row.there (by rw[MB,HL2.out];omega);have r1:wr.rangeAt b (off+k*9) x1.cells.toList:=JY (JS.elem (s:=9) (f:=fun x:L9=>x.cells.toList) (fun _ _=>rfl) hc k x1 hx1) HVR.out.up hb;have r2:wr.rangeAt b2 (YA+k*9) x2.cells.toList:=JY (JS.elem (s:=9) (f:=fun x:L9=>x.cells.toList) (fun _ _=>rfl) hc2 k x2 hx2) HVR.out.up hb2;obtain⟨nm,hnm⟩:∃s,x1.e.name=s:=⟨_,rfl⟩;have e1:wr.cell? ⟨b,off+k*9,none⟩=some (.string nm):=by rw[<-hnm];exact r1 0 _ rfl
   have e2:wr.cell? ⟨b2,YA+k*9,none⟩=some (.string nm):=by rw[<-hnm,he];exact r2 0 _ rfl
   have R1:Hid (wr.drew.rangeAt b (off+k*9+1) (JV x1.e.z x1.s).toList):=JJ (fun j u hu=>by rw[fE];exact r1 (1+j) u (ahL x1 j u hu));have R2:Hid (wr.drew.rangeAt b2 (YA+k*9+1) (JV x1.e.z x2.s).toList):=JJ (fun j u hu=>by rw[he] at hu;rw[fE];exact r2 (1+j) u (ahL x2 j u hu));have ZI:Hid (∀s,(Tryz.prog.info? 69).map (·.size)=some (JV x1.e.z s).toList.length):=JJ (fun s=>by kernel_rfl);have HS:Hid (Calls Tryz.prog 34 #[.agg (JV x1.e.z x1.s),.agg (JV x1.e.z x2.s)] wr.drew (Gives (.bool true) wr.drew)):=JJ (aa3 x1.e.z x1.s x2.s _ _ wr.drew hel rfl rfl ((z1.keep (HVR.out.drew 1).up).more (HVR.out.drew 1).up.size) (by rw[he];exact(z2.keep (HVR.out.drew 1).up).more (HVR.out.drew 1).up.size));clear hx1 hx2 he hel z1 z2 hc hc2 r1 r2 hnm;go_wp2_with fail;refine wp_region_still_tail 26 (by kernel_rfl) (by kernel_rfl) ?_;simp only[jr,lS,jZ,kR]
   iterate 19 still_step
   refine SC rfl _ _ rfl b (off+k*9+1) rfl (JV x1.e.z x1.s).toList R1.out _ cu rfl (ZI.out _) ?_
   iterate 5 still_step
   refine SC rfl _ _ rfl b2 (YA+k*9+1) rfl (JV x1.e.z x2.s).toList R2.out _ cu rfl (ZI.out _) ?_;refine nP ?_;change wpList _ _ _ _ _ wr.drew;go_wp2_with fail;refine HS.out.mono ?_;rintro e w3 ⟨rfl,hb3⟩;have TF:Hid (SS w 26 (JK t (.slice (some ⟨b,off,none⟩) n c1)) (JK t (.slice (some ⟨b2,YA,none⟩) n c2)) w3):=JJ ((HVR.out.drew 1).below hb3);clear hb3 e1 e2 p3 q3;go_wp2_with fail;go_roundw
   case rel=>exact⟨k+1,by omega,by go_num,TF.out⟩
   case measure=>simp[intOf];omega
  ·go_wp2_with fail;go_ret;exact⟨rfl,HVR.out.up⟩
end
theorem aem (A A2:aj Addr)(n c c2:Nat)(ts us:ag Kv)(w:ae)(hl:ts.length=n)(hE:ts.map Pq=us.map Pq)(hC:LJ w w.heap.size A ts)(hC2:LJ w w.heap.size A2 us)(hg:∀x∈ts,Ry x)(hn5:n<=64):
  Calls Tryz.prog 18 #[.slice A n c,.slice A2 n c2] w (Gives (.bool true) w):=by
 have HSM:Hid (∀(k:Nat) x y,ts[k]? =some x->us[k]? =some y->∀W,ai w.heap.size w W->Calls Tryz.prog 21 #[.agg x.cells.toArray,.agg y.cells.toArray] W (Gives (.bool true) W)):=JJ fun k x y hx hy W hb=>by
  have hxm:=LQ hx;have h1:=hC.each x hxm;have h2:=hC2.each y (LQ hy);have h3:Pq x=Pq y:=by
   have:=dA (·[k]?) hE;simpa[List.getElem?_map,hx,hy] using this
  have h4:x.t=y.t:=dA Prod.fst h3;have h5:x.zs.map (·.e)=y.zs.map (·.e):=dA Prod.snd h3;have h6:x.zs.length=y.zs.length:=by simpa using dA List.length h5
  have h7:=hg x hxm;have e1:x.cells.toArray=JK x.t (.slice x.A x.zs.length x.c):=rfl;have e2:y.cells.toArray=JK x.t (.slice y.A x.zs.length y.c):=by rw[h4,h6];rfl
  rw[e1,e2];exact aac x.t x.A y.A x.c y.c x.zs.length x.zs y.zs (x.zs.map (·.e)) W h1.prev h1.Ku rfl h5.symm (by simp) (by have:=h7.num;omega) (fun e he=>by
   obtain⟨v,hv,rfl⟩:=fJ.1 he;exact h7.len v hv) (h1.JX.grow hb) (h2.JX.grow hb)
 have HU:Hid (us.length=n):=JJ (by rw[<-hl];simpa using (dA List.length hE).symm);have HL:=JJ hl;have HTA:=JJ (OG hC);have HTB:=JJ (OG hC2);clear hC hC2 hg hl hE;go_enter Tryz.func18,Tryz.ntmps18;go_wp2_with fail
 go_loopw [5] (fun i wr=>∃k:Nat,k<=n/\i=I k/\ai w.heap.size w wr) (fun i _=>n - (intOf i).toNat)
 case atStart=>exact⟨0,aG _,rfl,aW _ _⟩
 case round=>
  obtain⟨k,hk,rfl,hb⟩:=hrel;have HB:=JJ hb;clear hb;by_cases hlt:k<n
  ·have hkl:k<ts.length:=by rw[HL.out];exact hlt
   obtain⟨x,hx⟩:∃x,ts[k]? =some x:=⟨_,KL hkl⟩;obtain⟨y,hy⟩:∃y,us[k]? =some y:=⟨_,KL (by rw[HU.out];exact hlt)⟩;have HX:=JJ (HSM.out k x y hx hy);obtain⟨cb,co,rfl,hcb,hTA⟩:∃b off,A=some ⟨b,off,none⟩/\b<w.heap.size/\OC w b off ts:=by
    rcases HTA.out with h1|h1
    ·omega
    ·exact h1
   obtain⟨db,do_,rfl,hdb,hTB⟩:∃b off,A2=some ⟨b,off,none⟩/\b<w.heap.size/\OC w b off us:=by
    rcases HTB.out with h1|h1
    ·have:=HU.out;omega
    ·exact h1
   have HS:Hid (∀W,ai w.heap.size w W->W.rangeAt cb (co+k*68) x.cells/\W.rangeAt db (do_+k*68) y.cells):=JJ fun W hb=>⟨JY (hTA k x hx).1 hb hcb,JY (hTB k y hy).1 hb hdb⟩;have Ud:Hid ((Tryz.prog.info? 26).map (·.size)=some x.cells.length):=JJ (by rw[(hTA k x hx).2];kernel_rfl);have HYS:Hid ((Tryz.prog.info? 26).map (·.size)=some y.cells.length):=JJ (by rw[(hTB k y hy).2];kernel_rfl);have i0:(0:Int)<=(k:Int):=by omega
   have i1:(k:Int)<(n:Int):=by omega
   clear hkl hx hy hTA hTB hcb hdb;go_upto_region 6 with fail;have hi3:=Ud.out;have hi5:=HYS.out;refine dG (S:=fun w'=>w'.rangeAt cb (co+k*68) x.cells/\w'.rangeAt db (do_+k*68) y.cells) (by kernel_rfl) (HS.out _ HB.out.drew) (fun hH=>?_);refine agj 0 (.slice (some ⟨cb,co,none⟩) n c) 17 hH (fun W hW=>?_) ?_
   ·go_simp
   refine KG ?_;refine agj 1 (I k) 18 hH (fun W hW=>?_) ?_
   ·go_simp
   refine KG ?_;refine agj 2 (.pointer (some ⟨cb,co+k*68,none⟩)) 19 hH (fun W hW=>?_) ?_
   ·go_simp
   refine KG ?_;refine LG 3 (.agg x.cells.toArray) 20 rfl rfl hH (bF (by rfl) _ _ rfl cb (co+k*68) rfl (x.cells) _ (fun _ hW=>hW.1) az rfl hi3) ?_;refine agj 4 (.slice (some ⟨db,do_,none⟩) n c2) 21 hH (fun W hW=>?_) ?_
   ·go_simp
   refine KG ?_;refine agj 5 (I k) 22 hH (fun W hW=>?_) ?_
   ·go_simp
   refine KG ?_;refine agj 6 (.pointer (some ⟨db,do_+k*68,none⟩)) 23 hH (fun W hW=>?_) ?_
   ·go_simp
   refine KG ?_;refine LG 7 (.agg y.cells.toArray) 24 rfl rfl hH (bF (by rfl) _ _ rfl db (do_+k*68) rfl (y.cells) _ (fun _ hW=>hW.2) az rfl hi5) ?_;clear hH;refine KX 8 (fun K hK=>?_);go_simp;go_at_call 21;refine(HX.out _ HB.out.drew).mono ?_;rintro e w3 ⟨rfl,hb3⟩;have HB3:Hid (ai w.heap.size w w3):=JJ (JL HB.out.drew hb3);clear hb3;refine hK.out _ _ (HS.out _ HB3.out) (fun hH=>?_);clear hK K;refine agj 9 (.bool false) 26 hH (fun W hW=>?_) ?_
   ·go_simp
   refine KG ?_;clear hH;refine dC (by kernel_rfl) ?_ _;clear hi3;go_wp2_with fail;go_roundw
   case rel=>exact⟨k+1,by omega,by go_num,HB3.out⟩
   case measure=>simp[intOf];omega
  ·have i1:¬(k:Int)<(n:Int):=by omega
   go_wp2_with fail;go_ret;exact⟨rfl,HB.out⟩
end Go.Proofs.YtbaehbbonkljpaaGreatDoor
