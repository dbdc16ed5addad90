/- The texts Nj, Ng0, Nk, Jj, Jk, Nl0, in this order. -/
import Derived.Test.YtbaehbbonkljpaaGreatDoorS00
import Derived.Test.YtbaehbbonkljpaaGreatDoorS02
import Derived.Test.YtbaehbbonkljpaaGreatDoorS05
import Derived.Test.YtbaehbbonkljpaaGreatDoorS07
import Derived.Test.YtbaehbbonkljpaaGreatDoorS09
import Derived.Test.YtbaehbbonkljpaaGreatDoorS10
import Derived.Test.YtbaehbbonkljpaaGreatDoorS11
import Derived.Test.YtbaehbbonkljpaaGreatDoorS12
set_option maxRecDepth 10000
set_option maxHeartbeats 8000000
namespace Go.Proofs.YtbaehbbonkljpaaGreatDoor
open Go Go.RowKit
theorem U5 (z:Zn) (s:Zs) (w:World) (hy:z.aH= []):
  Calls Tryz.prog 90 #[.agg (ay z s)] w fun e w'=>e= .returned (.tuple #[.pointer (some ⟨w.heap.size+1,0,none⟩), .bool true])/\∃A n c,qW w (ay z s).toList (Kq z) A n c (Wv z) w':=by
 have h1:Kq z=1:=by unfold Kq;rw [hy]
 have h2:Wv z= []:=by unfold Wv;rw [hy]
 rw [h1,h2];obtain ⟨cal,st,tr,ho,yr⟩:=z;obtain ⟨A0,a,R0,r,C0,c0,D0,d0⟩:=s;simp only at hy;subst hy;obtain ⟨ep,yG⟩:∃ep,cal.bn=ep:=⟨_,rfl⟩;obtain ⟨lp,BQ⟩:∃lp,cal.dA=lp:=⟨_,rfl⟩;obtain ⟨n0,hn0⟩:∃n,cal.au.length=n:=⟨_,rfl⟩;obtain ⟨n1,hn1⟩:∃n,cal.rules.length=n:=⟨_,rfl⟩;obtain ⟨n2,hn2⟩:∃n,tr.length=n:=⟨_,rfl⟩;have e0:ay ⟨cal,st,tr,ho,[]⟩ ⟨A0,a,R0,r,C0,c0,D0,d0⟩= #[I ep, .slice A0 n0 a,I lp, .slice R0 n1 r,I st, .slice C0 n2 c0,I ho, .slice D0 0 d0]:=by rw [<-yG,<-BQ,<-hn0,<-hn1,<-hn2];rfl
 rw [e0];clear h1 h2 e0 yG BQ hn0 hn1 hn2;show Calls Tryz.prog _ _ w (fun e w'=>e= .returned (.tuple #[.pointer (some ⟨w.heap.size+1,0,none⟩), .bool true])/\∃A n c,qW w [I ep, .slice A0 n0 a,I lp, .slice R0 n1 r,I st, .slice C0 n2 c0,I ho, .slice D0 0 d0] 1 A n c [] w');have hone:(#[I ep, .slice A0 n0 a,I lp, .slice R0 n1 r,I st, .slice C0 n2 c0,I ho, .slice D0 0 d0, .slice none 0 0,I 1]:Array Value).all (·.oneCell')=true:=by simp [Value.oneCell']
 have HV:=ae (AV.new w #[I ep, .slice A0 n0 a,I lp, .slice R0 n1 r,I st, .slice C0 n2 c0,I ho, .slice D0 0 d0] 69);go_enter Tryz.func90,Tryz.ntmps90;go_wp2_with (first
  |((with_reducible refine dY 69 ?_);go_must (refine aP rfl _ _ rfl w.heap.size rfl #[I ep, .slice A0 n0 a,I lp, .slice R0 n1 r,I st, .slice C0 n2 c0,I ho, .slice D0 0 d0] HV.out.jw _ Tryz.underlying69 rfl (by kernel_rfl) ?_))
  |((with_reducible refine fP 205 ?_);refine bz rfl 205 rfl #[I ep, .slice A0 n0 a,I lp, .slice R0 n1 r,I st, .slice C0 n2 c0,I ho, .slice D0 0 d0, .slice none 0 0,I 1] (by kernel_rfl) ?_))
 have HK:Hid (qW w [I ep, .slice A0 n0 a,I lp, .slice R0 n1 r,I st, .slice C0 n2 c0,I ho, .slice D0 0 d0] 1 none 0 0 [] ((w.alloc (.cells #[I ep, .slice A0 n0 a,I lp, .slice R0 n1 r,I st, .slice C0 n2 c0,I ho, .slice D0 0 d0] 69)).alloc (.cells #[I ep, .slice A0 n0 a,I lp, .slice R0 n1 r,I st, .slice C0 n2 c0,I ho, .slice D0 0 d0, .slice none 0 0,I 1] 205))):=ae ⟨ah (ag w _) (ag _ _),HV.out.below (ag _ _),by have:=AV.new (w.alloc (.cells #[I ep, .slice A0 n0 a,I lp, .slice R0 n1 r,I st, .slice C0 n2 c0,I ho, .slice D0 0 d0] 69)) #[I ep, .slice A0 n0 a,I lp, .slice R0 n1 r,I st, .slice C0 n2 c0,I ho, .slice D0 0 d0, .slice none 0 0,I 1] 205;rw [oU] at this;exact this,World.ownsRow_nil _ _ _ _,rfl⟩;clear HV;generalize (w.alloc (.cells #[I ep, .slice A0 n0 a,I lp, .slice R0 n1 r,I st, .slice C0 n2 c0,I ho, .slice D0 0 d0] 69)).alloc (.cells #[I ep, .slice A0 n0 a,I lp, .slice R0 n1 r,I st, .slice C0 n2 c0,I ho, .slice D0 0 d0, .slice none 0 0,I 1] 205)=W0 at HK ⊢;have v7:W0.cell? ⟨w.heap.size,7,none⟩=some (.slice D0 0 d0):=HK.out.z.cell 7;go_wp2_with fail;go_ret2;exact ⟨rfl,none,0,0,HK.out⟩
theorem Vd {ts:List Tr} {size t:Int}:max (t - gU ts 0) 0 / size=rf ts size t:=by
 unfold rf;split
 ·rw [Int.max_eq_left (by omega),Int.tdiv_eq_ediv_of_nonneg (by omega)]
 ·rw [Int.max_eq_right (by omega),Int.zero_ediv]
theorem TL (kb:Nat) (t:Int) (w:World):Calls Tryz.prog 91 #[.pointer (some ⟨kb,0,none⟩),I t] w fun e w'=>e= .returned (.func (.func 115) #[] #[.pointer (some ⟨w.heap.size,0,none⟩), .pointer (some ⟨w.heap.size+1,0,none⟩)])/\w'=(w.alloc (.cells #[.pointer (some ⟨kb,0,none⟩)] 140)).alloc (.cells #[I t] 3):=by
 go_enter Tryz.func91,Tryz.ntmps91;go_wp2_with fail;go_ret;exact ⟨rfl,rfl⟩
def jl {β:Type} (B tb:Nat) (J:β->World->Prop):Prop:=
 ∀s W W' row,J s W->W.grownBy W' row->(∀r,row=some r->B<=r\/r=tb)->J s W'
theorem jl.alloc {β:Type} {B tb:Nat} {J:β->World->Prop} (h:jl B tb J) {s:β} {W:World} (o:Obj) (hs:J s W):J s (W.alloc o):=
 h s W _ none hs (World.grownBy_alloc W o none) (fun _ e=>nomatch e)
theorem jl.putObj {β:Type} {B tb:Nat} {J:β->World->Prop} (h:jl B tb J) {s:β} {W:World} {l:Nat} (o':Obj) (hs:J s W) (hB:B<=l):J s (W.putObj l o'):=
 h s W _ (some l) hs (grownBy_putObj' W l o') (fun r e=>by cases e;exact .inl hB)
def IG {α:Type} (F:Fence) (n:Nat) (P:Program) (g:Nat) (lb:Array Value) (encs:α->Array Value) (S Sp G:List α->Prop) (B tb:Nat) (w:World):Prop:=
 ∀(l:Nat) (J Jx:List α->World->Prop) (W:World),Below w.heap.size w W->jl W.heap.size tb J->jl W.heap.size tb Jx->(∀pre W',J pre W'->G pre)->
  (∀pre x W1,J pre W1->YieldAt F (n - 1) P l (encs x) W1 fun e W'=>
   (e= .returned (.bool true)/\J (pre++ [x]) W'/\Below B W1 W')\/(e= .returned (.bool false)/\Jx (pre++ [x]) W'))->
  J [] W->
  CallsIn F n P g (#[.func (.yield l) #[] #[]]++lb) W fun e W'=>(∃v,e= .returned v)/\((∃xs,S xs/\J xs W')\/(∃pre,Sp pre/\Jx pre W'))
section
variable {α:Type} {F:Fence} {n B tb:Nat} {P:Program} {g:Operand} {ps:Array Tmp} {assign body:Code} {Q:Exit->Act->World->Prop} {a:Act} {w w0:World}
 {gf:Nat} {lb:Array Value} {encs:α->Array Value} {S Sp G:List α->Prop}
theorem uJ (hro:F.round=none) (h1:1<=n) (hg:a.eval g= .func (.func gf) #[] lb) (hFg:F.fn gf) (eg:∀args w,(callFunc gf args).run P w= .ok (.enter gf args) w)
  (hseq:IG F (n - 1) P gf lb encs S Sp G B tb w0) (htb:tb<w.heap.size) (hB:B<=w.heap.size) (hb0:Below w0.heap.size w0 w) (hps:∀x,(encs x).size=ps.size)
  (I:List α->World->Prop) (Ix:Code->List α->World->Prop) (hI:jl w.heap.size tb I) (hIx:∀c,jl w.heap.size tb (Ix c)) (h0:I [] w) (hG:∀pre W,I pre W->G pre) (Ax:α->Act->World->Prop) (hAx:∀x a',OwnFrom w.heap.size (fun (_:Unit) W=>Ax x a' W))
  (hassign:∀(l:Nat) (pre:List α) (x:α) (W:World) (K:Act->World->Prop),I pre W->(∀a' W',KeepsFrom w.heap.size W W'->Below B W W'->I pre W'->Ax x a' W'->K a' W')->
   assign.wpIn (F.inRound l) (n - 1 - 1) P (Exit.then K (fun _ _ _=>False)) {tmps:=(ps.zip (encs x)).foldl (fun t (p,v)=>t.setIfInBounds p v) a.tmps,defers:= []} W)
  (hbody:∀(l:Nat) (pre:List α) (x:α) (a':Act) (W:World),w.heap.size<=l->(∃r,W.heap[l]? =some (.loop r))->I pre W->Ax x a' W->body.wpIn (F.inRound l) (n - 1 - 1) P (ownPostG w.heap.size (Below B) I Ix (pre++ [x]) W) a' W)
  (hdone:∀(D:Nat) (xs:List α) (W:World),w.heap.size<=D->S xs->I xs W->W.heap[D]? =some (.deferred (some []))->Q .normal {a with defers:= {target:= .collected D,args:= #[]}::a.defers} W)
  (hstop:∀(D:Nat) (c:Code) (pre:List α) (W:World),w.heap.size<=D->Sp pre->Ix c pre W->W.heap[D]? =some (.deferred (some []))->c.wpIn F n P Q {a with defers:= {target:= .collected D,args:= #[]}::a.defers} W):
  (Code.rangeFunc g ps assign body).wpIn F n P Q a w:=by
 refine wpIn_rangeFunc (fun fn hfn=>?_);rw [hro]
 let yK:LoopState->Option Code->Obj:=fun st pe=> .loop {state:=st,pending:=pe,fn,tmps:=a.tmps,params:=ps,assign,body,defers:=w.heap.size}
 obtain ⟨L,hLs⟩:∃L,w.heap.size+1=L:=⟨_,rfl⟩;have hDL:w.heap.size≠L:=by omega
 have MJ:w.heap.size<=L:=by omega
 obtain ⟨V,hV⟩:∃V,(w.alloc (.deferred (some []))).alloc (yK .ready none)=V:=⟨_,rfl⟩;have hVs:V.heap.size=w.heap.size+2:=by rw [<-hV];simp
 have hVL:V.heap[L]? =some (yK .ready none):=by
  rw [<-hV,<-hLs,<-World.size_alloc w (.deferred (some []))];exact World.alloc_heap_new _ _
 have hVD:V.heap[w.heap.size]? =some (.deferred (some [])):=by
  rw [<-hV];exact (Below.heap_alloc _ _ _ (by simp)).trans (World.alloc_heap_new w _)
 have hVb:Below w0.heap.size w0 V:=by
  rw [<-hV];exact hb0.trans ((((Below.refl _ w).alloc (Nat.le_refl _) _).alloc (by simp) _).mono hb0.size)
 have hVI:I [] V:=by rw [<-hV];exact hI.alloc _ (hI.alloc _ h0)
 have far:∀ {row:Option Nat},(∀r,row=some r->V.heap.size<=r\/r=tb)->(∀r,row=some r->w.heap.size<=r\/r=tb):=by
  intro row h r e;rcases h r e with h2|h2
  ·exact .inl (by omega)
  ·exact .inr h2
 have stay:∀ {X Y:World} {row:Option Nat} {k:Nat} {o:Obj},X.grownBy Y row->(∀r,row=some r->V.heap.size<=r\/r=tb)->w.heap.size<=k->k<=L->X.heap[k]? =some o->Y.heap[k]? =some o:=
  fun hg' hr h1 h2 hk=>(hg'.block _ (bV.1 hk).1 (fun e=>by
   rcases hr _ e.symm with h3|h3<;>omega)).trans hk
 refine ⟨L,[{target:= .collected w.heap.size,args:= #[]}],V,{target:= .fn (.func gf) lb,args:= #[.func (.yield L) #[] #[]]},V,gf,#[.func (.yield L) #[] #[]]++lb,V,?_,?_,?_,?_,fun _=>h1,?_⟩
 ·rw [<-hV,<-hLs];exact run_enterLoop_outer _ _ _ _ _
 ·simp only [resolve,hg];simp [go_sem]
 ·intro f' hf';simp only [Target.leads] at hf';simp at hf';exact hf'▸hFg
 ·simp [invoke,go_sem,eg]
 have key:=hseq L (fun pre W=>I pre W/\W.heap[L]? =some (yK .ready none)/\W.heap[w.heap.size]? =some (.deferred (some [])))
  (fun pre W=>∃c,Ix c pre W/\W.heap[L]? =some (yK .done (some c))/\W.heap[w.heap.size]? =some (.deferred (some [])))
  V hVb (fun s X Y row hs hg' hr=>⟨hI s X Y row hs.1 hg' (far hr),stay hg' hr MJ (Nat.le_refl _) hs.2.1,stay hg' hr (Nat.le_refl _) MJ hs.2.2⟩)
  (fun s X Y row hs hg' hr=>by
   obtain ⟨c,h2,h3,h4⟩:=hs;exact ⟨c,hIx c s X Y row h2 hg' (far hr),stay hg' hr MJ (Nat.le_refl _) h3,stay hg' hr (Nat.le_refl _) MJ h4⟩)
  (fun pre W h=>hG pre W h.1)
 refine (key ?_ ⟨hVI,hVL,hVD⟩).mono ?_
 ·rintro pre x W ⟨hi,hl,hd⟩;refine ⟨fn,_,assign,body,run_yield (P:=P) (args:=encs x) hl (hps x),roundIn_of_wpIn hfn (hassign _ pre x W _ hi ?_)⟩;intro a' X hk1 hb1 hi1 hax;have hl1:=hk1.same _ _ MJ hl rfl;have hd1:=hk1.same _ _ (Nat.le_refl _) hd rfl;have hlt:=(bV.1 hl1).1;refine ⟨_,run_beginRound hl1 rfl,?_⟩;obtain ⟨Y,hY⟩:∃Y,X.putObj L (yK .busy none)=Y:=⟨_,rfl⟩;have hYl:Y.heap[L]? =some (yK .busy none):=by rw [<-hY];exact World.putObj_heap_same hlt
  have hYd:Y.heap[w.heap.size]? =some (.deferred (some [])):=by rw [<-hY];exact (World.putObj_heap_other hDL).trans hd1
  have hYb:Below B X Y:=by rw [<-hY];exact belowK_b (w:=w) hB X L _ _ MJ hl1 rfl rfl
  have hYI:I pre Y:=by rw [<-hY];exact hI.putObj _ hi1 MJ
  have hYA:Ax x a' Y:=by rw [<-hY];exact (hAx x a').putObj (s:=()) _ hax MJ hl1 rfl
  have hgo:body.wpIn (F.inRound L) (n - 1 - 1) P (ownPostG w.heap.size (Below B) I Ix (pre++ [x]) Y) a' Y:=hbody L pre x a' Y MJ ⟨_,hYl⟩ hYI hYA;have leave:∀(jump:Option Code) (Z:World),KeepsFrom w.heap.size Y Z->Z.heap[L]? =some (yK .busy none)/\(Instr.endRound L jump).run P Z= .ok (.bool jump.isNone) (Z.putObj L (yK (if jump.isNone then .ready else .done) jump))/\
    (Z.putObj L (yK (if jump.isNone then .ready else .done) jump)).heap[L]? =some (yK (if jump.isNone then .ready else .done) jump)/\(Z.putObj L (yK (if jump.isNone then .ready else .done) jump)).heap[w.heap.size]? =some (.deferred (some [])):=by
   intro jump Z hk;have h3:=hk.same _ _ MJ hYl rfl;exact ⟨h3,run_endRound (P:=P) jump h3,World.putObj_heap_same (bV.1 h3).1,(World.putObj_heap_other hDL).trans (hk.same _ _ (Nat.le_refl _) hYd rfl)⟩
  have out:∀(c:Code) (Z:World),KeepsFrom w.heap.size Y Z/\Ix c (pre++ [x]) Z->∃v W',(Instr.endRound L (some c)).run P Z= .ok v W'/\((Ending.returned v= .returned (.bool true)/\(I (pre++ [x]) W'/\W'.heap[L]? =some (yK .ready none)/\W'.heap[w.heap.size]? =some (.deferred (some [])))/\Below B W W')\/
    (Ending.returned v= .returned (.bool false)/\∃c,Ix c (pre++ [x]) W'/\W'.heap[L]? =some (yK .done (some c))/\W'.heap[w.heap.size]? =some (.deferred (some [])))):=by
   rintro c Z ⟨hk,hz⟩;obtain ⟨h3,h4,h5,h6⟩:=leave (some c) Z hk;exact ⟨_,_,h4, .inr ⟨rfl,c,(hIx c).putObj _ hz MJ,h5,h6⟩⟩
  rw [show X.putObj L (Obj.loop _)=Y from hY];refine wpIn_mono hgo ?_;rintro e a3 Z hp;cases e with
  |normal=>
   obtain ⟨hk,hbz,hz⟩:=hp;obtain ⟨h3,h4,h5,h6⟩:=leave none Z hk;exact ⟨_,_,h4, .inl ⟨rfl,⟨hI.putObj _ hz MJ,h5,h6⟩,hb1.trans (hYb.trans (hbz.trans (belowK_b (w:=w) hB Z L _ _ MJ h3 rfl rfl)))⟩⟩
  |ret=>exact out .ret Z hp
  |exit id=>exact out (.exit id) Z hp
  |goto t=>exact out (.goto t) Z hp
  |panic ch=>exact hp.elim
  |outgrown=>exact hp.elim
 ·rintro e Z ⟨⟨v,rfl⟩,h⟩;rcases h with ⟨xs,hs,hi,hl,hd⟩|⟨pre,hs,c,hi,hl,hd⟩
  ·exact ⟨none,_,run_endLoop (P:=P) hl (by simp),hdone _ xs _ (Nat.le_refl _) hs (hI.putObj _ hi MJ) ((World.putObj_heap_other hDL).trans hd)⟩
  ·exact ⟨some c,_,run_endLoop (P:=P) hl (by simp),hstop _ c pre _ (Nat.le_refl _) hs ((hIx c).putObj _ hi MJ) ((World.putObj_heap_other hDL).trans hd)⟩
end
structure FrS (B kb cb tb:Nat) (kc:List Value) (A:Option Addr) (n:Nat) (ts:List Tr) (C:Option Addr) (m:Nat) (trs:List Tr) (t:Int) (W:World):Prop where
 k:AV kb 205 kc.toArray W
 ys:n=0\/∃g,A=some ⟨g,0,none⟩/\g<B/\∀k,k<n->W.cell? ⟨g,k*2,none⟩=some (I (gU ts k))/\W.cell? ⟨g,k*2+1,none⟩=some (I (jI ts k))
 tr:m=0\/∃b off,C=some ⟨b,off,none⟩/\b<B/\∀k,k<m->W.cell? ⟨b,off+k*2,none⟩=some (I (gU trs k))/\W.cell? ⟨b,off+k*2+1,none⟩=some (I (jI trs k))
 cx:W.heap[cb]? =some (.cells #[.pointer (some ⟨kb,0,none⟩)] 140 (0,0))
 tx:W.heap[tb]? =some (.cells #[I t] 3 (0,0))
 lt:kb<B/\cb<B/\tb<B
theorem FrS.keep {B kb cb tb n m:Nat} {kc:List Value} {A C:Option Addr} {ts trs:List Tr} {t:Int} {W W':World} (h:FrS B kb cb tb kc A n ts C m trs t W) (hb:Below B W W'):FrS B kb cb tb kc A n ts C m trs t W':=by
 obtain ⟨h1,h2,h3⟩:=h.lt;refine ⟨⟨(hb.block _ h1).trans h.k.var⟩,?_,?_,(hb.block _ h2).trans h.cx,(hb.block _ h3).trans h.tx,h.lt⟩
 ·rcases h.ys with h0|⟨g,e,hg,hc⟩
  ·exact .inl h0
  ·exact .inr ⟨g,e,hg,fun k hk=>⟨(hb.cell (p:=⟨g,k*2,none⟩) hg).trans (hc k hk).1,(hb.cell (p:=⟨g,k*2+1,none⟩) hg).trans (hc k hk).2⟩⟩
 ·rcases h.tr with h0|⟨b,off,e,hg,hc⟩
  ·exact .inl h0
  ·exact .inr ⟨b,off,e,hg,fun k hk=>⟨(hb.cell (p:=⟨b,off+k*2,none⟩) hg).trans (hc k hk).1,(hb.cell (p:=⟨b,off+k*2+1,none⟩) hg).trans (hc k hk).2⟩⟩
theorem BD {w w':World} (h:Below w.heap.size w w'):w.grownBy w' none:=⟨h.os,h.tape,h.output,h.size,fun k hk _=>h.block k hk⟩
abbrev SS:= {x:Tr // -4000000000000000<=x.at_/\x.at_<=4000000000000000}
theorem Yy (kb g n c:Nat) (cy t t0:Int) (w:World) (h8:w.cell? ⟨kb,8,none⟩=some (.slice (some ⟨g,0,none⟩) n c)) (h9:w.cell? ⟨kb,9,none⟩=some (I cy)) (h0:w.cell? ⟨g,0,none⟩=some (I t0)) (hn:0<n) (hc1:1<=cy) (hc2:cy<=2000000)
  (ht: -2251799813685248<=t/\t<=2251799813685248) (ht0: -100000<=t0/\t0<=10000000000):Calls Tryz.prog 116 #[.pointer (some ⟨kb,0,none⟩),I t] w fun e w'=>e= .returned (I (max (t - t0) 0 / (cy*1440)))/\∃m,w'=w.drewN m:=by
 have q1:¬cy*1440=0:=by omega
 have q2:¬cy*1440= -1:=by omega
 go_enter Tryz.func116,Tryz.ntmps116;go_wp2_with fail;go_quiet ((go_at_call 114;exact wO _ cy w h9 (by omega) (by omega) _));go_wp2_with fail;go_ret;exact ⟨rfl,_,rfl⟩
theorem UR (kb g n c:Nat) (cy t t0:Int) (w:World) (h8:w.cell? ⟨kb,8,none⟩=some (.slice (some ⟨g,0,none⟩) n c)) (h9:w.cell? ⟨kb,9,none⟩=some (I cy)) (h0:w.cell? ⟨g,0,none⟩=some (I t0)) (hn:0<n) (hc1:1<=cy) (hc2:cy<=2000000)
  (ht: -2251799813685248<=t/\t<=2251799813685248) (ht0: -100000<=t0/\t0<=10000000000) (k:Nat):Calls Tryz.prog 116 #[.pointer (some ⟨kb,0,none⟩),I t] (w.drewN k) fun e w''=>e= .returned (I (max (t - t0) 0 / (cy*1440)))/\∃m,w''=w.drewN m:=
 Calls.quiet_of (Yy kb g n c cy t t0 (w.drewN k) h8 h9 h0 hn hc1 hc2 ht ht0)
theorem CW {ts:List Tr} {sz t q:Int} (hq:rf ts sz t=q) (hs:1440<=sz) (ha: -100000<=gU ts 0) (ht0: -2251799813685248<=t) (ht:t<=2251799813685248):0<=q/\q<=2300000000000000/\0<=q*sz/\q*sz<=2252000000000000/\t<=gU ts 0+(q+1)*sz/\(q+1)*sz=q*sz+sz:=by
 have e1:(q+1)*sz=q*sz+sz:=by rw [Int.add_mul,Int.one_mul]
 unfold rf at hq;split at hq
 ·rename_i h;rw [Int.tdiv_eq_ediv_of_nonneg (by omega)] at hq;have h1:=Int.emod_add_mul_ediv (t - gU ts 0) sz;have h2:=Int.emod_nonneg (t - gU ts 0) (show sz≠0 by omega);have h3:=Int.emod_lt_of_pos (t - gU ts 0) (show 0<sz by omega);have h4:0<=(t - gU ts 0) / sz:=Int.ediv_nonneg (by omega) (by omega);rw [hq] at h1 h4;rw [Int.mul_comm] at h1;have h5:q*1440<=q*sz:=Int.mul_le_mul_of_nonneg_left hs h4;generalize q*sz=p at*;refine ⟨h4,?_,?_,?_,?_,e1⟩<;>omega
 ·subst hq;rw [Int.zero_mul] at*;refine ⟨?_,?_,?_,?_,?_,e1⟩<;>omega
theorem MC (N B kb cb tb n m n0 n1 n3 a r c0 d0 c:Nat) (A0 R0 A C D0:Option Addr) (ep lp st ho cy:Int) (ts trs:List Tr) (w0:World) (h:FrS B kb cb tb [I ep, .slice A0 n0 a,I lp, .slice R0 n1 r,I st, .slice C m c0,I ho, .slice D0 n3 d0, .slice A n c,I cy] A n ts C m trs ho w0) (hB:B<=w0.heap.size) (hl:ts.length=n) (hlt:trs.length=m)
  (htr:∀x∈trs,x.at_<ho) (htb:oG ts) (hc1:1<=cy) (hc2:cy<=2000000) (hh0: -2251799813685248<=ho) (hh1:ho<=2251799813685248) (hn:n<=10000000) (hm:m<=100000) (hN1:1<=N):
  IG Fence.wide N Tryz.prog 115 #[.pointer (some ⟨cb,0,none⟩), .pointer (some ⟨tb,0,none⟩)] (fun x:SS=> #[.agg #[I x.1.at_,I x.1.off]]) (fun xs=>xs= []/\n=0) (fun pre=>n≠0/\pre.map (·.1)= [(eY ts (cy*1440) ho).1]) (fun pre=>pre= []) B tb w0:=by
 intro l J Jx W hW hJ _ hG hY h0;have hfr:=h.keep (hW.mono hB);have hsz:B<=W.heap.size:=Nat.le_trans hB hW.size;have HJ:Hid (∀W',Below W.heap.size W W'->J [] W'):=ae (fun W' hb=>hJ [] W W' none h0 (BD hb) (fun r e=>nomatch e));have VV:Hid (∀W',Below W.heap.size W W'->FrS B kb cb tb [I ep, .slice A0 n0 a,I lp, .slice R0 n1 r,I st, .slice C m c0,I ho, .slice D0 n3 d0, .slice A n c,I cy] A n ts C m trs ho W'):=ae (fun W' hb=>hfr.keep (hb.mono hsz));have HG:=ae hG;have HY:=ae hY;have IA:=ae htb;have HTR:Hid (∀k,k<m->gU trs k<ho):=ae (fun k hk=>by rw [F5 (by omega)];exact htr _ (List.getElem_mem _));have HL:=ae hl;clear h hJ h0 hfr hG hY htb htr hW hl hlt;obtain ⟨sz,hszq⟩:∃s,cy*1440=s:=⟨_,rfl⟩;have hs1:1440<=sz/\sz<=2880000000:=by omega
 have dU:=ae hszq;rw [hszq];clear hszq;have ha0:=nG 0 IA.out;obtain ⟨q,hq⟩:∃q,rf ts sz ho=q:=⟨_,rfl⟩;have htd:=CW hq hs1.1 ha0.1 hh0 hh1;have HQ:=ae hq;obtain ⟨b0,hb0⟩:∃b,q*sz=b:=⟨_,rfl⟩;obtain ⟨z0,hz0⟩:∃z,gU ts 0=z:=⟨_,rfl⟩;have HZ0:=ae hz0;have HB0:=ae hb0;obtain ⟨_,_,hq3,hq4,hq5,hq6⟩:=htd;rw [hq6] at hq5;have ZG:=ae hq6;rw [hb0] at hq3 hq4 hq5;rw [hz0] at hq5 ha0;have HMX:Hid (max (ho - z0) 0 / sz=q):=ae (by rw [<-HZ0.out,Vd];exact hq);clear hq hb0 hz0 hq6;refine callsIn_wide.2 ?_;show Calls Tryz.prog _ #[.func (.yield l) #[] #[], .pointer (some ⟨cb,0,none⟩), .pointer (some ⟨tb,0,none⟩)] W _;have hs0:=VV.out W (Below.refl _ _);have p1:W.cell? ⟨cb,0,none⟩=some (.pointer (some ⟨kb,0,none⟩)):=cell_of_row W cb 0 _ _ _ hs0.cx;have k5:W.cell? ⟨kb,5,none⟩=some (.slice C m c0):=hs0.k.cell 5;clear hs0;go_enter Tryz.func115,Tryz.ntmps115;go_wp2_with fail;clear p1 k5
 go_loopw [15] (fun i wr=>∃k:Nat,k<=m/\i=I (k:Nat)/\Below W.heap.size W wr) (fun i _=>m - (intOf i).toNat)
 case atStart=>exact ⟨0,Nat.zero_le _,rfl,Below.refl _ _⟩
 case round=>
  obtain ⟨k,XW,rfl,hbw⟩:=hrel;have qh:=ae hbw;clear hbw;by_cases hk:k<m
  ·have i1:(k:Int)<(m:Int):=by omega
   have i0:(0:Int)<=(k:Int):=by omega
   have hs0:=VV.out wr qh.out;have TU:=HTR.out k hk;obtain ⟨b,off,rfl,hbB,hcl⟩:∃b off,C=some ⟨b,off,none⟩/\b<B/\∀k,k<m->wr.cell? ⟨b,off+k*2,none⟩=some (I (gU trs k))/\wr.cell? ⟨b,off+k*2+1,none⟩=some (I (jI trs k)):=by
    rcases hs0.tr with h1|h1
    ·omega
    ·exact h1
   obtain ⟨e0,e1⟩:=hcl k hk;have t0:wr.cell? ⟨tb,0,none⟩=some (I ho):=cell_of_row wr tb 0 _ _ _ hs0.tx;obtain ⟨xa,hxa⟩:∃x,gU trs k=x:=⟨_,rfl⟩;obtain ⟨xo,hxo⟩:∃x,jI trs k=x:=⟨_,rfl⟩;rw [hxa] at e0 TU;rw [hxo] at e1;clear hs0 hcl hxa hxo t0;go_upto_region 3 with (first
    |((with_reducible refine aZ 108 ?_);refine aG rfl 108 rfl #[I 0,I 0] (by kernel_rfl) ?_)
    |((with_reducible refine bY 108 ?_);go_must (refine wpList_store_row rfl _ _ _ rfl wr.heap.size #[I xa,I xo] rfl rfl 108 #[I 0,I 0] (heap_alloc_last wr _) (by kernel_rfl) rfl (by simp [Value.oneCell']) ?_)))
   have hb2:Below wr.heap.size wr ((wr.alloc (.cells #[I 0,I 0] 108)).setRow wr.heap.size #[I xa,I xo]):=aB (ag wr _) (Nat.le_refl _) _;have HX:=ae (AV.qy (AV.new wr #[I 0,I 0] 108) #[I xa,I xo]);have HB2:=ae (ah qh.out hb2);clear hb2 qh e0 e1;generalize (wr.alloc (.cells #[I 0,I 0] 108)).setRow wr.heap.size #[I xa,I xo]=W2 at HB2 HX ⊢;generalize wr.heap.size=xb at HX ⊢;have hs2:=VV.out W2 HB2.out;have t0:W2.cell? ⟨tb,0,none⟩=some (I ho):=cell_of_row W2 tb 0 _ _ _ hs2.tx;have x0:W2.cell? ⟨xb,0,none⟩=some (I xa):=HX.out.cell 0;have hnl:¬ho<=xa:=by omega
   clear hs2;go_wp2_with fail;go_roundw
   case rel=>exact ⟨k+1,by omega,by go_num,HB2.out⟩
   case measure=>simp [intOf];omega
  ·have i1:¬(k:Int)<(m:Int):=by omega
   have hs0:=VV.out wr qh.out;have p1:wr.cell? ⟨cb,0,none⟩=some (.pointer (some ⟨kb,0,none⟩)):=cell_of_row wr cb 0 _ _ _ hs0.cx;have k8:wr.cell? ⟨kb,8,none⟩=some (.slice A n c):=hs0.k.cell 8;by_cases hn0:n=0
   ·have HN:=ae hn0;have hnz:(n:Int)=0:=by omega
    clear hs0 hn0;go_wp2_with fail;refine bodyPost_ret (results_none rfl _ _ _) rfl ?_;exact ⟨⟨_,rfl⟩, .inl ⟨[],⟨rfl,HN.out⟩,HJ.out wr qh.out⟩⟩
   ·have hnn:¬(n:Int)=0:=by omega
    have hnp:0<n:=by omega
    obtain ⟨g,rfl,hgB,hcl⟩:∃g,A=some ⟨g,0,none⟩/\g<B/\∀k,k<n->wr.cell? ⟨g,k*2,none⟩=some (I (gU ts k))/\wr.cell? ⟨g,k*2+1,none⟩=some (I (jI ts k)):=by
     rcases hs0.ys with h1|h1
     ·omega
     ·exact h1
    have k6:wr.cell? ⟨kb,6,none⟩=some (I ho):=hs0.k.cell 6;have k9:wr.cell? ⟨kb,9,none⟩=some (I cy):=hs0.k.cell 9;have t0:wr.cell? ⟨tb,0,none⟩=some (I ho):=cell_of_row wr tb 0 _ _ _ hs0.tx;have f0:wr.frozen? ⟨tb,0,none⟩=false:=frozen_of_row wr tb 0 _ _ hs0.tx;clear hs0 hcl;go_wp2_with fail;go_still_tail 7,(by kernel_rfl);have hsc:wr.setCell ⟨tb,0,none⟩ (.int .i64 ho)=wr:=xJ t0;change wpList _ _ _ _ _ wr.drew;have t0:wr.drew.cell? ⟨tb,0,none⟩=some (I ho):=t0;have f0:wr.drew.frozen? ⟨tb,0,none⟩=false:=f0;go_wp2_with fail;clear hsc;have WI:Hid (Below W.heap.size W wr.drew):=ae (ah qh.out ((Below.refl _ wr).drew));clear p1 k8 k6 k9 t0 f0 qh;generalize wr.drew=V at WI ⊢;have hs0:=VV.out V WI.out;have VW:Hid (∀W',Below W.heap.size W W'->∀k,k<n->W'.cell? ⟨g,k*2,none⟩=some (I (gU ts k))/\W'.cell? ⟨g,k*2+1,none⟩=some (I (jI ts k))):=ae (fun W' hb k hk=>by
     rcases (VV.out W' hb).ys with h1|⟨g',e,_,hc⟩
     ·omega
     ·injection e with e;injection e with e;subst e;exact hc k hk)
    have Si:Hid (∀W',Below W.heap.size W W'->Calls Tryz.prog 114 #[.pointer (some ⟨kb,0,none⟩)] W' fun e w'=>e= .returned (I sz)/\w'=W'):=ae (fun W' hb=>by rw [<-dU.out];exact EX kb cy W' ((VV.out W' hb).k.cell 9) (by omega) (by omega));have p1:V.cell? ⟨cb,0,none⟩=some (.pointer (some ⟨kb,0,none⟩)):=cell_of_row V cb 0 _ _ _ hs0.cx;have t0:V.cell? ⟨tb,0,none⟩=some (I ho):=cell_of_row V tb 0 _ _ _ hs0.tx;have hrq:=fun k=>UR kb g n c cy ho z0 V (hs0.k.cell 8) (hs0.k.cell 9) (by have:=(VW.out V WI.out 0 hnp).1;rw [HZ0.out] at this;simpa using this) hnp hc1 (by omega) (by omega) (by omega) k;have hmq:=fun k=>wO kb cy V (hs0.k.cell 9) (by omega) (by omega) k;rw [dU.out] at hmq;rw [dU.out,HMX.out] at hrq;have HRQ:=ae hrq;have HMQ:=ae hmq;clear hrq hmq hs0;have wq:IntKind.i64.wrap (q*sz)=b0:=by rw [HB0.out,IntKind.wrap_i64];omega
    go_quiet ((first|(go_at_call 116;exact HRQ.out _)|(go_at_call 114;exact HMQ.out _)));obtain ⟨V2,hV2⟩:∃W,V.drewN nq=W:=⟨_,rfl⟩;rw [hV2];have HB2:Hid (Below W.heap.size W V2):=ae (by rw [<-hV2];exact ah WI.out (below_drewN' _ _));clear hV2 p1 t0 HRQ HMQ WI;go_wp2_with fail;clear wq
    go_loopw [6] (fun bv wr=>∃bs:Int,bv=I bs/\(bs=b0\/(bs=b0+sz/\∀j,j<n->gU ts j+b0<ho))/\Below W.heap.size W wr) (fun bv _=>(10000000000000000 - intOf bv).toNat)
    case atStart=>exact ⟨b0,rfl, .inl rfl,HB2.out⟩
    case round=>
     clear HB2;obtain ⟨bs,rfl,hbs,hbw⟩:=hrel;have qh:=ae hbw;have VS:=ae hbs;have hbb:0<=bs/\bs<=2260000000000000:=by rcases hbs with h|⟨h,_⟩<;>omega
     clear hbw hbs;have hs0:=VV.out wr qh.out;have p1:wr.cell? ⟨cb,0,none⟩=some (.pointer (some ⟨kb,0,none⟩)):=cell_of_row wr cb 0 _ _ _ hs0.cx;have k8:wr.cell? ⟨kb,8,none⟩=some (.slice (some ⟨g,0,none⟩) n c):=hs0.k.cell 8;clear hs0;go_wp2_with fail;clear p1 k8
     go_loopw [58] (fun i wr=>∃k:Nat,k<=n/\i=I (k:Nat)/\(∀j,j<k->gU ts j+bs<ho)/\Below W.heap.size W wr) (fun i _=>n - (intOf i).toNat)
     case atStart=>exact ⟨0,Nat.zero_le _,rfl,fun j hj=>by omega,qh.out⟩
     case round=>
      clear qh;obtain ⟨k2,hkn,rfl,hjl,hbw⟩:=hrel;have qh:=ae hbw;have HJL:=ae hjl;clear hbw hjl;by_cases hk2:k2<n
      ·have j1:(k2:Int)<(n:Int):=by omega
       have j0:(0:Int)<=(k2:Int):=by omega
       obtain ⟨e0,e1⟩:=VW.out wr qh.out k2 hk2;have hab:=nG k2 IA.out;obtain ⟨xa,hxa⟩:∃x,gU ts k2=x:=⟨_,rfl⟩;obtain ⟨xo,hxo⟩:∃x,jI ts k2=x:=⟨_,rfl⟩;have iW:=ae hxa;have Oe:=ae hxo;rw [hxa] at e0 hab;rw [hxo] at e1;clear hxa hxo;go_upto_region 12 with (first
        |((with_reducible refine aZ 108 ?_);refine aG rfl 108 rfl #[I 0,I 0] (by kernel_rfl) ?_)
        |((with_reducible refine bY 108 ?_);go_must (refine wpList_store_row rfl _ _ _ rfl wr.heap.size #[I xa,I xo] rfl rfl 108 #[I 0,I 0] (heap_alloc_last wr _) (by kernel_rfl) rfl (by simp [Value.oneCell']) ?_)))
       have hb2:Below wr.heap.size wr ((wr.alloc (.cells #[I 0,I 0] 108)).setRow wr.heap.size #[I xa,I xo]):=aB (ag wr _) (Nat.le_refl _) _;have HX:=ae (AV.qy (AV.new wr #[I 0,I 0] 108) #[I xa,I xo]);have HB2:=ae (ah qh.out hb2);have hxb:=qh.out.size;clear hb2 qh e0 e1;generalize (wr.alloc (.cells #[I 0,I 0] 108)).setRow wr.heap.size #[I xa,I xo]=W2 at HB2 HX ⊢;generalize wr.heap.size=xb at HX hxb ⊢;have x0:W2.cell? ⟨xb,0,none⟩=some (I xa):=HX.out.cell 0;have fx:W2.frozen? ⟨xb,0,none⟩=false:=HX.out.fZ 0;have wx:IntKind.i64.wrap (xa+bs)=xa+bs:=by rw [IntKind.wrap_i64];omega
       have Bg:Hid (AV xb 108 #[I (xa+bs),I xo] (W2.setCell ⟨xb,0,none⟩ (I (xa+bs)))):=ae (HX.out.put 0 _);have HB3:Hid (Below W.heap.size W (W2.setCell ⟨xb,0,none⟩ (I (xa+bs)))):=ae (HB2.out.setCell (p:=⟨xb,0,none⟩) hxb _);go_upto_region 13 with fail;clear x0 fx HX HB2;generalize W2.setCell ⟨xb,0,none⟩ (I (xa+bs))=W3 at Bg HB3 ⊢;have hs3:=VV.out W3 HB3.out;have t0:W3.cell? ⟨tb,0,none⟩=some (I ho):=cell_of_row W3 tb 0 _ _ _ hs3.tx;have x0:W3.cell? ⟨xb,0,none⟩=some (I (xa+bs)):=Bg.out.cell 0;have x1:W3.cell? ⟨xb,1,none⟩=some (I xo):=Bg.out.cell 1;clear hs3;by_cases hit:ho<=xa+bs
       ·have jQ:Hid ((eY ts sz ho).1=⟨xa+bs,xo⟩):=ae (by
         rcases VS.out with hb|⟨hb,TU⟩
         ·rw [yA HQ.out HL.out hk2 (fun j hj=>by rw [HB0.out,<-hb];exact HJL.out j hj) (by rw [HB0.out,iW.out,<-hb];exact hit),HB0.out,iW.out,Oe.out,hb]
         ·have hk0:k2=0:=by
           rcases Nat.eq_zero_or_pos k2 with h|h
           ·exact h
           ·have:=HJL.out 0 h;rw [HZ0.out] at this;omega
          subst hk0;rw [BB HQ.out HL.out hnp (fun j hj=>by rw [HB0.out];exact TU j hj),ZG.out,HB0.out,iW.out,Oe.out,hb])
        obtain ⟨fn,tmps,assign,body,hy,hR⟩:=HY.out [] ⟨⟨xa+bs,xo⟩,by show -4000000000000000<=xa+bs/\xa+bs<=4000000000000000;omega⟩ W3 (HJ.out W3 HB3.out);dsimp only at hy;refine (wpIn_wide (n:=N)).1 ?_
        gi_wp2
        first|refine hR.mono ?_ |refine ⟨trivial,hR.mono ?_⟩|refine ⟨trivial,fun _=>hN1,hR.mono ?_⟩
        rintro e W4 (⟨rfl,hJ4,_⟩|⟨rfl,hJx4⟩)
        ·exact absurd (HG.out _ _ hJ4) (by simp)
        ·gi_wp2
         go_wp2_with fail;refine bodyPost_ret (results_none rfl _ _ _) rfl ?_;exact ⟨⟨_,rfl⟩, .inr ⟨_,⟨hn0,by rw [jQ.out];rfl⟩,hJx4⟩⟩
       ·go_wp2_with fail;go_roundw
        case rel=>exact ⟨k2+1,by omega,by go_num,fun j hj=>by
         rcases Nat.lt_or_ge j k2 with h|h
         ·exact HJL.out j h
         ·have:j=k2:=by omega
          subst this;rw [iW.out];omega,HB3.out⟩
        case measure=>simp [intOf];omega
      ·have j1:¬(k2:Int)<(n:Int):=by omega
       have hz:=HJL.out 0 (by omega);rw [HZ0.out] at hz;have hbs1:bs=b0:=by
        rcases VS.out with hb|⟨hb,_⟩
        ·exact hb
        ·omega
       have HLT:Hid (∀j,j<n->gU ts j+b0<ho):=ae (fun j hj=>by rw [<-hbs1];exact HJL.out j (by omega));have HBE:=ae hbs1;clear hbs1 hz HJL;have hs0:=VV.out wr qh.out;have p1:wr.cell? ⟨cb,0,none⟩=some (.pointer (some ⟨kb,0,none⟩)):=cell_of_row wr cb 0 _ _ _ hs0.cx;clear hs0;go_wp2_with fail;refine (Si.out wr qh.out).mono ?_;rintro e w9 ⟨rfl,rfl⟩;go_wp2_with fail;go_roundw
       case rel=>exact ⟨bs+sz,by go_num, .inr ⟨by rw [HBE.out],HLT.out⟩,qh.out⟩
       case measure=>simp [intOf];omega
theorem Fb (c:Cal) (bg y:Int) (r r':Yr) (ts:List Tr):(pM c bg y r r' ts).length<=ts.length+1:=by
 unfold pM;split
 ·simp
 ·omega
theorem OZ {c:Cal} {r0 r1:Yr} {stop:Int} (hc:fJ c) (h0:ui c.au.length r0) (h1:ui c.au.length r1) (hs:stop<=4000000):∀(f:Nat) (bg y:Int) (ts:List Tr),0<=bg->oG ts->oG (pR c r0 r1 stop f bg y ts)/\(pR c r0 r1 stop f bg y ts).length<=ts.length+2*f
 |0,_,_,ts,_,h=>⟨h,by show ts.length<=_;omega⟩
 |f+1,bg,y,ts,hb,h=>by
  unfold pR;split
  ·have hy:=l7 c y hc;have h2:=OZ hc h0 h1 hs f (bg+uY c y) (y+1) _ (by omega) (Cm c bg y r1 r0 _ hc h1 h0 hb (by omega) (Cm c bg y r0 r1 ts hc h0 h1 hb (by omega) h));have h3:=Fb c bg y r1 r0 (pM c bg y r0 r1 ts);have h4:=Fb c bg y r0 r1 ts;exact ⟨h2.1,by have:=h2.2;omega⟩
  ·exact ⟨h,by omega⟩
theorem VB (z:Zn) (hc:fJ z.cal) (hy:qw z):oG (tJ z)/\(tJ z).length<=10000000:=by
 have h:oG (uy z)/\(uy z).length<=10000000:=by
  have hz:=xU z hc;have he:=hc.ep;rcases hy with e|⟨r0,r1,e,h0,h1⟩
  ·rw [show uy z= [] by unfold uy;rw [e]];exact ⟨(fun _ h=>nomatch h),by decide⟩
  ·rw [show uy z=pR z.cal r0 r1 (z.cal.bn+gy z) (gy z).toNat z.cal.bn 1 [] by unfold uy;rw [e]];have h2:=OZ hc h0 h1 (stop:=z.cal.bn+gy z) (by omega) (gy z).toNat z.cal.bn 1 [] he.1 (fun _ h=>nomatch h);exact ⟨h2.1,by have h3:=h2.2;rw [List.length_nil] at h3;omega⟩
 exact ⟨h.1.perm (uK z),by rw [(uK z).length_eq];exact h.2⟩
theorem YM (z:Zn) (s:Zs) (w:World) (hc:fJ z.cal) (h:iP w w.heap.size s z) (hy:qw z):
  Calls Tryz.prog 90 #[.agg (ay z s)] w fun e w'=>(eH (tJ z) (gy z*1440)=true/\e= .returned (.tuple #[.pointer (some ⟨w.heap.size+1,0,none⟩), .bool true])/\∃A n c,qW w (ay z s).toList (gy z) A n c (tJ z) w')\/(eH (tJ z) (gy z*1440)=false/\e= .returned (.tuple #[.pointer none, .bool false])/\Below w.heap.size w w'):=by
 rcases hy with e|⟨r0,r1,e,h0,h1⟩
 ·have h1:Kq z=gy z:=by unfold Kq gy;rw [e]
  have h2:Wv z= []:=by unfold Wv;rw [e]
  have h3:tJ z= []:=by
   have h4:uy z= []:=by unfold uy;rw [e]
   have h5:=uK z;rw [h4] at h5;exact h5.eq_nil
  have h6:=U5 z s w e;rw [h1,h2] at h6;rw [h3];refine h6.mono fun e w' h=> .inl ⟨rfl,h⟩
 ·exact tickG z s r0 r1 w hc h e h0 h1
def En (n l:Int):Bool:=decide (-l<=n)&&decide (n<=l)
theorem qG {n l:Int} (h: -l<=n/\n<=l):En n l=true:=by
 unfold En;rw [decide_eq_true h.1,decide_eq_true h.2];rfl
theorem Df {n l:Int} (h:¬(-l<=n/\n<=l)):En n l=false:=by
 unfold En;by_cases h1: -l<=n
 ·rw [decide_eq_false (fun h2=>h ⟨h1,h2⟩),Bool.and_false]
 ·rw [decide_eq_false h1,Bool.false_and]
theorem sD (n l:Int) (w:World) (hl:0<=l/\l<=4503599627370496):Calls Tryz.prog 89 #[I n,I l] w fun e w'=>e= .returned (.bool (En n l))/\w'=w:=Kt n l w hl
theorem Ku (n l:Int) (w:World) (hl:0<=l/\l<=4503599627370496) (k:Nat):Calls Tryz.prog 89 #[I n,I l] (w.drewN k) fun e w'=>e= .returned (.bool (En n l))/\∃m,w'=w.drewN m:=
 (sD n l (w.drewN k) hl).mono fun _ _ ⟨h3,h4⟩=>⟨h3,k,h4⟩
theorem pI {z:Zn} (h:¬Ag z):Cb z=false:=by
 cases e:Cb z with
 |false=>rfl
 |true=>exact absurd ((Gx z).1 e) h
section
variable {n:Nat} {P:Program} {ops:Array Oper} {Q:Exit->Act->World->Prop} {md:Region.Mode}
theorem QC {row:String} {args:Array Value} {w:World} {R:Value->World->Prop} (h:Rows P row args w R):RowsIn Fence.wide n P row args w R:=
 fun c cs _=>let ⟨v,w',r,s⟩:=h c cs;⟨v,w',r,stepsIn_wide.2 s⟩
theorem QW (o:Oper) (a:Act) (K:Act->World->Prop) (r:Result Next) (h:o.upon P a K Q r):o.uponIn Fence.wide n P a K Q r:=by
 have hd:Fence.wide.depth.isSome=true->1<=n:=fun h=>by cases h
 cases r with
 |ok x w'=>
  cases x with
  |value v=>exact h
  |skip=>exact h
  |defer d=>exact h
  |enter f args=>exact ⟨hd,callsIn_wide.2 (Calls.mono h (fun e w'' he=>by cases e<;>exact he))⟩
  |row row args=>exact ⟨hd,QC h⟩
  |round l f tmps assign body=>exact h.elim
  |_=>exact h.elim
 |halt x w'=>
  cases x with
  |panic v=>exact h
  |_=>exact h.elim
theorem NQ (hq:¬LetsOut Q):∀(fuel:Nat) (listed:Array Bool) (a:Act) (w:World),wpAny P md ops Q fuel listed a w->wpAnyIn Fence.wide n P md ops Q fuel listed a w:=by
 intro fuel
 induction fuel with
 |zero=>intro listed a w h;exact h
 |succ fuel ih=>
  intro listed a w h;refine ⟨h.1,fun i hi=>?_⟩;have h2:=wpOp_mono (fun a w=>ih _ a w) (h.2 i hi);unfold wpOp at h2;unfold wpOpIn;cases ho:ops[i]? with
  |none=>rw [ho] at h2;exact h2
  |some o=>
   rw [ho] at h2;simp only at h2 ⊢;split
   ·rename_i hw;rw [if_pos hw] at h2;rcases h2 with h2|⟨_,h2⟩
    ·exact ⟨fun _ _=>trivial,QW o a _ _ h2⟩
    ·exact absurd h2 hq
   ·rename_i hw;rw [if_neg hw] at h2;exact ⟨fun _ _=>trivial,h2⟩
theorem rY {S:World->Prop} {l0 id:Nat} {a:Act} {w:World} (hd:∀(i:Nat) (o:Oper),ops[i]? =some o->∀c,o.op≠ .defer c) (hm:P.follows .mixedOrders=true) (hq:¬LetsOut Q)
  (h:wpAnyH P .any ops Q S ops.size (Array.replicate ops.size false) a w.drew):(Code.region id ops true).wpIn (Fence.wide.inRound l0) n P Q a w:=
 wpIn_region_any hm (wE l0 hd _ _ _ _ (NQ hq _ _ _ _ (wpAny_of_held _ _ _ _ h)))
theorem UC {l:List Oper} (hd:(l.all fun o=>match o.op with| .defer _=>false|_=>true)=true):∀(i:Nat) (o:Oper),l.toArray[i]? =some o->∀c,o.op≠ .defer c:=by
 intro i o ho c hc;have h3:=List.all_eq_true.1 hd o (gZ (by rw [List.getElem?_toArray] at ho;exact ho));rw [hc] at h3;cases h3
end
theorem lQ (w:World) (g:Nat) (v:Value) (h:w.cell? ⟨g,0,none⟩=some v):(loadVar 140 ⟨g,0,none⟩).run Tryz.prog w= .ok v w:=by
 simp [go_sem,h]
theorem jT (w:World) (g:Nat) (v:Value) (h:w.cell? ⟨g,0,none⟩=some v):(loadVar 4 ⟨g,0,none⟩).run Tryz.prog w= .ok v w:=by
 simp [go_sem,h]
end Go.Proofs.YtbaehbbonkljpaaGreatDoor
