/- The texts Nj, Ng0, Nk, Jj, Jk, Nl0, Nl, in this order. -/
import Derived.Test.YtbaehbbonkljpaaGreatDoorT11
set_option maxRecDepth 10000
set_option maxHeartbeats 8000000
namespace Go.Proofs.YtbaehbbonkljpaaGreatDoor
open Go Go.RowKit
theorem alP (z:Zn)(s:Zs)(w:ae)(hy:z.J6= []):
  Calls Tryz.prog 90 #[.agg (JV z s)] w fun e w'=>e=.returned (.tuple #[.pointer (some ⟨w.heap.size+1,0,none⟩),.bool true])/\∃A n c,TB w (JV z s).toList (aeL z) A n c (ysF z) w':=by
 have h1:aeL z=1:=by unfold aeL;rw[hy]
 have h2:ysF z= []:=by unfold ysF;rw[hy]
 rw[h1,h2];obtain⟨cal,st,tr,ho,yr⟩:=z;obtain⟨A0,a,R0,r,C0,c0,D0,d0⟩:=s;simp only at hy;subst hy;obtain⟨ep,XM⟩:∃ep,cal.KI=ep:=⟨_,rfl⟩;obtain⟨lp,ZH⟩:∃lp,cal.Lm=lp:=⟨_,rfl⟩;obtain⟨n0,hn0⟩:∃n,cal.JQ.length=n:=⟨_,rfl⟩;obtain⟨n1,hn1⟩:∃n,cal.rules.length=n:=⟨_,rfl⟩;obtain⟨n2,hn2⟩:∃n,tr.length=n:=⟨_,rfl⟩;have e0:JV ⟨cal,st,tr,ho,[]⟩ ⟨A0,a,R0,r,C0,c0,D0,d0⟩= #[I ep,.slice A0 n0 a,I lp,.slice R0 n1 r,I st,.slice C0 n2 c0,I ho,.slice D0 0 d0]:=by rw[<-XM,<-ZH,<-hn0,<-hn1,<-hn2];rfl
 rw[e0];clear h1 h2 e0 XM ZH hn0 hn1 hn2;show Calls Tryz.prog _ _ w (fun e w'=>e=.returned (.tuple #[.pointer (some ⟨w.heap.size+1,0,none⟩),.bool true])/\∃A n c,TB w [I ep,.slice A0 n0 a,I lp,.slice R0 n1 r,I st,.slice C0 n2 c0,I ho,.slice D0 0 d0] 1 A n c [] w');have hone:(#[I ep,.slice A0 n0 a,I lp,.slice R0 n1 r,I st,.slice C0 n2 c0,I ho,.slice D0 0 d0,.slice none 0 0,I 1]:ax ah).all (·.oneCell')=true:=by simp[Value.oneCell']
 have HV:=JJ (AV.new w #[I ep,.slice A0 n0 a,I lp,.slice R0 n1 r,I st,.slice C0 n2 c0,I ho,.slice D0 0 d0] 69);go_enter Tryz.func90,Tryz.ntmps90;go_wp2_with(first
  |((with_reducible refine Nb 69 ?_);refine J3 rfl _ _ rfl w.heap.size rfl #[I ep,.slice A0 n0 a,I lp,.slice R0 n1 r,I st,.slice C0 n2 c0,I ho,.slice D0 0 d0] HV.out.Nc _ cu rfl (by kernel_rfl) ?_)
  |((with_reducible refine LY 205 ?_);refine KE rfl 205 rfl #[I ep,.slice A0 n0 a,I lp,.slice R0 n1 r,I st,.slice C0 n2 c0,I ho,.slice D0 0 d0,.slice none 0 0,I 1] (by kernel_rfl) ?_))
 have HK:Hid (TB w [I ep,.slice A0 n0 a,I lp,.slice R0 n1 r,I st,.slice C0 n2 c0,I ho,.slice D0 0 d0] 1 none 0 0 [] ((w.alloc (.cells #[I ep,.slice A0 n0 a,I lp,.slice R0 n1 r,I st,.slice C0 n2 c0,I ho,.slice D0 0 d0] 69)).alloc (.cells #[I ep,.slice A0 n0 a,I lp,.slice R0 n1 r,I st,.slice C0 n2 c0,I ho,.slice D0 0 d0,.slice none 0 0,I 1] 205))):=JJ ⟨JL (JM w _) (JM _ _),HV.out.below (JM _ _),by have:=AV.new (w.alloc (.cells #[I ep,.slice A0 n0 a,I lp,.slice R0 n1 r,I st,.slice C0 n2 c0,I ho,.slice D0 0 d0] 69)) #[I ep,.slice A0 n0 a,I lp,.slice R0 n1 r,I st,.slice C0 n2 c0,I ho,.slice D0 0 d0,.slice none 0 0,I 1] 205;rw[RZ] at this;exact this,dD _ _ _ _,rfl⟩;clear HV;generalize (w.alloc (.cells #[I ep,.slice A0 n0 a,I lp,.slice R0 n1 r,I st,.slice C0 n2 c0,I ho,.slice D0 0 d0] 69)).alloc (.cells #[I ep,.slice A0 n0 a,I lp,.slice R0 n1 r,I st,.slice C0 n2 c0,I ho,.slice D0 0 d0,.slice none 0 0,I 1] 205)=W0 at HK⊢;have v7:W0.cell? ⟨w.heap.size,7,none⟩=some (.slice D0 0 d0):=HK.out.z.cell 7;go_wp2_with fail;go_ret2;exact⟨rfl,none,0,0,HK.out⟩
theorem alV {ts:ag Tr}{size t:Int}:max (t - Nz ts 0) 0 / size=TU ts size t:=by
 unfold TU;split
 ·rw[Int.max_eq_left (by omega),gK (by omega)]
 ·rw[Int.max_eq_right (by omega),Int.zero_ediv]
theorem akA (kb:Nat)(t:Int)(w:ae):Calls Tryz.prog 91 #[.pointer (some ⟨kb,0,none⟩),I t] w fun e w'=>e=.returned (.func (.func 115) #[] #[.pointer (some ⟨w.heap.size,0,none⟩),.pointer (some ⟨w.heap.size+1,0,none⟩)])/\w'=(w.alloc (.cells #[.pointer (some ⟨kb,0,none⟩)] 140)).alloc (.cells #[I t] 3):=by
 go_enter Tryz.func91,Tryz.ntmps91;go_wp2_with fail;go_ret;exact⟨rfl,rfl⟩
def OL {β:Type}(B tb:Nat)(J:β->ae->Prop):Prop:=
 ∀s W W' row,J s W->W.grownBy W' row->(∀r,row=some r->B<=r\/r=tb)->J s W'
theorem OL.alloc {β:Type}{B tb:Nat}{J:β->ae->Prop}(h:OL B tb J){s:β}{W:ae}(o:Obj)(hs:J s W):J s (W.alloc o):=
 h s W _ none hs (World.grownBy_alloc W o none) (fun _ e=>nomatch e)
theorem OL.putObj {β:Type}{B tb:Nat}{J:β->ae->Prop}(h:OL B tb J){s:β}{W:ae}{l:Nat}(o':Obj)(hs:J s W)(hB:B<=l):J s (W.putObj l o'):=
 h s W _ (some l) hs (ng W l o') (fun r e=>by cases e;exact .inl hB)
def adz {α:Type}(F:Fence)(n:Nat)(P:Program)(g:Nat)(lb:ax ah)(encs:α->ax ah)(S Sp G:ag α->Prop)(B tb:Nat)(w:ae):Prop:=
 ∀(l:Nat) (J Jx:ag α->ae->Prop) (W:ae),ai w.heap.size w W->OL W.heap.size tb J->OL W.heap.size tb Jx->(∀pre W',J pre W'->G pre)->
  (∀pre x W1,J pre W1->YieldAt F (n - 1) P l (encs x) W1 fun e W'=>
   (e=.returned (.bool true)/\J (pre++ [x]) W'/\ai B W1 W')\/(e=.returned (.bool false)/\Jx (pre++ [x]) W'))->
  J [] W->
  CallsIn F n P g (#[.func (.yield l) #[] #[]]++lb) W fun e W'=>(∃v,e=.returned v)/\((∃xs,S xs/\J xs W')\/(∃pre,Sp pre/\Jx pre W'))
section
variable {α:Type}{F:Fence}{n B tb:Nat}{P:Program}{g:Operand}{ps:ax Tmp}{assign body:Code}{Q:Exit->Act->ae->Prop}{a:Act}{w w0:ae}
 {gf:Nat}{lb:ax ah}{encs:α->ax ah}{S Sp G:ag α->Prop}
theorem Vr (hro:F.round=none)(h1:1<=n)(hg:a.eval g=.func (.func gf) #[] lb)(hFg:F.fn gf)(eg:∀args w,(callFunc gf args).run P w=.ok (.enter gf args) w)
  (hseq:adz F (n - 1) P gf lb encs S Sp G B tb w0)(htb:tb<w.heap.size)(hB:B<=w.heap.size)(hb0:ai w0.heap.size w0 w)(hps:∀x,(encs x).size=ps.size)
  (I:ag α->ae->Prop)(Ix:Code->ag α->ae->Prop)(hI:OL w.heap.size tb I)(hIx:∀c,OL w.heap.size tb (Ix c))(h0:I [] w)(hG:∀pre W,I pre W->G pre)(Ax:α->Act->ae->Prop)(hAx:∀x a',OwnFrom w.heap.size (fun (_:Unit) W=>Ax x a' W))
  (hassign:∀(l:Nat) (pre:ag α) (x:α) (W:ae) (K:Act->ae->Prop),I pre W->(∀a' W',KeepsFrom w.heap.size W W'->ai B W W'->I pre W'->Ax x a' W'->K a' W')->
   assign.wpIn (F.inRound l) (n - 1 - 1) P (Exit.then K (fun _ _ _=>False)) {tmps:=(ps.zip (encs x)).foldl (fun t (p,v)=>t.setIfInBounds p v) a.tmps,defers:= []} W)
  (hbody:∀(l:Nat) (pre:ag α) (x:α) (a':Act) (W:ae),w.heap.size<=l->(∃r,W.heap[l]? =some (.loop r))->I pre W->Ax x a' W->body.wpIn (F.inRound l) (n - 1 - 1) P (ownPostG w.heap.size (ai B) I Ix (pre++ [x]) W) a' W)
  (hdone:∀(D:Nat) (xs:ag α) (W:ae),w.heap.size<=D->S xs->I xs W->W.heap[D]? =some (.deferred (some []))->Q .normal {a with defers:= {target:=.collected D,args:= #[]}::a.defers} W)
  (hstop:∀(D:Nat) (c:Code) (pre:ag α) (W:ae),w.heap.size<=D->Sp pre->Ix c pre W->W.heap[D]? =some (.deferred (some []))->c.wpIn F n P Q {a with defers:= {target:=.collected D,args:= #[]}::a.defers} W):
  (Code.rangeFunc g ps assign body).wpIn F n P Q a w:=by
 refine wpIn_rangeFunc (fun fn hfn=>?_);rw[hro]
 let XR:LoopState->aj Code->Obj:=fun st pe=>.loop {state:=st,pending:=pe,fn,tmps:=a.tmps,params:=ps,assign,body,defers:=w.heap.size}
 obtain⟨L,hLs⟩:∃L,w.heap.size+1=L:=⟨_,rfl⟩;have hDL:w.heap.size≠L:=by omega
 have hwL:w.heap.size<=L:=by omega
 obtain⟨V,hV⟩:∃V,(w.alloc (.deferred (some []))).alloc (XR .ready none)=V:=⟨_,rfl⟩;have hVs:V.heap.size=w.heap.size+2:=by rw[<-hV];simp
 have hVL:V.heap[L]? =some (XR .ready none):=by
  rw[<-hV,<-hLs,<-dO w (.deferred (some []))];exact World.alloc_heap_new _ _
 have hVD:V.heap[w.heap.size]? =some (.deferred (some [])):=by
  rw[<-hV];exact(aV _ _ _ (by simp)).trans (World.alloc_heap_new w _)
 have hVb:ai w0.heap.size w0 V:=by
  rw[<-hV];exact hb0.trans ((((aW _ w).alloc (ay _) _).alloc (by simp) _).mono hb0.size)
 have hVI:I [] V:=by rw[<-hV];exact hI.alloc _ (hI.alloc _ h0)
 have far:∀ {row:aj Nat},(∀r,row=some r->V.heap.size<=r\/r=tb)->(∀r,row=some r->w.heap.size<=r\/r=tb):=by
  intro row h r e;rcases h r e with h2|h2
  ·exact .inl (by omega)
  ·exact .inr h2
 have stay:∀ {X Y:ae} {row:aj Nat} {k:Nat} {o:Obj},X.grownBy Y row->(∀r,row=some r->V.heap.size<=r\/r=tb)->w.heap.size<=k->k<=L->X.heap[k]? =some o->Y.heap[k]? =some o:=
  fun hg' hr h1 h2 hk=>(hg'.block _ (KY.1 hk).1 (fun e=>by
   rcases hr _ e.symm with h3|h3<;>omega)).trans hk
 refine⟨L,[{target:=.collected w.heap.size,args:= #[]}],V,{target:=.fn (.func gf) lb,args:= #[.func (.yield L) #[] #[]]},V,gf,#[.func (.yield L) #[] #[]]++lb,V,?_,?_,?_,?_,fun _=>h1,?_⟩
 ·rw[<-hV,<-hLs];exact run_enterLoop_outer _ _ _ _ _
 ·simp only[resolve,hg];simp[go_sem]
 ·intro f' hf';simp only[Target.leads] at hf';simp at hf';exact hf'▸hFg
 ·simp[invoke,go_sem,eg]
 have key:=hseq L (fun pre W=>I pre W/\W.heap[L]? =some (XR .ready none)/\W.heap[w.heap.size]? =some (.deferred (some [])))
  (fun pre W=>∃c,Ix c pre W/\W.heap[L]? =some (XR .done (some c))/\W.heap[w.heap.size]? =some (.deferred (some [])))
  V hVb (fun s X Y row hs hg' hr=>⟨hI s X Y row hs.1 hg' (far hr),stay hg' hr hwL (ay _) hs.2.1,stay hg' hr (ay _) hwL hs.2.2⟩)
  (fun s X Y row hs hg' hr=>by
   obtain⟨c,h2,h3,h4⟩:=hs;exact⟨c,hIx c s X Y row h2 hg' (far hr),stay hg' hr hwL (ay _) h3,stay hg' hr (ay _) hwL h4⟩)
  (fun pre W h=>hG pre W h.1)
 refine(key ?_ ⟨hVI,hVL,hVD⟩).mono ?_
 ·rintro pre x W ⟨hi,hl,hd⟩;refine⟨fn,_,assign,body,run_yield (P:=P) (args:=encs x) hl (hps x),roundIn_of_wpIn hfn (hassign _ pre x W _ hi ?_)⟩;intro a' X hk1 hb1 hi1 hax;have hl1:=hk1.same _ _ hwL hl rfl;have hd1:=hk1.same _ _ (ay _) hd rfl;have hlt:=(KY.1 hl1).1;refine⟨_,run_beginRound hl1 rfl,?_⟩;obtain⟨Y,hY⟩:∃Y,X.putObj L (XR .busy none)=Y:=⟨_,rfl⟩;have hYl:Y.heap[L]? =some (XR .busy none):=by rw[<-hY];exact jI hlt
  have hYd:Y.heap[w.heap.size]? =some (.deferred (some [])):=by rw[<-hY];exact(bQ hDL).trans hd1
  have hYb:ai B X Y:=by rw[<-hY];exact l9 (w:=w) hB X L _ _ hwL hl1 rfl rfl
  have hYI:I pre Y:=by rw[<-hY];exact hI.putObj _ hi1 hwL
  have hYA:Ax x a' Y:=by rw[<-hY];exact(hAx x a').putObj (s:=()) _ hax hwL hl1 rfl
  have hgo:body.wpIn (F.inRound L) (n - 1 - 1) P (ownPostG w.heap.size (ai B) I Ix (pre++ [x]) Y) a' Y:=hbody L pre x a' Y hwL ⟨_,hYl⟩ hYI hYA;have leave:∀(jump:aj Code) (Z:ae),KeepsFrom w.heap.size Y Z->Z.heap[L]? =some (XR .busy none)/\(Instr.endRound L jump).run P Z=.ok (.bool jump.isNone) (Z.putObj L (XR (if jump.isNone then .ready else .done) jump))/\
    (Z.putObj L (XR (if jump.isNone then .ready else .done) jump)).heap[L]? =some (XR (if jump.isNone then .ready else .done) jump)/\(Z.putObj L (XR (if jump.isNone then .ready else .done) jump)).heap[w.heap.size]? =some (.deferred (some [])):=by
   intro jump Z hk;have h3:=hk.same _ _ hwL hYl rfl;exact⟨h3,run_endRound (P:=P) jump h3,jI (KY.1 h3).1,(bQ hDL).trans (hk.same _ _ (ay _) hYd rfl)⟩
  have out:∀(c:Code) (Z:ae),KeepsFrom w.heap.size Y Z/\Ix c (pre++ [x]) Z->∃v W',(Instr.endRound L (some c)).run P Z=.ok v W'/\((Ending.returned v=.returned (.bool true)/\(I (pre++ [x]) W'/\W'.heap[L]? =some (XR .ready none)/\W'.heap[w.heap.size]? =some (.deferred (some [])))/\ai B W W')\/
    (Ending.returned v=.returned (.bool false)/\∃c,Ix c (pre++ [x]) W'/\W'.heap[L]? =some (XR .done (some c))/\W'.heap[w.heap.size]? =some (.deferred (some [])))):=by
   rintro c Z ⟨hk,hz⟩;obtain⟨h3,h4,h5,h6⟩:=leave (some c) Z hk;exact⟨_,_,h4,.inr ⟨rfl,c,(hIx c).putObj _ hz hwL,h5,h6⟩⟩
  rw[show X.putObj L (Obj.loop _)=Y from hY];refine wpIn_mono hgo ?_;rintro e a3 Z hp;cases e with
  |normal=>
   obtain⟨hk,hbz,hz⟩:=hp;obtain⟨h3,h4,h5,h6⟩:=leave none Z hk;exact⟨_,_,h4,.inl ⟨rfl,⟨hI.putObj _ hz hwL,h5,h6⟩,hb1.trans (hYb.trans (hbz.trans (l9 (w:=w) hB Z L _ _ hwL h3 rfl rfl)))⟩⟩
  |ret=>exact out .ret Z hp
  |exit id=>exact out (.exit id) Z hp
  |goto t=>exact out (.goto t) Z hp
  |panic ch=>exact hp.elim
  |outgrown=>exact hp.elim
 ·rintro e Z ⟨⟨v,rfl⟩,h⟩;rcases h with ⟨xs,hs,hi,hl,hd⟩|⟨pre,hs,c,hi,hl,hd⟩
  ·exact⟨none,_,run_endLoop (P:=P) hl (by simp),hdone _ xs _ (ay _) hs (hI.putObj _ hi hwL) ((bQ hDL).trans hd)⟩
  ·exact⟨some c,_,run_endLoop (P:=P) hl (by simp),hstop _ c pre _ (ay _) hs ((hIx c).putObj _ hi hwL) ((bQ hDL).trans hd)⟩
end
structure FrS (B kb cb tb:Nat)(kc:ag ah)(A:aj Addr)(n:Nat)(ts:ag Tr)(C:aj Addr)(m:Nat)(trs:ag Tr)(t:Int)(W:ae):Prop where
 k:AV kb 205 kc.toArray W
 ys:n=0\/∃g,A=some ⟨g,0,none⟩/\g<B/\∀k,k<n->W.cell? ⟨g,k*2,none⟩=some (I (Nz ts k))/\W.cell? ⟨g,k*2+1,none⟩=some (I (Pn ts k))
 tr:m=0\/∃b off,C=some ⟨b,off,none⟩/\b<B/\∀k,k<m->W.cell? ⟨b,off+k*2,none⟩=some (I (Nz trs k))/\W.cell? ⟨b,off+k*2+1,none⟩=some (I (Pn trs k))
 cx:W.heap[cb]? =some (.cells #[.pointer (some ⟨kb,0,none⟩)] 140 (0,0))
 tx:W.heap[tb]? =some (.cells #[I t] 3 (0,0))
 lt:kb<B/\cb<B/\tb<B
theorem FrS.keep {B kb cb tb n m:Nat}{kc:ag ah}{A C:aj Addr}{ts trs:ag Tr}{t:Int}{W W':ae}(h:FrS B kb cb tb kc A n ts C m trs t W)(hb:ai B W W'):FrS B kb cb tb kc A n ts C m trs t W':=by
 obtain⟨h1,h2,h3⟩:=h.lt;refine⟨⟨(hb.block _ h1).trans h.k.var⟩,?_,?_,(hb.block _ h2).trans h.cx,(hb.block _ h3).trans h.tx,h.lt⟩
 ·rcases h.ys with h0|⟨g,e,hg,hc⟩
  ·exact .inl h0
  ·exact .inr ⟨g,e,hg,fun k hk=>⟨(hb.cell (p:=⟨g,k*2,none⟩) hg).trans (hc k hk).1,(hb.cell (p:=⟨g,k*2+1,none⟩) hg).trans (hc k hk).2⟩⟩
 ·rcases h.tr with h0|⟨b,off,e,hg,hc⟩
  ·exact .inl h0
  ·exact .inr ⟨b,off,e,hg,fun k hk=>⟨(hb.cell (p:=⟨b,off+k*2,none⟩) hg).trans (hc k hk).1,(hb.cell (p:=⟨b,off+k*2+1,none⟩) hg).trans (hc k hk).2⟩⟩
theorem Zw {w w':ae}(h:ai w.heap.size w w'):w.grownBy w' none:=⟨h.os,h.tape,h.output,h.size,fun k hk _=>h.block k hk⟩
abbrev aj9:= {x:Tr // -4000000000000000<=x.at_/\x.at_<=4000000000000000}
theorem aos (kb g n c:Nat)(cy t t0:Int)(w:ae)(h8:w.cell? ⟨kb,8,none⟩=some (.slice (some ⟨g,0,none⟩) n c))(h9:w.cell? ⟨kb,9,none⟩=some (I cy))(h0:w.cell? ⟨g,0,none⟩=some (I t0))(hn:0<n)(hc1:1<=cy)(hc2:cy<=2000000)
  (ht: -2251799813685248<=t/\t<=2251799813685248)(ht0: -100000<=t0/\t0<=10000000000):Calls Tryz.prog 116 #[.pointer (some ⟨kb,0,none⟩),I t] w fun e w'=>e=.returned (I (max (t - t0) 0 / (cy*1440)))/\∃m,w'=w.drewN m:=by
 have q1:¬cy*1440=0:=by omega
 have q2:¬cy*1440= -1:=by omega
 go_enter Tryz.func116,Tryz.ntmps116;go_wp2_with fail;go_quiet ((go_at_call 114;exact Wq _ cy w h9 (by omega) (by omega) _));go_wp2_with fail;go_ret;exact⟨rfl,_,rfl⟩
theorem alA (kb g n c:Nat)(cy t t0:Int)(w:ae)(h8:w.cell? ⟨kb,8,none⟩=some (.slice (some ⟨g,0,none⟩) n c))(h9:w.cell? ⟨kb,9,none⟩=some (I cy))(h0:w.cell? ⟨g,0,none⟩=some (I t0))(hn:0<n)(hc1:1<=cy)(hc2:cy<=2000000)
  (ht: -2251799813685248<=t/\t<=2251799813685248)(ht0: -100000<=t0/\t0<=10000000000)(k:Nat):Calls Tryz.prog 116 #[.pointer (some ⟨kb,0,none⟩),I t] (w.drewN k) fun e w''=>e=.returned (I (max (t - t0) 0 / (cy*1440)))/\∃m,w''=w.drewN m:=
 Calls.quiet_of (aos kb g n c cy t t0 (w.drewN k) h8 h9 h0 hn hc1 hc2 ht ht0)
theorem aal {ts:ag Tr}{sz t q:Int}(hq:TU ts sz t=q)(hs:1440<=sz)(ha: -100000<=Nz ts 0)(ht0: -2251799813685248<=t)(ht:t<=2251799813685248):0<=q/\q<=2300000000000000/\0<=q*sz/\q*sz<=2252000000000000/\t<=Nz ts 0+(q+1)*sz/\(q+1)*sz=q*sz+sz:=by
 have e1:(q+1)*sz=q*sz+sz:=by rw[Int.add_mul,Int.one_mul]
 unfold TU at hq;split at hq
 ·rename_i h;rw[gK (by omega)] at hq;have h1:=Int.emod_add_mul_ediv (t - Nz ts 0) sz;have h2:=iL (t - Nz ts 0) (show sz≠0 by omega);have h3:=gG (t - Nz ts 0) (show 0<sz by omega);have h4:0<=(t - Nz ts 0) / sz:=Int.ediv_nonneg (by omega) (by omega);rw[hq] at h1 h4;rw[Int.mul_comm] at h1;have h5:q*1440<=q*sz:=Int.mul_le_mul_of_nonneg_left hs h4;generalize q*sz=p at*;refine⟨h4,?_,?_,?_,?_,e1⟩<;>omega
 ·subst hq;rw[lI] at*;refine⟨?_,?_,?_,?_,?_,e1⟩<;>omega
theorem afJ (N B kb cb tb n m n0 n1 n3 a r c0 d0 c:Nat)(A0 R0 A C D0:aj Addr)(ep lp st ho cy:Int)(ts trs:ag Tr)(w0:ae)(h:FrS B kb cb tb [I ep,.slice A0 n0 a,I lp,.slice R0 n1 r,I st,.slice C m c0,I ho,.slice D0 n3 d0,.slice A n c,I cy] A n ts C m trs ho w0)(hB:B<=w0.heap.size)(hl:ts.length=n)(hlt:trs.length=m)
  (htr:∀x∈trs,x.at_<ho)(htb:Rz ts)(hc1:1<=cy)(hc2:cy<=2000000)(hh0: -2251799813685248<=ho)(hh1:ho<=2251799813685248)(hn:n<=10000000)(hm:m<=100000)(hN1:1<=N):
  adz Fence.wide N Tryz.prog 115 #[.pointer (some ⟨cb,0,none⟩),.pointer (some ⟨tb,0,none⟩)] (fun x:aj9=> #[.agg #[I x.1.at_,I x.1.off]]) (fun xs=>xs= []/\n=0) (fun pre=>n≠0/\pre.map (·.1)= [(MH ts (cy*1440) ho).1]) (fun pre=>pre= []) B tb w0:=by
 intro l J Jx W hW hJ _ hG hY h0;have hfr:=h.keep (hW.mono hB);have hsz:B<=W.heap.size:=aO hB hW.size;have HJ:Hid (∀W',ai W.heap.size W W'->J [] W'):=JJ (fun W' hb=>hJ [] W W' none h0 (Zw hb) (fun r e=>nomatch e));have HFR:Hid (∀W',ai W.heap.size W W'->FrS B kb cb tb [I ep,.slice A0 n0 a,I lp,.slice R0 n1 r,I st,.slice C m c0,I ho,.slice D0 n3 d0,.slice A n c,I cy] A n ts C m trs ho W'):=JJ (fun W' hb=>hfr.keep (hb.mono hsz));have HG:=JJ hG;have HY:=JJ hY;have HTB:=JJ htb;have HTR:Hid (∀k,k<m->Nz trs k<ho):=JJ (fun k hk=>by rw[ab8 (by omega)];exact htr _ (jV _));have HL:=JJ hl;clear h hJ h0 hfr hG hY htb htr hW hl hlt;obtain⟨sz,asf⟩:∃s,cy*1440=s:=⟨_,rfl⟩;have hs1:1440<=sz/\sz<=2880000000:=by omega
 have L6:=JJ asf;rw[asf];clear asf;have ha0:=QT 0 HTB.out;obtain⟨q,hq⟩:∃q,TU ts sz ho=q:=⟨_,rfl⟩;have htd:=aal hq hs1.1 ha0.1 hh0 hh1;have HQ:=JJ hq;obtain⟨b0,hb0⟩:∃b,q*sz=b:=⟨_,rfl⟩;obtain⟨z0,hz0⟩:∃z,Nz ts 0=z:=⟨_,rfl⟩;have HZ0:=JJ hz0;have HB0:=JJ hb0;obtain⟨_,_,hq3,hq4,hq5,hq6⟩:=htd;rw[hq6] at hq5;have HQ6:=JJ hq6;rw[hb0] at hq3 hq4 hq5;rw[hz0] at hq5 ha0;have HMX:Hid (max (ho - z0) 0 / sz=q):=JJ (by rw[<-HZ0.out,alV];exact hq);clear hq hb0 hz0 hq6;refine gX.2 ?_;show Calls Tryz.prog _ #[.func (.yield l) #[] #[],.pointer (some ⟨cb,0,none⟩),.pointer (some ⟨tb,0,none⟩)] W _;have hs0:=HFR.out W (aW _ _);have p1:W.cell? ⟨cb,0,none⟩=some (.pointer (some ⟨kb,0,none⟩)):=aC W cb 0 _ _ _ hs0.cx;have k5:W.cell? ⟨kb,5,none⟩=some (.slice C m c0):=hs0.k.cell 5;clear hs0;go_enter Tryz.func115,Tryz.ntmps115;go_wp2_with fail;clear p1 k5
 go_loopw [15] (fun i wr=>∃k:Nat,k<=m/\i=I (k:Nat)/\ai W.heap.size W wr) (fun i _=>m - (intOf i).toNat)
 case atStart=>exact⟨0,aG _,rfl,aW _ _⟩
 case round=>
  obtain⟨k,hkm,rfl,hbw⟩:=hrel;have Rx:=JJ hbw;clear hbw;by_cases hk:k<m
  ·have i1:(k:Int)<(m:Int):=by omega
   have i0:(0:Int)<=(k:Int):=by omega
   have hs0:=HFR.out wr Rx.out;have akL:=HTR.out k hk;obtain⟨b,off,rfl,hbB,hcl⟩:∃b off,C=some ⟨b,off,none⟩/\b<B/\∀k,k<m->wr.cell? ⟨b,off+k*2,none⟩=some (I (Nz trs k))/\wr.cell? ⟨b,off+k*2+1,none⟩=some (I (Pn trs k)):=by
    rcases hs0.tr with h1|h1
    ·omega
    ·exact h1
   obtain⟨e0,e1⟩:=hcl k hk;have t0:wr.cell? ⟨tb,0,none⟩=some (I ho):=aC wr tb 0 _ _ _ hs0.tx;obtain⟨xa,hxa⟩:∃x,Nz trs k=x:=⟨_,rfl⟩;obtain⟨xo,hxo⟩:∃x,Pn trs k=x:=⟨_,rfl⟩;rw[hxa] at e0 akL;rw[hxo] at e1;clear hs0 hcl hxa hxo t0;go_upto_region 3 with (first
    |((with_reducible refine Kz 108 ?_);refine JW rfl 108 rfl #[I 0,I 0] (by kernel_rfl) ?_)
    |((with_reducible refine Lj 108 ?_);refine aB rfl _ _ _ rfl wr.heap.size #[I xa,I xo] rfl rfl 108 #[I 0,I 0] (aF wr _) (by kernel_rfl) rfl (by simp[Value.oneCell']) ?_))
   have hb2:ai wr.heap.size wr ((wr.alloc (.cells #[I 0,I 0] 108)).setRow wr.heap.size #[I xa,I xo]):=JR (JM wr _) (ay _) _;have HX:=JJ (AV.SA (AV.new wr #[I 0,I 0] 108) #[I xa,I xo]);have HB2:=JJ (JL Rx.out hb2);clear hb2 Rx e0 e1;generalize (wr.alloc (.cells #[I 0,I 0] 108)).setRow wr.heap.size #[I xa,I xo]=W2 at HB2 HX⊢;generalize wr.heap.size=xb at HX⊢;have hs2:=HFR.out W2 HB2.out;have t0:W2.cell? ⟨tb,0,none⟩=some (I ho):=aC W2 tb 0 _ _ _ hs2.tx;have x0:W2.cell? ⟨xb,0,none⟩=some (I xa):=HX.out.cell 0;have hnl:¬ho<=xa:=by omega
   clear hs2;go_wp2_with fail;go_roundw
   case rel=>exact⟨k+1,by omega,by go_num,HB2.out⟩
   case measure=>simp[intOf];omega
  ·have i1:¬(k:Int)<(m:Int):=by omega
   have hs0:=HFR.out wr Rx.out;have p1:wr.cell? ⟨cb,0,none⟩=some (.pointer (some ⟨kb,0,none⟩)):=aC wr cb 0 _ _ _ hs0.cx;have k8:wr.cell? ⟨kb,8,none⟩=some (.slice A n c):=hs0.k.cell 8;by_cases hn0:n=0
   ·have HN:=JJ hn0;have hnz:(n:Int)=0:=by omega
    clear hs0 hn0;go_wp2_with fail;refine aX (lG rfl _ _ _) rfl ?_;exact⟨⟨_,rfl⟩,.inl ⟨[],⟨rfl,HN.out⟩,HJ.out wr Rx.out⟩⟩
   ·have hnn:¬(n:Int)=0:=by omega
    have hnp:0<n:=by omega
    obtain⟨g,rfl,hgB,hcl⟩:∃g,A=some ⟨g,0,none⟩/\g<B/\∀k,k<n->wr.cell? ⟨g,k*2,none⟩=some (I (Nz ts k))/\wr.cell? ⟨g,k*2+1,none⟩=some (I (Pn ts k)):=by
     rcases hs0.ys with h1|h1
     ·omega
     ·exact h1
    have k6:wr.cell? ⟨kb,6,none⟩=some (I ho):=hs0.k.cell 6;have k9:wr.cell? ⟨kb,9,none⟩=some (I cy):=hs0.k.cell 9;have t0:wr.cell? ⟨tb,0,none⟩=some (I ho):=aC wr tb 0 _ _ _ hs0.tx;have f0:wr.frozen? ⟨tb,0,none⟩=false:=aP wr tb 0 _ _ hs0.tx;clear hs0 hcl;go_wp2_with fail;go_still_tail 7,(by kernel_rfl);have hsc:wr.setCell ⟨tb,0,none⟩ (.int .i64 ho)=wr:=Xn t0;change wpList _ _ _ _ _ wr.drew;have t0:wr.drew.cell? ⟨tb,0,none⟩=some (I ho):=t0;have f0:wr.drew.frozen? ⟨tb,0,none⟩=false:=f0;go_wp2_with fail;clear hsc;have HBV:Hid (ai W.heap.size W wr.drew):=JJ (JL Rx.out ((aW _ wr).drew));clear p1 k8 k6 k9 t0 f0 Rx;generalize wr.drew=V at HBV⊢;have hs0:=HFR.out V HBV.out;have HGC:Hid (∀W',ai W.heap.size W W'->∀k,k<n->W'.cell? ⟨g,k*2,none⟩=some (I (Nz ts k))/\W'.cell? ⟨g,k*2+1,none⟩=some (I (Pn ts k))):=JJ (fun W' hb k hk=>by
     rcases(HFR.out W' hb).ys with h1|⟨g',e,_,hc⟩
     ·omega
     ·injection e with e;injection e with e;subst e;exact hc k hk)
    have HMI:Hid (∀W',ai W.heap.size W W'->Calls Tryz.prog 114 #[.pointer (some ⟨kb,0,none⟩)] W' fun e w'=>e=.returned (I sz)/\w'=W'):=JJ (fun W' hb=>by rw[<-L6.out];exact abB kb cy W' ((HFR.out W' hb).k.cell 9) (by omega) (by omega));have p1:V.cell? ⟨cb,0,none⟩=some (.pointer (some ⟨kb,0,none⟩)):=aC V cb 0 _ _ _ hs0.cx;have t0:V.cell? ⟨tb,0,none⟩=some (I ho):=aC V tb 0 _ _ _ hs0.tx;have hrq:=fun k=>alA kb g n c cy ho z0 V (hs0.k.cell 8) (hs0.k.cell 9) (by have:=(HGC.out V HBV.out 0 hnp).1;rw[HZ0.out] at this;simpa using this) hnp hc1 (by omega) (by omega) (by omega) k;have hmq:=fun k=>Wq kb cy V (hs0.k.cell 9) (by omega) (by omega) k;rw[L6.out] at hmq;rw[L6.out,HMX.out] at hrq;have HRQ:=JJ hrq;have HMQ:=JJ hmq;clear hrq hmq hs0;have wq:IntKind.i64.wrap (q*sz)=b0:=by rw[HB0.out,aA];omega
    go_quiet ((first|(go_at_call 116;exact HRQ.out _)|(go_at_call 114;exact HMQ.out _)));obtain⟨V2,hV2⟩:∃W,V.drewN nq=W:=⟨_,rfl⟩;rw[hV2];have HB2:Hid (ai W.heap.size W V2):=JJ (by rw[<-hV2];exact JL HBV.out (below_drewN' _ _));clear hV2 p1 t0 HRQ HMQ HBV;go_wp2_with fail;clear wq
    go_loopw [6] (fun bv wr=>∃bs:Int,bv=I bs/\(bs=b0\/(bs=b0+sz/\∀j,j<n->Nz ts j+b0<ho))/\ai W.heap.size W wr) (fun bv _=>(10000000000000000 - intOf bv).toNat)
    case atStart=>exact⟨b0,rfl,.inl rfl,HB2.out⟩
    case round=>
     clear HB2;obtain⟨bs,rfl,hbs,hbw⟩:=hrel;have Rx:=JJ hbw;have HBS:=JJ hbs;have hbb:0<=bs/\bs<=2260000000000000:=by rcases hbs with h|⟨h,_⟩<;>omega
     clear hbw hbs;have hs0:=HFR.out wr Rx.out;have p1:wr.cell? ⟨cb,0,none⟩=some (.pointer (some ⟨kb,0,none⟩)):=aC wr cb 0 _ _ _ hs0.cx;have k8:wr.cell? ⟨kb,8,none⟩=some (.slice (some ⟨g,0,none⟩) n c):=hs0.k.cell 8;clear hs0;go_wp2_with fail;clear p1 k8
     go_loopw [58] (fun i wr=>∃k:Nat,k<=n/\i=I (k:Nat)/\(∀j,j<k->Nz ts j+bs<ho)/\ai W.heap.size W wr) (fun i _=>n - (intOf i).toNat)
     case atStart=>exact⟨0,aG _,rfl,fun j hj=>by omega,Rx.out⟩
     case round=>
      clear Rx;obtain⟨k2,hkn,rfl,hjl,hbw⟩:=hrel;have Rx:=JJ hbw;have HJL:=JJ hjl;clear hbw hjl;by_cases hk2:k2<n
      ·have j1:(k2:Int)<(n:Int):=by omega
       have j0:(0:Int)<=(k2:Int):=by omega
       obtain⟨e0,e1⟩:=HGC.out wr Rx.out k2 hk2;have hab:=QT k2 HTB.out;obtain⟨xa,hxa⟩:∃x,Nz ts k2=x:=⟨_,rfl⟩;obtain⟨xo,hxo⟩:∃x,Pn ts k2=x:=⟨_,rfl⟩;have PU:=JJ hxa;have HXO:=JJ hxo;rw[hxa] at e0 hab;rw[hxo] at e1;clear hxa hxo;go_upto_region 12 with (first
        |((with_reducible refine Kz 108 ?_);refine JW rfl 108 rfl #[I 0,I 0] (by kernel_rfl) ?_)
        |((with_reducible refine Lj 108 ?_);refine aB rfl _ _ _ rfl wr.heap.size #[I xa,I xo] rfl rfl 108 #[I 0,I 0] (aF wr _) (by kernel_rfl) rfl (by simp[Value.oneCell']) ?_))
       have hb2:ai wr.heap.size wr ((wr.alloc (.cells #[I 0,I 0] 108)).setRow wr.heap.size #[I xa,I xo]):=JR (JM wr _) (ay _) _;have HX:=JJ (AV.SA (AV.new wr #[I 0,I 0] 108) #[I xa,I xo]);have HB2:=JJ (JL Rx.out hb2);have hxb:=Rx.out.size;clear hb2 Rx e0 e1;generalize (wr.alloc (.cells #[I 0,I 0] 108)).setRow wr.heap.size #[I xa,I xo]=W2 at HB2 HX⊢;generalize wr.heap.size=xb at HX hxb⊢;have x0:W2.cell? ⟨xb,0,none⟩=some (I xa):=HX.out.cell 0;have fx:W2.frozen? ⟨xb,0,none⟩=false:=HX.out.Oo 0;have wx:IntKind.i64.wrap (xa+bs)=xa+bs:=by rw[aA];omega
       have Xz:Hid (AV xb 108 #[I (xa+bs),I xo] (W2.setCell ⟨xb,0,none⟩ (I (xa+bs)))):=JJ (HX.out.put 0 _);have HB3:Hid (ai W.heap.size W (W2.setCell ⟨xb,0,none⟩ (I (xa+bs)))):=JJ (HB2.out.setCell (p:=⟨xb,0,none⟩) hxb _);go_upto_region 13 with fail;clear x0 fx HX HB2;generalize W2.setCell ⟨xb,0,none⟩ (I (xa+bs))=W3 at Xz HB3⊢;have hs3:=HFR.out W3 HB3.out;have t0:W3.cell? ⟨tb,0,none⟩=some (I ho):=aC W3 tb 0 _ _ _ hs3.tx;have x0:W3.cell? ⟨xb,0,none⟩=some (I (xa+bs)):=Xz.out.cell 0;have x1:W3.cell? ⟨xb,1,none⟩=some (I xo):=Xz.out.cell 1;clear hs3;by_cases hit:ho<=xa+bs
       ·have PD:Hid ((MH ts sz ho).1=⟨xa+bs,xo⟩):=JJ (by
         rcases HBS.out with hb|⟨hb,akL⟩
         ·rw[XK HQ.out HL.out hk2 (fun j hj=>by rw[HB0.out,<-hb];exact HJL.out j hj) (by rw[HB0.out,PU.out,<-hb];exact hit),HB0.out,PU.out,HXO.out,hb]
         ·have hk0:k2=0:=by
           rcases jJ k2 with h|h
           ·exact h
           ·have:=HJL.out 0 h;rw[HZ0.out] at this;omega
          subst hk0;rw[Zu HQ.out HL.out hnp (fun j hj=>by rw[HB0.out];exact akL j hj),HQ6.out,HB0.out,PU.out,HXO.out,hb])
        obtain⟨fn,tmps,assign,body,hy,hR⟩:=HY.out [] ⟨⟨xa+bs,xo⟩,by show -4000000000000000<=xa+bs/\xa+bs<=4000000000000000;omega⟩ W3 (HJ.out W3 HB3.out);dsimp only at hy;refine(qC (n:=N)).1 ?_
        gi_wp2
        first|refine hR.mono ?_ |refine⟨trivial,hR.mono ?_⟩|refine⟨trivial,fun _=>hN1,hR.mono ?_⟩
        rintro e W4 (⟨rfl,hJ4,_⟩|⟨rfl,az3⟩)
        ·exact absurd (HG.out _ _ hJ4) (by simp)
        ·gi_wp2
         go_wp2_with fail;refine aX (lG rfl _ _ _) rfl ?_;exact⟨⟨_,rfl⟩,.inr ⟨_,⟨hn0,by rw[PD.out];rfl⟩,az3⟩⟩
       ·go_wp2_with fail;go_roundw
        case rel=>exact⟨k2+1,by omega,by go_num,fun j hj=>by
         rcases lJ j k2 with h|h
         ·exact HJL.out j h
         ·have:j=k2:=by omega
          subst this;rw[PU.out];omega,HB3.out⟩
        case measure=>simp[intOf];omega
      ·have j1:¬(k2:Int)<(n:Int):=by omega
       have hz:=HJL.out 0 (by omega);rw[HZ0.out] at hz;have arX:bs=b0:=by
        rcases HBS.out with hb|⟨hb,_⟩
        ·exact hb
        ·omega
       have HLT:Hid (∀j,j<n->Nz ts j+b0<ho):=JJ (fun j hj=>by rw[<-arX];exact HJL.out j (by omega));have HBE:=JJ arX;clear arX hz HJL;have hs0:=HFR.out wr Rx.out;have p1:wr.cell? ⟨cb,0,none⟩=some (.pointer (some ⟨kb,0,none⟩)):=aC wr cb 0 _ _ _ hs0.cx;clear hs0;go_wp2_with fail;refine(HMI.out wr Rx.out).mono ?_;rintro e w9 ⟨rfl,rfl⟩;go_wp2_with fail;go_roundw
       case rel=>exact⟨bs+sz,by go_num,.inr ⟨by rw[HBE.out],HLT.out⟩,Rx.out⟩
       case measure=>simp[intOf];omega
theorem abI (c:Cal)(bg y:Int)(r r':Yr)(ts:ag Tr):(Su c bg y r r' ts).length<=ts.length+1:=by
 unfold Su;split
 ·simp
 ·omega
theorem ahq {c:Cal}{r0 r1:Yr}{stop:Int}(hc:MR c)(h0:U5 c.JQ.length r0)(h1:U5 c.JQ.length r1)(hs:stop<=4000000):∀(f:Nat) (bg y:Int) (ts:ag Tr),0<=bg->Rz ts->Rz (Sv c r0 r1 stop f bg y ts)/\(Sv c r0 r1 stop f bg y ts).length<=ts.length+2*f
 |0,_,_,ts,_,h=>⟨h,by show ts.length<=_;omega⟩
 |f+1,bg,y,ts,hb,h=>by
  unfold Sv;split
  ·have hy:=QE c y hc;have h2:=ahq hc h0 h1 hs f (bg+VE c y) (y+1) _ (by omega) (Z8 c bg y r1 r0 _ hc h1 h0 hb (by omega) (Z8 c bg y r0 r1 ts hc h0 h1 hb (by omega) h));have h3:=abI c bg y r1 r0 (Su c bg y r0 r1 ts);have h4:=abI c bg y r0 r1 ts;exact⟨h2.1,by have:=h2.2;omega⟩
  ·exact⟨h,by omega⟩
theorem ame (z:Zn)(hc:MR z.cal)(hy:SV z):Rz (UW z)/\(UW z).length<=10000000:=by
 have h:Rz (Vg z)/\(Vg z).length<=10000000:=by
  have hz:=Xv z hc;have he:=hc.ep;rcases hy with e|⟨r0,r1,e,h0,h1⟩
  ·rw[show Vg z= [] by unfold Vg;rw[e]];exact⟨(fun _ h=>nomatch h),by decide⟩
  ·rw[show Vg z=Sv z.cal r0 r1 (z.cal.KI+Nr z) (Nr z).toNat z.cal.KI 1 [] by unfold Vg;rw[e]];have h2:=ahq hc h0 h1 (stop:=z.cal.KI+Nr z) (by omega) (Nr z).toNat z.cal.KI 1 [] he.1 (fun _ h=>nomatch h);exact⟨h2.1,by have h3:=h2.2;rw[dE] at h3;omega⟩
 exact⟨h.1.perm (Vs z),by rw[(Vs z).length_eq];exact h.2⟩
theorem aoK (z:Zn)(s:Zs)(w:ae)(hc:MR z.cal)(h:N7 w w.heap.size s z)(hy:SV z):
  Calls Tryz.prog 90 #[.agg (JV z s)] w fun e w'=>(Me (UW z) (Nr z*1440)=true/\e=.returned (.tuple #[.pointer (some ⟨w.heap.size+1,0,none⟩),.bool true])/\∃A n c,TB w (JV z s).toList (Nr z) A n c (UW z) w')\/(Me (UW z) (Nr z*1440)=false/\e=.returned (.tuple #[.pointer none,.bool false])/\ai w.heap.size w w'):=by
 rcases hy with e|⟨r0,r1,e,h0,h1⟩
 ·have h1:aeL z=Nr z:=by unfold aeL Nr;rw[e]
  have h2:ysF z= []:=by unfold ysF;rw[e]
  have h3:UW z= []:=by
   have h4:Vg z= []:=by unfold Vg;rw[e]
   have h5:=Vs z;rw[h4] at h5;exact h5.eq_nil
  have h6:=alP z s w e;rw[h1,h2] at h6;rw[h3];refine h6.mono fun e w' h=>.inl ⟨rfl,h⟩
 ·exact axw z s r0 r1 w hc h e h0 h1
def wiB (n l:Int):Bool:=decide (-l<=n)&&decide (n<=l)
theorem Tn {n l:Int}(h: -l<=n/\n<=l):wiB n l=true:=by
 unfold wiB;rw[aZ h.1,aZ h.2];rfl
theorem aar {n l:Int}(h:¬(-l<=n/\n<=l)):wiB n l=false:=by
 unfold wiB;by_cases h1: -l<=n
 ·rw[bT (fun h2=>h ⟨h1,h2⟩),Bool.and_false]
 ·rw[bT h1,Bool.false_and]
theorem UF (n l:Int)(w:ae)(hl:0<=l/\l<=4503599627370496):Calls Tryz.prog 89 #[I n,I l] w fun e w'=>e=.returned (.bool (wiB n l))/\w'=w:=aeO n l w hl
theorem aeP (n l:Int)(w:ae)(hl:0<=l/\l<=4503599627370496)(k:Nat):Calls Tryz.prog 89 #[I n,I l] (w.drewN k) fun e w'=>e=.returned (.bool (wiB n l))/\∃m,w'=w.drewN m:=
 (UF n l (w.drewN k) hl).mono fun _ _ ⟨h3,h4⟩=>⟨h3,k,h4⟩
theorem Sr {z:Zn}(h:¬YR z):ZW z=false:=by
 cases e:ZW z with
 |false=>rfl
 |true=>exact absurd ((acv z).1 e) h
section
variable {n:Nat}{P:Program}{ops:ax Oper}{Q:Exit->Act->ae->Prop}{md:Region.Mode}
theorem aiM {row:String}{args:ax ah}{w:ae}{R:ah->ae->Prop}(h:Rows P row args w R):RowsIn Fence.wide n P row args w R:=
 fun c cs _=>let ⟨v,w',r,s⟩:=h c cs;⟨v,w',r,stepsIn_wide.2 s⟩
theorem ai3 (o:Oper)(a:Act)(K:Act->ae->Prop)(r:Result Next)(h:o.upon P a K Q r):o.uponIn Fence.wide n P a K Q r:=by
 have hd:Fence.wide.depth.isSome=true->1<=n:=fun h=>by cases h
 cases r with
 |ok x w'=>
  cases x with
  |value v=>exact h
  |skip=>exact h
  |defer d=>exact h
  |enter f args=>exact⟨hd,gX.2 (Calls.mono h (fun e w'' he=>by cases e<;>exact he))⟩
  |row row args=>exact⟨hd,aiM h⟩
  |round l f tmps assign body=>exact h.elim
  |_=>exact h.elim
 |halt x w'=>
  cases x with
  |panic v=>exact h
  |_=>exact h.elim
theorem agu (hq:¬LetsOut Q):∀(fuel:Nat) (listed:ax Bool) (a:Act) (w:ae),wpAny P md ops Q fuel listed a w->wpAnyIn Fence.wide n P md ops Q fuel listed a w:=by
 intro fuel
 induction fuel with
 |zero=>intro listed a w h;exact h
 |succ fuel ih=>
  intro listed a w h;refine⟨h.1,fun i hi=>?_⟩;have h2:=wpOp_mono (fun a w=>ih _ a w) (h.2 i hi);unfold wpOp at h2;unfold wpOpIn;cases ho:ops[i]? with
  |none=>rw[ho] at h2;exact h2
  |some o=>
   rw[ho] at h2;simp only at h2⊢;split
   ·rename_i hw;rw[bD hw] at h2;rcases h2 with h2|⟨_,h2⟩
    ·exact⟨fun _ _=>trivial,ai3 o a _ _ h2⟩
    ·exact absurd h2 hq
   ·rename_i hw;rw[bP hw] at h2;exact⟨fun _ _=>trivial,h2⟩
theorem UC {S:ae->Prop}{l0 id:Nat}{a:Act}{w:ae}(hd:∀(i:Nat) (o:Oper),ops[i]? =some o->∀c,o.op≠ .defer c)(hm:P.follows .mixedOrders=true)(hq:¬LetsOut Q)
  (h:wpAnyH P .any ops Q S ops.size (Array.replicate ops.size false) a w.drew):(Code.region id ops true).wpIn (Fence.wide.inRound l0) n P Q a w:=
 wpIn_region_any hm (We l0 hd _ _ _ _ (agu hq _ _ _ _ (wpAny_of_held _ _ _ _ h)))
theorem alm {l:ag Oper}(hd:(l.all fun o=>match o.op with| .defer _=>false|_=>true)=true):∀(i:Nat) (o:Oper),l.toArray[i]? =some o->∀c,o.op≠ .defer c:=by
 intro i o ho c hc;have h3:=iF.1 hd o (LQ (by rw[eU] at ho;exact ho));rw[hc] at h3;cases h3
end
theorem Qv (w:ae)(g:Nat)(v:ah)(h:w.cell? ⟨g,0,none⟩=some v):(loadVar 140 ⟨g,0,none⟩).run Tryz.prog w=.ok v w:=by
 simp[go_sem,h]
theorem PI (w:ae)(g:Nat)(v:ah)(h:w.cell? ⟨g,0,none⟩=some v):(loadVar 4 ⟨g,0,none⟩).run Tryz.prog w=.ok v w:=by
 simp[go_sem,h]
theorem adK {P:Program}{f:FuncId}{fn:Func}{c:Code}{args:ax ah}{w:ae}{R:Ending->ae->Prop}(hf:P.funcs[f]? =some fn)(hb:fn.body=some c)
  (h:c.wp P (bodyPostM Fence.wide 3 P fn R) {tmps:=args++Array.replicate (fn.ntmps - args.size) undef,defers:= []} w):Calls P f args w R:=
 gX.1 (iK (F:=Fence.wide) (n:=3) hf hb trivial (qC.2 h) rfl)
theorem OM {P:Program}{fn:Func}{R:Ending->ae->Prop}{a:Act}{w:ae}{v:ah}(hd:a.defers= [])(h:(results fn a.tmps).run P w=.ok v w)(hR:R (.returned v) w):bodyPostM Fence.wide 3 P fn R .ret a w:=by
 show LeavesInM Fence.wide 3 P fn a.tmps R a.defers .returning w;rw[hd];exact⟨v,h,hR⟩
theorem X6 {P:Program}{fn:Func}{R:Ending->ae->Prop}{a:Act}{w:ae}{v:ah}{D:Nat}{xs:ax ah}(hd:a.defers= [{target:=.collected D,args:=xs}])(hD:w.heap[D]? =some (.deferred (some [])))
  (h:(results fn a.tmps).run P (w.putObj D (.deferred none))=.ok v (w.putObj D (.deferred none)))(hR:R (.returned v) (w.putObj D (.deferred none))):bodyPostM Fence.wide 3 P fn R .ret a w:=by
 show LeavesInM Fence.wide 3 P fn a.tmps R a.defers .returning w;rw[hd];exact⟨by simp,.inl ⟨_,_,rfl,jd hD,⟨v,h,hR⟩⟩⟩
theorem TB.frs {w W:ae}{zc:ag ah}{cy ho:Int}{A C:aj Addr}{n c m cb tb B:Nat}{ts trs:ag Tr}(h:TB w zc cy A n c ts W)(hB:B=W.heap.size)
  (hC:m=0\/∃b off,C=Option.some ⟨b,off,none⟩/\b<B/\∀k,k<m->W.cell? ⟨b,off+k*2,none⟩=Option.some (I (Nz trs k))/\W.cell? ⟨b,off+k*2+1,none⟩=Option.some (I (Pn trs k)))
  (hc:W.heap[cb]? =some (.cells #[.pointer (Option.some ⟨w.heap.size+1,0,none⟩)] 140 (0,0)))(ht:W.heap[tb]? =some (.cells #[I ho] 3 (0,0))):
  FrS B (w.heap.size+1) cb tb (zc++ [Value.slice A n c,I cy]) A n ts C m trs ho W:=by
 subst hB;refine⟨h.k,?_,hC,hc,ht,h.k.lt,(KY.1 hc).1,(KY.1 ht).1⟩;rcases h.own.2 with ⟨_,h0⟩|⟨g,cap,cur,hv,hg,hh,_⟩
 ·exact .inl h0
 ·injection hv with h1 h2 h3;have ho:=h.own;rw[h1] at ho;exact .inr ⟨g,h1,(KY.1 hh).1,fun k hk=>⟨UB ho h.len k hk,VC ho h.len k hk⟩⟩
theorem QU {X Y:ae}{k o:Nat}(h:X.heap[k]? =Y.heap[k]?):X.cell? ⟨k,o,none⟩=Y.cell? ⟨k,o,none⟩:=by simp only[World.cell?,h]
structure ajz (lo hi B kb:Nat)(kc:ag ah)(A:aj Addr)(n:Nat)(ts:ag Tr)(C:aj Addr)(m:Nat)(trs:ag Tr)(W:ae):Prop where
 k:AV kb 205 kc.toArray W
 ys:n=0\/∃g,A=Option.some ⟨g,0,none⟩/\(g<B/\hi<g)/\∀k,k<n->W.cell? ⟨g,k*2,none⟩=Option.some (I (Nz ts k))/\W.cell? ⟨g,k*2+1,none⟩=Option.some (I (Pn ts k))
 tr:m=0\/∃b off,C=Option.some ⟨b,off,none⟩/\(b<B/\b<lo)/\∀k,k<m->W.cell? ⟨b,off+k*2,none⟩=Option.some (I (Nz trs k))/\W.cell? ⟨b,off+k*2+1,none⟩=Option.some (I (Pn trs k))
 lt:kb<B/\hi<kb
theorem ajz.far {lo hi B kb n m:Nat}{kc:ag ah}{A C:aj Addr}{ts trs:ag Tr}{W W':ae}(h:ajz lo hi B kb kc A n ts C m trs W)(hh:∀k,k<B->(k<lo\/hi<k)->W'.heap[k]? =W.heap[k]?){B':Nat}(hB:B<=B'):ajz lo hi B' kb kc A n ts C m trs W':=by
 refine⟨⟨(hh kb h.lt.1 (.inr h.lt.2)).trans h.k.var⟩,?_,?_,LK h.lt.1 hB,h.lt.2⟩
 ·rcases h.ys with h0|⟨g,e,hg,hc⟩
  ·exact .inl h0
  ·exact .inr ⟨g,e,⟨LK hg.1 hB,hg.2⟩,fun k hk=>⟨(QU (hh g hg.1 (.inr hg.2))).trans (hc k hk).1,(QU (hh g hg.1 (.inr hg.2))).trans (hc k hk).2⟩⟩
 ·rcases h.tr with h0|⟨b,off,e,hg,hc⟩
  ·exact .inl h0
  ·exact .inr ⟨b,off,e,⟨LK hg.1 hB,hg.2⟩,fun k hk=>⟨(QU (hh b hg.1 (.inl hg.2))).trans (hc k hk).1,(QU (hh b hg.1 (.inl hg.2))).trans (hc k hk).2⟩⟩
def adl (z:Zn)(kb:Nat)(W:ae):Prop:=∃(n0 n1 n3 a r c0 d0 c lo hi:Nat) (A0 R0 A C D0:aj Addr),
 ajz lo hi W.heap.size kb [I z.cal.KI,.slice A0 n0 a,I z.cal.Lm,.slice R0 n1 r,I z.start,.slice C z.trans.length c0,I z.hor,.slice D0 n3 d0,.slice A (ysF z).length c,I (aeL z)] A (ysF z).length (ysF z) C z.trans.length z.trans W
theorem adl.of {z:Zn}{kb n0 n1 n3 a r c0 d0 c lo hi n m:Nat}{A0 R0 A C D0:aj Addr}{W:ae}
  (h:ajz lo hi W.heap.size kb [I z.cal.KI,.slice A0 n0 a,I z.cal.Lm,.slice R0 n1 r,I z.start,.slice C m c0,I z.hor,.slice D0 n3 d0,.slice A n c,I (aeL z)] A n (ysF z) C m z.trans W)(hn:(ysF z).length=n)(hm:z.trans.length=m):adl z kb W:=by
 subst hn hm;exact⟨n0,n1,n3,a,r,c0,d0,c,lo,hi,A0,R0,A,C,D0,h⟩
theorem adl.keep {z:Zn}{kb:Nat}{W W':ae}(h:adl z kb W)(hb:ai W.heap.size W W'):adl z kb W':=by
 obtain⟨n0,n1,n3,a,r,c0,d0,c,lo,hi,A0,R0,A,C,D0,h⟩:=h;exact⟨n0,n1,n3,a,r,c0,d0,c,lo,hi,A0,R0,A,C,D0,h.far (fun k hk _=>hb.block k hk) hb.size⟩
theorem alH {X:ae}{b k:Nat}{u v:ah}(h:k<b+1\/b+2<k):((X.setCell ⟨b+1,0,none⟩ u).setCell ⟨b+1+1,0,none⟩ v).heap[k]? =X.heap[k]? :=
 (aN _ ⟨b+1+1,0,none⟩ k _ (by show k≠b+1+1;omega)).trans (aN X ⟨b+1,0,none⟩ k _ (by show k≠b+1;omega))
theorem cell_far {X:ae}{g k o:Nat}{v:ah}(hn:k≠g):(X.setCell ⟨g,0,none⟩ v).cell? ⟨k,o,none⟩=X.cell? ⟨k,o,none⟩:=QU (aN X ⟨g,0,none⟩ k v hn)
theorem ag4 {w X:ae}{kb:Nat}{v:Bool}(h1:X.heap[w.heap.size+1]? =some (.cells #[.pointer none] 140 (0,0)))(h2:X.heap[w.heap.size+2]? =some (.cells #[.bool false] 4 (0,0)))(hb:ai w.heap.size w X):
  ((X.setCell ⟨w.heap.size+1,0,none⟩ (pt kb)).setCell ⟨w.heap.size+1+1,0,none⟩ (.bool v)).heap[w.heap.size+1]? =some (.cells #[pt kb] 140 (0,0))/\
  ((X.setCell ⟨w.heap.size+1,0,none⟩ (pt kb)).setCell ⟨w.heap.size+1+1,0,none⟩ (.bool v)).heap[w.heap.size+2]? =some (.cells #[.bool v] 4 (0,0))/\
  ai w.heap.size w ((X.setCell ⟨w.heap.size+1,0,none⟩ (pt kb)).setCell ⟨w.heap.size+1+1,0,none⟩ (.bool v)):=by
 refine⟨?_,?_,(hb.setCell (p:=⟨w.heap.size+1,0,none⟩) (by show w.heap.size<=w.heap.size+1;omega) _).setCell (p:=⟨w.heap.size+1+1,0,none⟩) (by show w.heap.size<=w.heap.size+1+1;omega) _⟩
 ·rw[aN _ ⟨w.heap.size+1+1,0,none⟩ _ _ (by show w.heap.size+1≠w.heap.size+1+1;omega),bJ X _ 0 _ _ _ h1];rfl
 ·have h3:(X.setCell ⟨w.heap.size+1,0,none⟩ (pt kb)).heap[w.heap.size+2]? =some (.cells #[.bool false] 4 (0,0)):=(aN X ⟨w.heap.size+1,0,none⟩ _ _ (by show w.heap.size+2≠w.heap.size+1;omega)).trans h2;show((X.setCell ⟨w.heap.size+1,0,none⟩ (pt kb)).setCell ⟨w.heap.size+2,0,none⟩ (.bool v)).heap[w.heap.size+2]? =_;rw[bJ _ _ 0 _ _ _ h3];rfl
theorem aoP {P:Act->Prop}{a:Act}(h:∀a0,a0=a->P a0):P a:=h a rfl
theorem ZO.drewN {w W:ae}{cs:ax ah}(h:ZO w cs W)(k:Nat):ZO w cs (W.drewN k):=h.below (below_drewN' _ _)
end Go.Proofs.YtbaehbbonkljpaaGreatDoor
