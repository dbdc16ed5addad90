/- The texts DgL, DgB, DgH, DgK, in this order. -/
import Derived.Laws.AppendOwnNone
import Derived.Test.YtbaehbbonkljpaaGreatDoorT30
set_option maxRecDepth 10000
set_option maxHeartbeats 8000000
namespace Go.Proofs.YtbaehbbonkljpaaGreatDoor
open Go Go.RowKit
structure ab1 (B:Nat)(W W':ae):Prop where
 size:W.heap.size<=W'.heap.size
 block:∀k,B<=k->k<W.heap.size->W'.heap[k]? =W.heap[k]?
def U4 {α:Type}(F:Fence)(n:Nat)(P:Program)(g:Nat)(lb:ax ah)(encs:α->ax ah)(R:α->ae->Prop)(S:ag α->Prop)(W:ae):Prop:=
 ∀(l:Nat) (J:ag α->ae->Prop),l<W.heap.size->(∀xs A B,J xs A->ai W.heap.size A B->J xs B)->
  (∀pre x A,J pre A->W.heap.size<=A.heap.size->R x A->YieldAt F (n - 1) P l (encs x) A fun e B=>e=.returned (.bool true)/\J (pre++ [x]) B/\ab1 W.heap.size A B)->
  J [] W->CallsIn F n P g (#[.func (.yield l) #[] #[]]++lb) W fun e W'=>(∃v,e=.returned v)/\∃xs,S xs/\J xs W'
theorem TJ {B l:Nat}{W:ae}{o:Obj}(h:B<=l):ai B W (W.putObj l o):=
 ⟨rfl,rfl,rfl,by simp[World.putObj],fun k hk=>bQ (by omega)⟩
section
variable {F:Fence}{n:Nat}{P:Program}
theorem TY {α:Type}{g:Operand}{ps:ax Tmp}{assign body:Code}{Q:Exit->Act->ae->Prop}{a:Act}{w:ae}
  (hro:F.round=none)(h1:1<=n){gf:Nat}{lb:ax ah}(hg:a.eval g=.func (.func gf) #[] lb)(hFg:F.fn gf)(eg:∀args w,(callFunc gf args).run P w=.ok (.enter gf args) w)
  {encs:α->ax ah}{R:α->ae->Prop}{S:ag α->Prop}(hseq:∀W,ai w.heap.size w W->U4 F (n - 1) P gf lb encs R S W)(hps:∀x,(encs x).size=ps.size)
  (I:ag α->ae->Prop)(hI:∀xs A B,I xs A->ai w.heap.size A B->I xs B)(h0:I [] w)(a₁:α->Act)
  (hR:∀x A l o o',R x A->A.heap[l]? =some o->o.isCells=false->R x (A.putObj l o'))
  (hassign:∀(l:Nat) (x:α) (W:ae) (K:Act->ae->Prop),K (a₁ x) W->
   assign.wpIn (F.inRound l) (n - 1 - 1) P (Exit.then K (fun _ _ _=>False)) {tmps:=(ps.zip (encs x)).foldl (fun t (p,v)=>t.setIfInBounds p v) a.tmps,defers:= []} W)
  (hbody:∀(l:Nat) (pre:ag α) (x:α) (W:ae),I pre W->w.heap.size<=W.heap.size->R x W->body.wpIn (F.inRound l) (n - 1 - 1) P (fun e _ W'=>e=.normal/\I (pre++ [x]) W'/\ab1 w.heap.size W W') (a₁ x) W)
  (hdone:∀(D:Nat) (xs:ag α) (W:ae),w.heap.size<=D->S xs->I xs W->W.heap[D]? =some (.deferred (some []))->Q .normal {a with defers:= {target:=.collected D,args:= #[]}::a.defers} W):
  (Code.rangeFunc g ps assign body).wpIn F n P Q a w:=by
 refine wpIn_rangeFunc ?_;intro fn hfn;rw[hro];obtain⟨rec,hrec⟩:∃rec:LoopState->aj Code->Loop,rec=fun st pe=> {state:=st,pending:=pe,fn,tmps:=a.tmps,params:=ps,assign,body,defers:=w.heap.size}:=⟨_,rfl⟩;obtain⟨W1,hW1⟩:∃W1,(w.alloc (.deferred (some []))).alloc (.loop (rec .ready none))=W1:=⟨_,rfl⟩;have hL1:W1.heap[w.heap.size+1]? =some (.loop (rec .ready none)):=by rw[<-hW1];exact bW w _ _
 have hK1:W1.heap[w.heap.size]? =some (.deferred (some [])):=by rw[<-hW1];exact dJ w _ _
 have hs1:W1.heap.size=w.heap.size+2:=by rw[<-hW1];simp
 have hb1:ai w.heap.size w W1:=by rw[<-hW1];exact((aW _ w).alloc (ay _) _).alloc (by simp) _
 refine⟨w.heap.size+1,[{target:=.collected w.heap.size,args:= #[]}],W1,{target:=.fn (.func gf) lb,args:= #[.func (.yield (w.heap.size+1)) #[] #[]]},W1,gf,#[.func (.yield (w.heap.size+1)) #[] #[]]++lb,W1,?_,?_,?_,?_,fun _=>h1,?_⟩
 ·rw[<-hW1,hrec];exact run_enterLoop_outer _ _ _ _ _
 ·simp only[resolve,hg];simp[go_sem]
 ·intro f' hf';simp[Target.leads] at hf';subst hf';exact hFg
 ·simp[invoke,go_sem,eg]
 ·refine(hseq W1 hb1 (w.heap.size+1) (fun pre W=>I pre W/\w.heap.size+2<=W.heap.size/\W.heap[w.heap.size+1]? =some (.loop (rec .ready none))/\W.heap[w.heap.size]? =some (.deferred (some []))) (by omega) ?_ ?_ ⟨hI _ _ _ h0 hb1,by omega,hL1,hK1⟩).mono ?_
  ·rintro xs A B ⟨hi,hs,hl,hk⟩ hb;exact⟨hI _ _ _ hi (hb.mono (by omega)),aO hs hb.size,(hb.block _ (by omega)).trans hl,(hb.block _ (by omega)).trans hk⟩
  ·rintro pre x A ⟨hi,hs,hl,hk⟩ _ hrx;have hlt:w.heap.size+1<A.heap.size:=(KY.1 hl).1;have hy:=run_yield (P:=P) (args:=encs x) hl (by rw[hrec];exact hps x);rw[hrec] at hy;refine⟨fn,_,assign,body,hy,roundIn_of_wpIn hfn (hassign _ x A _ ⟨_,run_beginRound hl (by rw[hrec]),?_⟩)⟩;obtain⟨A2,hA2⟩:∃A2,A.putObj (w.heap.size+1) (.loop {rec .ready none with state:=.busy})=A2:=⟨_,rfl⟩;have hs2:A2.heap.size=A.heap.size:=by rw[<-hA2];simp[World.putObj]
   have hl2:A2.heap[w.heap.size+1]? =some (.loop {rec .ready none with state:=.busy}):=by rw[<-hA2];exact jI hlt
   have hk2:A2.heap[w.heap.size]? =some (.deferred (some [])):=by rw[<-hA2];exact(bQ (by omega)).trans hk
   have hi2:I pre A2:=by rw[<-hA2];exact hI _ _ _ hi (TJ (by omega))
   have hr2:R x A2:=by rw[<-hA2];exact hR _ _ _ _ _ hrx hl rfl
   have hu2:∀k,w.heap.size+2<=k->A2.heap[k]? =A.heap[k]? :=fun k h=>by rw[<-hA2];exact bQ (by omega)
   rw[hA2];refine wpIn_mono (hbody _ pre x A2 hi2 (by omega) hr2) ?_;rintro e a3 A3 ⟨rfl,hi3,hk3⟩;have hl3:A3.heap[w.heap.size+1]? =some (.loop {rec .ready none with state:=.busy}):=(hk3.block _ (by omega) (by omega)).trans hl2;have hk4:A3.heap[w.heap.size]? =some (.deferred (some [])):=(hk3.block _ (ay _) (by omega)).trans hk2;have hlt3:w.heap.size+1<A3.heap.size:=(KY.1 hl3).1;have hr:=run_endRound (P:=P) none hl3;refine⟨_,_,hr,rfl,⟨hI _ _ _ hi3 (TJ (by omega)),by have:=hk3.size;simp[World.putObj];omega,?_,(bQ (by omega)).trans hk4⟩,⟨by have:=hk3.size;simp[World.putObj];omega,fun k h2 h3=>?_⟩⟩
   ·rw[jI hlt3,hrec];rfl
   ·rw[bQ (by omega),hk3.block k (by omega) (by omega)];exact hu2 k (by omega)
  ·rintro e W2 ⟨⟨v,rfl⟩,xs,hS,hi,hs,hl,hk⟩;exact⟨none,_,by have:=run_endLoop (P:=P) hl (by rw[hrec];simp);rw[hrec] at this;exact this,hdone _ xs _ (ay _) hS (hI _ _ _ hi (TJ (by omega))) ((bQ (by omega)).trans hk)⟩
end
end Go.Proofs.YtbaehbbonkljpaaGreatDoor
namespace Go.Proofs.YtbaehbbonkljpaaGreatDoor
open Go Go.RowKit Go.Shelf
attribute [local go_sem] iM
def aeq (s:Int):ag au:=upto (fun j=>byteOf (s / 2 ^ (56 - 8*j))) 8
def Rt (n:Nat):Nat:=(119 - n%64)%64
def Ol (bs:ag au)(z:Nat):ag au:=bs++ [128]++List.replicate z 0
theorem Qy (bs:ag au)(z:Nat):(Ol bs z).length=bs.length+1+z:=by simp[Ol];omega
theorem Z4 (bs:ag au)(z:Nat):Ol bs (z+1)=Ol bs z++ [0]:=by simp[Ol,List.replicate_succ']
theorem ahQ (n:Nat):Rt n<=63:=by unfold Rt;omega
theorem Y5 (n:Nat):((n+1+Rt n:Nat):Int)%64=56:=by unfold Rt;omega
theorem ahR {n z:Nat}(h:z<Rt n):¬((n+1+z:Nat):Int)%64=56:=by unfold Rt at h;omega
def Q4 (bs:ag au):ag au:=Ol bs (Rt bs.length)++aeq (8*(bs.length:Int))
def chunk (bs:ag au)(i:Nat):ag au:=(bs.drop (64*i)).take 64
structure ElD where
 b:Nat
 off:Nat
 cap:Nat
 bs:ag au
structure aaP (x:ElD)(W:ae):Prop where
 lt:x.b<W.heap.size
 len:x.bs.length=64
 at_:∀j,j<64->W.cell? ⟨x.b,x.off+j,none⟩=some (Extern.Stop.cell (x.bs[j]?.getD 0))
def Ya (x:ElD):ax ah:= #[.slice (some ⟨x.b,x.off,none⟩) 64 x.cap]
structure SQ (B:Nat)(W0:ae)(ms:ag au)(v:ah)(wr:ae):Prop where
 own:wr.ownsRow B 5 1 v ms.length (ms.map Extern.Stop.cell)
 lo:ai B W0 wr
theorem SQ.app {B n:Nat}{W0 wr w1:ae}{ms xs:ag au}{v v':ah}{o:Obj}{ys:ag ah}(h:SQ B W0 ms v wr)(hB:B<=W0.heap.size)(hn:n=(ms++xs).length)(hys:ys=(ms++xs).map Extern.Stop.cell)(hown:w1.ownsRow B 5 1 v' n ys)(hg:(wr.alloc o).grownBy w1 v.ownBlock):SQ B W0 (ms++xs) v' w1:=by
 subst hn hys;have hs:=h.lo.size;have hz:=hg.size;rw[dO] at hz;exact⟨hown,⟨hg.os.trans h.lo.os,hg.tape.trans h.lo.tape,hg.output.trans h.lo.output,by omega,fun k hk=>by
  rw[hg.block k (by rw[dO];omega) (MV h.own k hk),aV wr o k (by omega)];exact h.lo.block k hk⟩⟩
structure afb (W:ae)(g r:Nat)(ms:ag au)(wx:ae):Prop where
 lt:g<wx.heap.size
 new:W.heap.size<=g
 ge:W.heap.size<=wx.heap.size
 cells:∀i,i<r->wx.cell? ⟨g,i,none⟩=some (Extern.Stop.cell (ms[i]?.getD 0))
theorem akm (ms:ag au)(i j:Nat)(hj:j<64):(chunk ms i)[j]? =ms[64*i+j]? :=by
 unfold chunk;rw[dK hj,jL]
theorem afb.el {W wx:ae}{g r:Nat}{ms:ag au}(h:afb W g r ms wx)(i o cc:Nat)(bs:ag au)(ho:o=64*i)(hi:64*i+64<=r)(hbs:bs=chunk ms i)(hl:ms.length=r):aaP ⟨g,o,cc,bs⟩ wx:=by
 subst ho hbs;refine⟨h.lt,?_,fun j hj=>?_⟩
 ·unfold chunk;simp;omega
 ·rw[akm ms i j hj];exact h.cells (64*i+j) (by omega)
theorem afb.keep {W wx w2:ae}{g r:Nat}{ms:ag au}(h:afb W g r ms wx)(hk:ab1 W.heap.size wx w2):afb W g r ms w2:=
 ⟨LK h.lt hk.size,h.new,aO h.ge hk.size,fun i hi=>(bI (a:=⟨g,i,none⟩) (hk.block g h.new h.lt)).trans (h.cells i hi)⟩
theorem TK {w:ae}{t:TypeId}(x:au)(v:ah)(hv:v=Extern.Stop.cell x):∀j u,[Extern.Stop.cell x][j]? =some u->(w.alloc (.cells #[v] t)).cell? ((⟨w.heap.size,0,none⟩:Addr).add j)=some u:=by
 subst hv;intro j u hu;rw[addr_add,(Row.new w _ t).2 j];simpa using hu
theorem RQ (x:au):∀u∈ [Extern.Stop.cell x],u.oneCell'=true:=fun u hu=>by rw[aY.1 hu];rfl
theorem acb (F:Fence)(n:Nat)(h7:F.fn 117)(hro:F.round=none)(hn:1<=n)(bs:ag au)(hb0:0<bs.length)(hlen:bs.length<=1000000000)(W:ae)(box pb ab off c:Nat)(hbox:W.cell? ⟨box,0,none⟩=some (.slice (some ⟨pb,0,none⟩) 1 1))(hp:W.cell? ⟨pb,0,none⟩=some (.slice (some ⟨ab,off,none⟩) bs.length c))
  (hlb:box<W.heap.size)(hlp:pb<W.heap.size)(hla:ab<W.heap.size)(hby:∀j,j<bs.length->W.cell? ⟨ab,off+j,none⟩=some (Extern.Stop.cell (bs[j]?.getD 0))):
  U4 F n Tryz.prog 117 #[.pointer (some ⟨box,0,none⟩)] Ya aaP (fun xs=>xs.map (·.bs)=upto (chunk (Q4 bs)) ((Q4 bs).length / 64)) W:=by
 intro l J hl hJ hY h0;have HJ:=JJ hJ;have HY:=JJ hY;have HB:=JJ hby;obtain⟨N,hN⟩:∃N,bs.length=N:=⟨_,rfl⟩;rw[hN] at hp hb0 hlen;have HN:=JJ hN;clear hJ hY hby hN;refine ik mQ rfl h7 ?_ hro;simp only[Tryz.ntmps117,bZ,bG,dE,Nat.reduceAdd,Nat.reduceSub,df,dh,dL,dw,bU,dn];obtain⟨i0,hi,hq0,hq1,hq2⟩:=dN Qb
 gi_wp2
 gi_loopw [3,10] (fun m i wr=>(i=.int .i64 0/\m=.slice none 0 0/\wr=W)\/(∃g cap,i=.int .i64 1/\m=.slice (some ⟨g,0,none⟩) N cap/\SQ W.heap.size W bs m wr)) (fun _ i _=>(1 - intOf i).toNat)
 case atStart=>exact .inl ⟨rfl,rfl,rfl⟩
 case round=>
  rcases hrel with h|h
  ·obtain⟨rfl,rfl,rfl⟩:=h;have hne:∀j u,(bs.map Extern.Stop.cell)[j]? =some u->wr.cell? ((⟨ab,off,none⟩:Addr).add j)=some u:=fun j u hu=>by
    have hj:j<bs.length:=by have:=(MF.1 hu).1;simpa using this
    rw[jb,HB.out j hj];rw[aJ,KL hj] at hu;rw[KL hj];simpa using hu
   have HNE:=JJ hne;clear hne
   gi_wp2_with (gi_at_builtin;refine gy _ rfl _ _ 55 rfl wr.heap.size 5 i0 (.int .u8 0) 1 1 bC hi hq0 hq1 hq2 rfl (by omega) _ _ _ rfl (dD _ _ _ _) ⟨ab,off,none⟩ N c (bs.map Extern.Stop.cell) rfl (by rw[aI,HN.out,fA]) HNE.out (Q5 bs) (by unfold maxLen;omega) (by omega) (ay _) ?_;intro v1 w1 hown1 hg1 _;rw[aT,bU] at hown1;obtain⟨gg,cap,rfl,_⟩:=LW hown1 hb0;have VS:=JJ hown1;have HG1:=JJ hg1;clear hown1 hg1)
   go_roundw
   case rel=>exact .inr ⟨gg,cap,by go_num,rfl,⟨by rw[HN.out];exact VS.out,⟨HG1.out.os,HG1.out.tape,HG1.out.output,HG1.out.size,fun k hk=>HG1.out.block k hk (fun e=>nomatch e)⟩⟩⟩
   case measure=>simp[intOf]
  ·obtain⟨g,cap,rfl,rfl,hm⟩:=h;have HM:=JJ hm;have HO:Hid (wr.ownsRow W.heap.size 5 1 (.slice (some ⟨g,0,none⟩) N cap) N (bs.map Extern.Stop.cell)):=JJ (by have h:=hm.own;rw[HN.out] at h;exact h);have hge:=hm.lo.size;have UY:Hid (N+1=(bs++ [(128:au)]).length):=JJ (by rw[KN,HN.out];rfl);have HL2:Hid (bs.map Extern.Stop.cell++ [Extern.Stop.cell 128]=(bs++ [(128:au)]).map Extern.Stop.cell):=JJ (by simp);clear hm
   gi_wp2_with (gi_at_builtin;refine gy _ rfl _ _ 55 rfl W.heap.size 5 i0 (.int .u8 0) 1 1 bC hi hq0 hq1 hq2 rfl (by omega) (.slice (some ⟨g,0,none⟩) N cap) N (bs.map Extern.Stop.cell) rfl (HO.out.alloc _) ⟨wr.heap.size,0,none⟩ 1 1 [Extern.Stop.cell 128] rfl rfl (TK 128 _ rfl) (RQ 128) (by unfold maxLen;omega) (by omega) (by first|(simp;done)|(simp;omega)) ?_;intro v1 w1 hown1 hg1 _;have hm1:SQ W.heap.size W (bs++ [(128:au)]) v1 w1:=HM.out.app (ay _) UY.out HL2.out hown1 hg1;obtain⟨gg,cap1,rfl,_⟩:=LW hown1 (jl _);have Xx:=JJ hm1;clear hown1 hg1 hm1)
   gi_loopw [3] (fun m wx=>∃z g cap q,z<=Rt N/\q=N+1+z/\m=.slice (some ⟨g,0,none⟩) q cap/\SQ W.heap.size W (Ol bs z) m wx) (fun m _=>(N+1+Rt N) - (match m with| .slice _ q _=>q|_=>0))
   case atStart=>exact⟨0,gg,cap1,N+1,aG _,rfl,rfl,by have h:=Xx.out;simpa[Ol] using h⟩
   case round=>
    obtain⟨z,g,cap,q,hz,hq,rfl,hm⟩:=hrel;have HM2:=JJ hm;have HQ:=JJ hq;have hqb:q<=1000000200:=by have:Rt N<=63:=ahQ N;omega
    have ar1:=hm.lo.size;have hlq:(Ol bs z).length=q:=by rw[Qy,HN.out,hq]
    have SI:Hid (wr.ownsRow W.heap.size 5 1 (.slice (some ⟨g,0,none⟩) q cap) q ((Ol bs z).map Extern.Stop.cell)):=JJ (by have h:=hm.own;rw[hlq] at h;exact h);clear hm Xx HM HO UY HL2;by_cases hlt:z<Rt N
    ·have h56:((q:Int)%64 !=56)=true:=by rw[YX];exact aZ (by rw[hq];exact ahR hlt)
     have UY:Hid (q+1=(Ol bs z++ [(0:au)]).length):=JJ (by rw[KN,hlq];rfl);have HL2:Hid ((Ol bs z).map Extern.Stop.cell++ [Extern.Stop.cell 0]=(Ol bs z++ [(0:au)]).map Extern.Stop.cell):=JJ (by simp);clear hq hlq
     gi_wp2_with (gi_at_builtin;refine gy _ rfl _ _ 55 rfl W.heap.size 5 i0 (.int .u8 0) 1 1 bC hi hq0 hq1 hq2 rfl (by omega) (.slice (some ⟨g,0,none⟩) q cap) q ((Ol bs z).map Extern.Stop.cell) rfl (SI.out.alloc _) ⟨wr.heap.size,0,none⟩ 1 1 [Extern.Stop.cell 0] rfl rfl (TK 0 _ rfl) (RQ 0) (by unfold maxLen;omega) (by omega) (by first|(simp;done)|(simp;omega)) ?_;intro v2 w2 hown2 hg2 _;have hm2:SQ W.heap.size W (Ol bs z++ [(0:au)]) v2 w2:=HM2.out.app (ay _) UY.out HL2.out hown2 hg2;obtain⟨g2,cap2,rfl,_⟩:=LW hown2 (jl _);have HM3:=JJ hm2;clear hown2 hg2 hm2)
     go_roundw
     case rel=>exact⟨z+1,g2,cap2,q+1,hlt,by have:=HQ.out;omega,rfl,by rw[Z4];exact HM3.out⟩
     case measure=>have:=HQ.out;show N+1+Rt N - (q+1)<N+1+Rt N - q;omega
    ·have hze:z=Rt N:=by omega
     have h56:((q:Int)%64 !=56)=false:=by rw[YX];exact bT (by rw[hq,hze];have:=Y5 N;omega)
     have HZE:=JJ hze;clear hq hze hlq hlt hz;obtain⟨pm,hpm⟩:∃pm,Ol bs (Rt N)=pm:=⟨_,rfl⟩;have HPM:=JJ hpm;have HPL:Hid (pm.length=q):=JJ (by rw[<-hpm,Qy,HN.out];have:=HQ.out;have:=HZE.out;omega);have HM4:Hid (SQ W.heap.size W pm (.slice (some ⟨g,0,none⟩) q cap) wr):=JJ (by have h:=HM2.out;rw[HZE.out,hpm] at h;exact h);clear hpm HM2 SI
     gi_wp2_with fail
     gi_loopw [3,7] (fun m i wx=>∃j g cap r,j<=8/\r=q+j/\i=.int .i64 (56 - 8*(j:Int))/\m=.slice (some ⟨g,0,none⟩) r cap/\SQ W.heap.size W (pm++upto (fun j=>byteOf ((8*(N:Int)) / 2 ^ (56 - 8*j))) j) m wx) (fun _ i _=>(intOf i+8).toNat)
     case atStart=>exact⟨0,g,cap,q,aG _,rfl,by go_num,rfl,by have h:=HM4.out;simpa[upto] using h⟩
     case round=>
      obtain⟨j,g,cap,r,hj,hr,rfl,rfl,hm⟩:=hrel;have HM5:=JJ hm;have HR:=JJ hr;have ar2:=hm.lo.size;have hrb:r<=1000000300:=by omega
      obtain⟨ms,hms⟩:∃ms,pm++upto (fun j=>byteOf ((8*(N:Int)) / 2 ^ (56 - 8*j))) j=ms:=⟨_,rfl⟩;have hml:ms.length=r:=by rw[<-hms,KN,HPL.out,upto_length,hr]
      rw[hms] at HM5 hm;have HMS:=JJ hms;have RP:Hid (wr.ownsRow W.heap.size 5 1 (.slice (some ⟨g,0,none⟩) r cap) r (ms.map Extern.Stop.cell)):=JJ (by have h:=hm.own;rw[hml] at h;exact h);clear hm hr hms HM4;by_cases hlt:j<8
      ·obtain⟨s,hs⟩:∃s:Nat,56 - 8*j=s:=⟨_,rfl⟩;have hs2:56 - 8*(j:Int)=(s:Int):=by omega
       have hs0:(0:Int)<=(s:Int):=by omega
       have hs1:(s:Int)<=56:=by omega
       obtain⟨y,hy⟩:∃y:Int,(8*(N:Int)) / 2 ^ s=y:=⟨_,rfl⟩;have UY:Hid (r+1=(ms++ [byteOf y]).length):=JJ (by rw[KN,hml];rfl);have HL2:Hid (ms.map Extern.Stop.cell++ [Extern.Stop.cell (byteOf y)]=(ms++ [byteOf y]).map Extern.Stop.cell):=JJ (by simp);have HYY:=JJ hy;have RX:=JJ hs;have HS2:=JJ hs2;have aAj:IntKind.u8.wrap y=y%256:=by rw[lF]
       rw[hs2];clear hml hs hs2
       gi_wp2_with (gi_at_builtin;refine gy _ rfl _ _ 55 rfl W.heap.size 5 i0 (.int .u8 0) 1 1 bC hi hq0 hq1 hq2 rfl (by omega) (.slice (some ⟨g,0,none⟩) r cap) r (ms.map Extern.Stop.cell) rfl (RP.out.alloc _) ⟨wr.heap.size,0,none⟩ 1 1 [Extern.Stop.cell (byteOf y)] rfl rfl (TK (byteOf y) _ (LH y).symm) (RQ _) (by unfold maxLen;omega) (by omega) (by first|(simp;done)|(simp;omega)) ?_;intro v2 w2 hown2 hg2 _;have hm2:SQ W.heap.size W (ms++ [byteOf y]) v2 w2:=HM5.out.app (ay _) UY.out HL2.out hown2 hg2;obtain⟨g2,cap2,rfl,_⟩:=LW hown2 (jl _);have HM6:=JJ hm2;clear hown2 hg2 hm2)
       go_roundw
       case rel=>exact⟨j+1,g2,cap2,r+1,hlt,by have:=HR.out;omega,by have:=HS2.out;congr 1;omega,rfl,by rw[upto_succ,<-aH,HMS.out,RX.out,HYY.out];exact HM6.out⟩
       case measure=>have:=HS2.out;simp[intOf];omega
      ·have hj8:j=8:=by omega
       have hs2:56 - 8*(j:Int)= -8:=by omega
       have akP:ms=Q4 bs:=by
        rw[<-HMS.out,hj8,<-HPM.out];unfold Q4 aeq;rw[HN.out]
       have hT:r=q+8:=by have:=HR.out;omega
       obtain⟨k,hk⟩:∃k,r=64*k:=⟨r / 64,by have h1:=Y5 N;have h2:=HQ.out;have h3:=HZE.out;omega⟩;have HTT:=JJ hk;have Qc:=JJ akP;have HML:=JJ hml;have HC0:Hid (∀i,i<r->wr.cell? ⟨g,i,none⟩=some (Extern.Stop.cell (ms[i]?.getD 0))):=JJ fun i hi=>by
        have h:=RP.out.cells (g:=g) rfl i (Extern.Stop.cell (ms[i]?.getD 0)) (by rw[aJ,KL (by omega)];rfl);rw[addr_add] at h;exact h
       have hcap:r<=cap/\cap<=9223372036854775807:=by
        rcases RP.out.2 with ⟨h1,_⟩|⟨g',cap',cur,h1,_,_,h2,h3,_⟩
        ·cases h1
        ·injection h1 with _ _ h1;subst h1;exact⟨h2,by unfold maxLen at h3;omega⟩
       have hgl:=af2 RP.out g rfl;have hgw:W.heap.size<=g:=by
        rcases RP.out.2 with ⟨h1,_⟩|⟨g',cap',cur,h1,h2,_⟩
        ·cases h1
        ·injection h1 with h1 _ _;injection h1 with h1;injection h1 with h1;omega
       have HJ0:Hid (J [] wr):=JJ (HJ.out _ _ _ h0 HM5.out.lo);rw[hs2];clear hs2 hj8 akP hT hml
       gi_wp2_with fail
       gi_loopw [3] (fun m wx=>∃i a q cc o xs,i<=k/\q=64*(k - i)/\o=64*i/\m=.slice a q cc/\xs.map (·.bs)=upto (chunk ms) i/\J xs wx/\afb W g r ms wx/\(i<k->a=some ⟨g,o,none⟩/\q<=cc/\cc<=9223372036854775807)) (fun m _=>match m with| .slice _ q _=>q|_=>0)
       case atStart=>exact⟨0,some ⟨g,0,none⟩,r,cap,0,[],aG _,by rw[hk];rfl,rfl,rfl,rfl,HJ0.out,⟨hgl,hgw,ar2,HC0.out⟩,fun _=>⟨rfl,hcap.1,hcap.2⟩⟩
       case round=>
        obtain⟨i,a,q,cc,o,xs,hi,hq,ho,rfl,hxs,hjx,hbk,hlast⟩:=hrel;have HBK:=JJ hbk;have Ud:=JJ hxs;have HJX:=JJ hjx;clear hbk hxs hjx;by_cases hlt:i<k
        ·obtain⟨rfl,hqc,hcm⟩:=hlast hlt;have aAx:64<=q:=by omega
         have hxe:aaP ⟨g,o,cc,chunk ms i⟩ wr:=HBK.out.el i o cc (chunk ms i) ho (by have:=HTT.out;omega) rfl HML.out;obtain⟨fn,tmps,assign,body,hy,hR⟩:=HY.out xs ⟨g,o,cc,chunk ms i⟩ wr HJX.out HBK.out.ge hxe;dsimp only[Ya] at hy;have hq0:(0:Int)<(q:Int):=by omega
         have HQ6:=JJ hq;have Xy:=JJ ho;clear hq ho hlast hxe
         gi_wp2_with fail
         refine hR.mono ?_;rintro e W3 ⟨rfl,hJ3,hk3⟩;have HJ3:=JJ hJ3;have HB3:=JJ (HBK.out.keep hk3);have Xz:Hid ((xs++ [(⟨g,o,cc,chunk ms i⟩:ElD)]).map (·.bs)=upto (chunk ms) (i+1)):=JJ (by rw[bY,Ud.out,upto_succ];rfl);clear hJ3 hk3 hy hR HJX HBK;by_cases hcc:cc=64
         ·have HCC:=JJ hcc;have hqe:q=64:=by omega
          have hke:i+1=k:=by have:=HQ6.out;omega
          have Y9:=JJ hke;subst hcc;subst hqe;clear hke
          gi_wp2_with fail
          go_roundw
          case rel=>exact⟨i+1,_,0,_,64*(i+1),_,by omega,by have:=Y9.out;omega,rfl,rfl,Xz.out,HJ3.out,HB3.out,fun h=>by have:=Y9.out;omega⟩
          case measure=>simp
         ·have aAk:64<cc:=by omega
          gi_wp2_with fail
          go_roundw
          case rel=>exact⟨i+1,_,q - 64,cc - 64,o+64,_,hlt,by have:=HQ6.out;omega,by have:=Xy.out;omega,rfl,Xz.out,HJ3.out,HB3.out,fun _=>⟨rfl,by omega,by omega⟩⟩
          case measure=>simp;omega
        ·have hie:i=k:=by omega
         have hq0:q=0:=by omega
         have HIE:=JJ hie;subst hq0;clear hie hlast
         gi_wp2_with fail
         go_end0
         refine⟨⟨_,rfl⟩,xs,?_,HJX.out⟩;rw[Ud.out,HIE.out,<-Qc.out,HML.out,HTT.out,mr _ (by decide)]
end Go.Proofs.YtbaehbbonkljpaaGreatDoor
namespace Go.Proofs.YtbaehbbonkljpaaGreatDoor
open Go Go.RowKit Go.Shelf
attribute [local go_sem] iM
section
variable {F:Fence}{n:Nat}{P:Program}{ops:ax Oper}{rest:ag Oper}{o:Oper}{a:Act}{w:ae}{Q:Exit->Act->ae->Prop}
theorem Ua (hg:o.guard=none)(ty:TypeId)(x:Operand)(ho:o.op=.load ty x)(g:Nat)(hx:a.eval x=.pointer (some ⟨g,0,none⟩))(cs:ax ah)(hr:MS w g cs)
  (d:TypeDesc)(hu:P.underlying ty=some d)(hd:d.isRow=true)(hi:(P.info? ty).map (·.size)=some cs.size)(h:wpListIn F n P ops Q rest (a.put o.dst (.agg cs)) w):wpListIn F n P ops Q (o::rest) a w:=by
 refine jS hg fun K hK=>?_;have hc:w.rangeAt g 0 cs.toList:=fun j v hv=>by rw[aT,hr.2 j];simpa using hv
 unfold Oper.wpIn;refine⟨?_,?_⟩
 ·simp[Oper.about,ho]
 ·rw[jA F _ _ (by rw[ho];intro c hc';cases hc')];unfold execOp;simp only[ho,hx,Instr.loadAt,Instr.sureAddr,fH,jF,dX,lu w g 0 ty cs.toList d hc hu hd (by rw[hi];simp)];exact hK _ _ (by simpa using h)
theorem OX (hg:o.guard=none)(ty:TypeId)(x y:Operand)(ho:o.op=.store ty x y)(g:Nat)(cells:ax ah)(hx:a.eval x=.pointer (some ⟨g,0,none⟩))(hy:a.eval y=.agg cells)
  (t:TypeId)(old:ax ah)(hb:w.heap[g]? =some (.cells old t (0,0)))(hi:(P.info? ty).map (·.size)=some cells.size)(hold:old.size=cells.size)(h1:cells.all (·.oneCell')=true)
  (h:wpListIn F n P ops Q rest (a.put o.dst undef) (w.setRow g cells)):wpListIn F n P ops Q (o::rest) a w:=by
 refine jS hg fun K hK=>?_;unfold Oper.wpIn;refine⟨?_,?_⟩
 ·simp[Oper.about,ho]
 ·rw[jA F _ _ (by rw[ho];intro c hc';cases hc')];unfold execOp;simp only[ho,hx,hy,Instr.storeAt,Instr.sureAddr,fH,jF,dX,run_storeVar_row w g t ty old cells hb hi hold h1];exact hK _ _ h
theorem Nu (hg:o.guard=none)(t:TypeId)(ho:o.op=.alloc t)(cells:ax ah)(hz:(P.info? t).map (fun i=>(i.zero,i.size))=some (some (.agg cells),cells.size))
  (h:wpListIn F n P ops Q rest (a.put o.dst (.pointer (some ⟨w.heap.size,0,none⟩))) (w.alloc (.cells cells t))):wpListIn F n P ops Q (o::rest) a w:=by
 refine jS hg fun K hK=>?_;unfold Oper.wpIn;refine⟨?_,?_⟩
 ·simp[Oper.about,ho]
 ·rw[jA F _ _ (by rw[ho];intro c hc';cases hc')];unfold execOp;simp only[ho,fH,Oi w t (.agg cells) _ hz,dX];exact hK _ _ h
end
def cellsB (bs:ag au):ax ah:=(JO bs).toArray
theorem KU (bs:ag au):(cellsB bs).size=bs.length:=by simp[cellsB,JO]
theorem O5 (bs:ag au):(cellsB bs).all (·.oneCell')=true:=by
 rw[dS];intro v hv;exact Q5 bs v (by simpa[cellsB] using hv)
theorem Ur (bs:ag au)(i:Nat)(x:au):(cellsB bs).setIfInBounds i (Extern.Stop.cell x)=cellsB (bs.set i x):=by
 simp[cellsB,JO,List.map_set]
theorem Qe (bs:ag au)(i:Nat)(h:i<bs.length):(cellsB bs)[i]? =some (Extern.Stop.cell (bs[i]?.getD 0)):=by
 simp[cellsB,JO,h]
def z32:ag au:=List.replicate 32 0
theorem NW:(Tryz.prog.info? 24).map (fun i=>(i.zero,i.size))=some (some (.agg (cellsB z32)),(cellsB z32).size):=by kernel_rfl
def Ru:ag Int:= [1779033703,3144134277,1013904242,2773480762,1359893119,2600822924,528734635,1541459225]
def TQ (KR st:ag Int)(l:ag (ag au)):ag Int:=l.foldl (Zr KR) st
theorem X4 (KR st:ag Int)(xs:ag au)(h:st.length=8):(Zr KR st xs).length=8:=by unfold Zr;rw[Vk];exact h
theorem RG (KR:ag Int)(l:ag (ag au)):∀st:ag Int,st.length=8->(TQ KR st l).length=8:=by
 induction l with
 |nil=>exact fun _ h=>h
 |cons x l ih=>exact fun st h=>ih _ (X4 KR st x h)
theorem Wn (KR st:ag Int)(l:ag (ag au))(x:ag au):TQ KR st (l++ [x])=Zr KR (TQ KR st l) x:=by simp[TQ]
def ML (st:ag Int):Nat->ag au
 |0=>z32
 |i+1=>(ML st i).set i (byteOf ((st[i / 4]?.getD 0) / 2 ^ (24 - 8*(i%4))))
theorem Uy (st:ag Int)(i:Nat):(ML st i).length=32:=by
 induction i with
 |zero=>simp[ML,z32]
 |succ i ih=>simp[ML,ih]
def OE (KR:ag Int)(bs:ag au):ag au:=ML (TQ KR Ru (upto (chunk (Q4 bs)) ((Q4 bs).length / 64))) 32
theorem Nj (KR:ag Int)(bs:ag au):(OE KR bs).length=32:=Uy _ _
theorem Zy (a:aj Addr)(n c:Nat)(w:ae):CallsIn Fence.wide 2 Tryz.prog 93 #[.slice a n c] w fun e w'=>e=.returned (.func (.func 117) #[] #[.pointer (some ⟨w.heap.size,0,none⟩)])/\w'=w.alloc (.cells #[.slice a n c] 179):=by
 refine ik Tryz.func93 rfl trivial ?_ rfl;simp only[Tryz.ntmps93,bZ,bG,dE,Nat.reduceAdd,Nat.reduceSub,df,dh,dL,dw,bU,dn]
 gi_wp2
 go_ret;exact⟨rfl,rfl⟩
end Go.Proofs.YtbaehbbonkljpaaGreatDoor
namespace Go.Proofs.YtbaehbbonkljpaaGreatDoor
open Go Go.RowKit Go.Shelf
attribute [local go_sem] iM
structure abh (w:ae)(KR:ag Int)(l:ag (ag au))(W:ae):Prop where
 res:AV w.heap.size 24 (cellsB z32) W
 st:AV (w.heap.size+1) 180 (JP (TQ KR Ru l)) W
 lo:ai w.heap.size w W
theorem abh.grow {w W W':ae}{KR:ag Int}{l:ag (ag au)}(h:abh w KR l W)(hb:ai (w.heap.size+3) W W'):abh w KR l W':=
 ⟨⟨(hb.block _ (by omega)).trans h.res.var⟩,⟨(hb.block _ (by omega)).trans h.st.var⟩,h.lo.trans (hb.mono (by omega))⟩
theorem ZG {w w3:ae}{KR:ag Int}{B:Obj}{v:ah}{t:TypeId}(hB:∃cs,B=.cells cs 180 (0,0))(h:w3=(((w.alloc (.cells (cellsB z32) 24)).alloc B).setRow (w.heap.size+1) (JP Ru)).alloc (.cells #[v] t)):
  abh w KR [] w3/\w3.heap.size=w.heap.size+3/\w3.cell? ⟨w.heap.size+2,0,none⟩=some v:=by
 obtain⟨cs,rfl⟩:=hB;obtain⟨W2,hW2⟩:∃W,((w.alloc (.cells (cellsB z32) 24)).alloc (.cells cs 180 (0,0))).setRow (w.heap.size+1) (JP Ru)=W:=⟨_,rfl⟩;have hs2:W2.heap.size=w.heap.size+2:=by rw[<-hW2];simp
 have h0:W2.heap[w.heap.size]? =some (.cells (cellsB z32) 24 (0,0)):=by rw[<-hW2,cZ _ _ _ _ (by omega)];exact dJ w _ _
 have h1:W2.heap[w.heap.size+1]? =some (.cells (JP Ru) 180 (0,0)):=by rw[<-hW2];exact aQ _ _ _ _ _ _ (bW w _ _)
 have hb:ai w.heap.size w W2:=by rw[<-hW2];exact JR (((aW _ w).alloc (ay _) _).alloc (by simp) _) (bV _) _
 rw[hW2] at h;subst h;have hb2:=JM W2 (.cells #[v] t);refine⟨⟨⟨(hb2.block _ (by omega)).trans h0⟩,⟨(hb2.block _ (by omega)).trans h1⟩,hb.trans (hb2.mono (by omega))⟩,by simp;omega,?_⟩;rw[<-hs2];exact aC _ _ 0 _ _ _ (aF W2 _)
def aiR (x:ElD):ah:=.slice (some ⟨x.b,x.off,none⟩) 64 x.cap
theorem aaP.put {x:ElD}{A:ae}{l:Nat}{o o':Obj}(h:aaP x A)(ho:A.heap[l]? =some o)(hc:o.isCells=false):aaP x (A.putObj l o'):=by
 have hne:x.b≠l:=fun e=>by
  have h1:=h.at_ 0 (by omega);subst e;cases o with
  |cells cs t fr=>cases hc
  |_=>simp[World.cell?,ho] at h1
 exact⟨by simp[World.putObj];exact h.lt,h.len,fun j hj=>(bI (a:=⟨x.b,x.off+j,none⟩) (bQ hne)).trans (h.at_ j hj)⟩
theorem akG (KR:ag Int)(hK:KR.length=64)(w:ae)(hG:MS w 0 (JP KR))(bs:ag au)(hb0:0<bs.length)(hlen:bs.length<=1000000000)(pb ab off c:Nat)(hp:w.cell? ⟨pb,0,none⟩=some (.slice (some ⟨ab,off,none⟩) bs.length c))(hlp:pb<w.heap.size)(hla:ab<w.heap.size)
  (hby:∀j,j<bs.length->w.cell? ⟨ab,off+j,none⟩=some (Extern.Stop.cell (bs[j]?.getD 0))):
  Calls Tryz.prog 73 #[.slice (some ⟨pb,0,none⟩) 1 1] w fun e w'=>e=.returned (.agg (cellsB (OE KR bs)))/\ai w.heap.size w w':=by
 refine(gX (n:=3)).1 ?_;have hro:Fence.wide.round=none:=rfl;have h1:1<=3:=by omega
 have HK:=JJ hK;have HG:=JJ hG;have SY:=JJ hby;have HP:=JJ hp;clear hK hG hby hp;refine iK Tryz.func73 rfl trivial ?_ hro;simp only[Tryz.ntmps73,bZ,bG,dE,Nat.reduceAdd,Nat.reduceSub,df,dh,dL,dw,bU,dn]
 gi_wp2_with (first
  |(refine Nu rfl _ rfl (cellsB z32) NW ?_)
  |(refine Nu rfl _ rfl (JP (List.replicate 8 0)) Qh ?_;refine OX rfl 180 _ _ rfl (w.alloc (.cells (cellsB z32) 24)).heap.size (JP Ru) rfl rfl 180 (JP (List.replicate 8 0)) (aF _ _) (by kernel_rfl) rfl (KP _) ?_)
  |(refine⟨trivial,?_⟩;gi_at_call 93;refine(Zy _ _ _ _).mono ?_;rintro e w3 ⟨rfl,hw3⟩;obtain⟨hs3,hz3,akH⟩:=ZG (KR:=KR) ⟨_,rfl⟩ hw3;have Qi:=JJ hs3;have Xz:=JJ akH;have HZ3:=JJ hz3;clear hw3 hs3 akH hz3))
 have hseq:∀W,ai w3.heap.size w3 W->U4 Fence.wide (3 - 1) Tryz.prog 117 #[.pointer (some ⟨w.heap.size+1+1,0,none⟩)] Ya aaP (fun xs=>xs.map (·.bs)=upto (chunk (Q4 bs)) ((Q4 bs).length / 64)) W:=fun W hW=>by
  have hz:=HZ3.out;have hsz:=hW.size;have hlo:=Qi.out.lo;exact acb Fence.wide 2 trivial rfl (by omega) bs hb0 hlen W (w.heap.size+1+1) pb ab off c ((hW.cell (p:=⟨w.heap.size+2,0,none⟩) (by show w.heap.size+2<w3.heap.size;omega)).trans Xz.out)
   (((hW.mono (by omega)).cell (p:=⟨pb,0,none⟩) hlp).trans ((hlo.cell (p:=⟨pb,0,none⟩) hlp).trans HP.out)) (by omega) (by omega) (by omega) (fun j hj=>((hW.mono (by omega)).cell (p:=⟨ab,off+j,none⟩) hla).trans ((hlo.cell (p:=⟨ab,off+j,none⟩) hla).trans (SY.out j hj)))
 have aqY:=JJ hseq;clear hseq;refine TY hro h1 (gf:=117) (lb:= #[.pointer (some ⟨w.heap.size+1+1,0,none⟩)]) rfl trivial (lK mQ (by kernel_rfl) rfl) aqY.out (fun _=>rfl)
  (fun (xs:ag ElD) W=>abh w KR (xs.map (fun x:ElD=>x.bs)) W) (fun xs A B h hb=>h.grow (hb.mono (by rw[HZ3.out];exact ay _))) Qi.out
  (fun x=> {tmps:= #[.slice (some ⟨pb,0,none⟩) 1 1,undef,.pointer (some ⟨w.heap.size,0,none⟩),.pointer (some ⟨w.heap.size+1,0,none⟩),aiR x,undef,undef,.agg (JP Ru),.slice (some ⟨pb,0,none⟩) 1 1,.func (.func 117) #[] #[.pointer (some ⟨w.heap.size+1+1,0,none⟩)],aiR x,undef,undef,undef,undef,undef,undef,undef,undef,undef,undef,undef,undef,undef,undef,undef,undef,undef,undef,undef],defers:= []})
  (fun x A l o o' h1 h2 h3=>h1.put h2 h3) ?assign ?body ?done
 case assign=>
  intro l x W K hK;unfold Ya
  gi_wp2
  exact hK
 case body=>
  intro l pre x W hI hsz hx;have hGW:MS W 0 (JP KR):=⟨LK HG.out.1 hI.lo.size,fun i=>(hI.lo.cell (p:=⟨0,i,none⟩) HG.out.1).trans (HG.out.2 i)⟩;have HC:Hid (Calls Tryz.prog 94 #[.pointer (some ⟨w.heap.size+1,0,none⟩),aiR x] W fun e w'=>e=.returned (.tuple #[])/\AV (w.heap.size+1) 180 (JP (Zr KR (TQ KR Ru (pre.map (fun x:ElD=>x.bs))) x.bs)) w'/\agV (w.heap.size+1) W w'):=
   JJ (add_any KR HK.out W hGW (w.heap.size+1) x.b x.off x.cap (TQ KR Ru (pre.map (fun x:ElD=>x.bs))) x.bs (RG _ _ _ rfl) hI.st hx.len hx.lt hx.at_)
  have HI:=JJ hI;clear hGW hI hx
  gi_wp2_with (refine⟨trivial,?_⟩;gi_at_call 94;refine(CallsIn.inRound l (gX.2 HC.out)).mono ?_;rintro e W2 ⟨rfl,hav,hkp⟩)
  have hl:=HI.out.lo;have hz3:=HZ3.out;refine⟨⟨⟨(hkp.block _ (by have:=hl.size;omega) (by omega)).trans HI.out.res.var⟩,?_,⟨hkp.os.trans hl.os,hkp.tape.trans hl.tape,hkp.output.trans hl.output,aO hl.size hkp.size,fun k hk=>(hkp.block k (by have:=hl.size;omega) (by omega)).trans (hl.block k hk)⟩⟩,⟨hkp.size,fun k h1 h2=>hkp.block k h2 (by omega)⟩⟩;rw[Wn];exact hav
 case done=>
  intro D xs W hD hS hI hD0;rw[hS] at hI;obtain⟨st,hst⟩:∃st,TQ KR Ru (upto (chunk (Q4 bs)) ((Q4 bs).length / 64))=st:=⟨_,rfl⟩;have hsl:st.length=8:=by rw[<-hst];exact RG _ _ _ rfl
  have hI2:AV (w.heap.size+1) 180 (JP st) W:=by rw[<-hst];exact hI.st
  have HI:=JJ hI;have HI2:=JJ hI2;have HD0:=JJ hD0;have HST:=JJ hst;have HSL:=JJ hsl;clear hI hI2 hD0 hst hsl hS;have WX:=JJ (AV.new W (cellsB (ML st 0)) 24);have HB0:=JJ (JM W (.cells (cellsB (ML st 0)) 24));have ase:=HI2.out.lt;have hdl:D<W.heap.size:=(KY.1 HD0.out).1
  gi_wp2_with (refine Nu rfl _ rfl (cellsB z32) NW ?_)
  gi_loopw [13] (fun i wx=>∃k:Nat,k<=32/\i=.int .i64 (k:Int)/\AV W.heap.size 24 (cellsB (ML st k)) wx/\ai W.heap.size W wx) (fun i _=>32 - (intOf i).toNat)
  case atStart=>exact⟨0,aG _,rfl,WX.out,HB0.out⟩
  case round=>
   obtain⟨k,hk,rfl,hd,hb⟩:=hrel;have HDV:=JJ hd;have HBL:=JJ hb;have HOL:=JJ (Uy st k);clear hd hb WX HB0;by_cases hlt:k<32
   ·have i1:(k:Int)<32:=by omega
    obtain⟨q4,hq4⟩:∃q:Nat,k / 4=q:=⟨_,rfl⟩;obtain⟨r4,hr4⟩:∃q:Nat,k%4=q:=⟨_,rfl⟩;obtain⟨s4,hs4⟩:∃q:Nat,24 - 8*r4=q:=⟨_,rfl⟩;obtain⟨v,hv⟩:∃v,st[q4]?.getD 0=v:=⟨_,rfl⟩;have cs:wr.cell? ⟨w.heap.size+1,q4,none⟩=some (.int .u32 v):=((HBL.out.cell (p:=⟨w.heap.size+1,q4,none⟩) ase).trans (HI2.out.cell q4)).trans (by rw[KT _ _ (by rw[HSL.out];omega),hv]);have cd:wr.cell? ⟨W.heap.size,k,none⟩=some (Extern.Stop.cell ((ML st k)[k]?.getD 0)):=(HDV.out.cell k).trans (Qe _ _ (by rw[HOL.out];exact hlt));have cf:=HDV.out.Oo k;obtain⟨y,hy⟩:∃y,v / 2 ^ s4=y:=⟨_,rfl⟩;have g4:(k:Int) / 4=(q4:Int):=by omega
    have g5:(k:Int)%4=(r4:Int):=by omega
    have g6:24 - 8*(r4:Int)=(s4:Int):=by omega
    have b4:(q4:Int)<8:=by omega
    have b5:(r4:Int)<4:=by omega
    have b6:(s4:Int)<=24:=by omega
    have hw8:IntKind.u8.wrap y=y%256:=by rw[lF]
    have HN:Hid (AV W.heap.size 24 (cellsB (ML st (k+1))) (wr.setCell ⟨W.heap.size,k,none⟩ (.int .u8 (y%256)))):=JJ (by
     have h:=HDV.out.put k (Extern.Stop.cell (byteOf y));rw[Ur,LH] at h;have e:ML st (k+1)=(ML st k).set k (byteOf y):=by
      show(ML st k).set k (byteOf ((st[k / 4]?.getD 0) / 2 ^ (24 - 8*(k%4))))=_;rw[hq4,hr4,hs4,hv,hy]
     rw[e];exact h)
    clear hq4 hr4 hs4 hv
    gi_wp2_with fail
    go_roundw
    case rel=>exact⟨k+1,by omega,by go_num,HN.out,HBL.out.setCell (p:=⟨W.heap.size,k,none⟩) (ay _) _⟩
    case measure=>simp[intOf];omega
   ·have Y9:Hid (k=32):=JJ (by omega);have i1:¬(k:Int)<32:=by omega
    have i2:((k:Int)<32)=False:=by simp;omega
    have HRW:Hid (MS wr W.heap.size (cellsB (ML st k))):=JJ ⟨HDV.out.lt,HDV.out.cell⟩;have L6:Hid ((Tryz.prog.info? 24).map (·.size)=some (cellsB (ML st k)).size):=JJ (by rw[KU,HOL.out];kernel_rfl);have HSO:Hid ((cellsB z32).size=(cellsB (ML st k)).size):=JJ (by rw[KU,KU,HOL.out];rfl);have HRS:Hid (wr.heap[w.heap.size]? =some (.cells (cellsB z32) 24 (0,0))):=JJ ((HBL.out.block _ (by omega)).trans HI.out.res.var);have HDD:Hid ((wr.setRow w.heap.size (cellsB (ML st k))).heap[D]? =some (.deferred (some []))):=JJ ((cZ _ _ _ _ (by have:=HZ3.out;omega)).trans ((HBL.out.block _ hdl).trans HD0.out));clear hlt
    gi_wp2_with (first
     |(refine Ua rfl _ _ rfl W.heap.size rfl (cellsB (ML st k)) HRW.out _ aK rfl L6.out ?_;refine OX rfl _ _ _ rfl w.heap.size (cellsB (ML st k)) rfl rfl 24 (cellsB z32) HRS.out L6.out HSO.out (O5 _) ?_))
    have hz3:=HZ3.out;have hlo:=HI.out.lo;refine⟨by simp,.inl ⟨_,_,rfl,jd HDD.out,?_⟩⟩;refine⟨_,dH rfl _ _ w.heap.size _ (cellsB (ML st k)) (0,0) _ rfl ((bQ (by omega)).trans (aQ _ _ _ _ _ _ HRS.out)) aK rfl L6.out,?_⟩;refine⟨?_,(JR (hlo.trans (HBL.out.mono hlo.size)) (ay _) _).trans (TJ (by omega))⟩;rw[Y9.out,<-HST.out];rfl
end Go.Proofs.YtbaehbbonkljpaaGreatDoor
