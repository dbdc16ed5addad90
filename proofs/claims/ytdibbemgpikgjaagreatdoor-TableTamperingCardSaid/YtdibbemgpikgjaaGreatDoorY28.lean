/- The texts DgL, DgB, DgH, DgK, in this order. -/
import Derived.Test.YtdibbemgpikgjaaGreatDoorY00
import Derived.Test.YtdibbemgpikgjaaGreatDoorProg
import Derived.Defers
import Derived.Laws.AppendOwnNone
import Derived.Laws.BitsAllLaws
import Derived.Laws.BytesArg
import Derived.Laws.Cover3
import Derived.Lib.AppendStr
import Derived.Lib.ByteType
import Derived.MapKept
import Derived.Recover
import Derived.Test.YtdibbemgpikgjaaGreatDoorY01
import Derived.Test.YtdibbemgpikgjaaGreatDoorY05
import Derived.Test.YtdibbemgpikgjaaGreatDoorY27
set_option maxRecDepth 10000
set_option maxHeartbeats 8000000
namespace Go.Proofs.YtdibbemgpikgjaaGreatDoor
open Go Go.RowKit
structure FH (B:Nat) (W W':World):Prop where
 size:W.heap.size≤W'.heap.size
 block:∀k,B≤k→k<W.heap.size→W'.heap[k]? =W.heap[k]?
def tH {α:Type} (F:Fence) (n:Nat) (P:Program) (g:Nat) (lb:Array Value) (encs:α→Array Value) (R:α→World→Prop) (S:List α→Prop) (W:World):Prop:=
 ∀(l:Nat) (J:List α→World→Prop),l<W.heap.size→(∀xs A B,J xs A→Below W.heap.size A B→J xs B)→
  (∀pre x A,J pre A→W.heap.size≤A.heap.size→R x A→YieldAt F (n - 1) P l (encs x) A fun e B=>e= .returned (.bool true)∧J (pre++ [x]) B∧FH W.heap.size A B)→
  J [] W→CallsIn F n P g (#[.func (.yield l) #[] #[]]++lb) W fun e W'=>(∃v,e= .returned v)∧∃xs,S xs∧J xs W'
theorem qG {B l:Nat} {W:World} {o:Obj} (h:B≤l):Below B W (W.putObj l o):=
 ⟨rfl,rfl,rfl,by simp [World.putObj],fun k hk=>World.putObj_heap_other (by omega)⟩
section
variable {F:Fence} {n:Nat} {P:Program}
theorem qW {α:Type} {g:Operand} {ps:Array Tmp} {assign body:Code} {Q:Exit→Act→World→Prop} {a:Act} {w:World}
  (hro:F.round=none) (h1:1≤n) {gf:Nat} {lb:Array Value} (hg:a.eval g= .func (.func gf) #[] lb) (hFg:F.fn gf) (eg:∀args w,(callFunc gf args).run P w= .ok (.enter gf args) w)
  {encs:α→Array Value} {R:α→World→Prop} {S:List α→Prop} (hseq:∀W,Below w.heap.size w W→tH F (n - 1) P gf lb encs R S W) (hps:∀x,(encs x).size=ps.size)
  (I:List α→World→Prop) (hI:∀xs A B,I xs A→Below w.heap.size A B→I xs B) (h0:I [] w) (a₁:α→Act)
  (hR:∀x A l o o',R x A→A.heap[l]? =some o→o.isCells=false→R x (A.putObj l o'))
  (hassign:∀(l:Nat) (x:α) (W:World) (K:Act→World→Prop),K (a₁ x) W→
   assign.wpIn (F.inRound l) (n - 1 - 1) P (Exit.then K (fun _ _ _=>False)) {tmps:=(ps.zip (encs x)).foldl (fun t (p,v)=>t.setIfInBounds p v) a.tmps,defers:= []} W)
  (hbody:∀(l:Nat) (pre:List α) (x:α) (W:World),I pre W→w.heap.size≤W.heap.size→R x W→body.wpIn (F.inRound l) (n - 1 - 1) P (fun e _ W'=>e= .normal∧I (pre++ [x]) W'∧FH w.heap.size W W') (a₁ x) W)
  (hdone:∀(D:Nat) (xs:List α) (W:World),w.heap.size≤D→S xs→I xs W→W.heap[D]? =some (.deferred (some []))→Q .normal {a with defers:= {target:= .collected D,args:= #[]}::a.defers} W):
  (Code.rangeFunc g ps assign body).wpIn F n P Q a w:=by
 refine wpIn_rangeFunc ?_;intro fn hfn;rw [hro];obtain ⟨rec,hrec⟩:∃rec:LoopState→Option Code→Loop,rec=fun st pe=> {state:=st,pending:=pe,fn,tmps:=a.tmps,params:=ps,assign,body,defers:=w.heap.size}:=⟨_,rfl⟩;obtain ⟨W1,hW1⟩:∃W1,(w.alloc (.deferred (some []))).alloc (.loop (rec .ready none))=W1:=⟨_,rfl⟩;have hL1:W1.heap[w.heap.size+1]? =some (.loop (rec .ready none)):=by rw [←hW1];exact heap_alloc2_new w _ _
 have hK1:W1.heap[w.heap.size]? =some (.deferred (some [])):=by rw [←hW1];exact heap_alloc2_old w _ _
 have hs1:W1.heap.size=w.heap.size+2:=by rw [←hW1];simp
 have hb1:Below w.heap.size w W1:=by rw [←hW1];exact ((Below.refl _ w).alloc (Nat.le_refl _) _).alloc (by simp) _
 refine ⟨w.heap.size+1,[{target:= .collected w.heap.size,args:= #[]}],W1,{target:= .fn (.func gf) lb,args:= #[.func (.yield (w.heap.size+1)) #[] #[]]},W1,gf,#[.func (.yield (w.heap.size+1)) #[] #[]]++lb,W1,?_,?_,?_,?_,fun _=>h1,?_⟩
 ·rw [←hW1,hrec];exact run_enterLoop_outer _ _ _ _ _
 ·simp only [resolve,hg];simp [go_sem]
 ·intro f' hf';simp [Target.leads] at hf';subst hf';exact hFg
 ·simp [invoke,go_sem,eg]
 ·refine (hseq W1 hb1 (w.heap.size+1) (fun pre W=>I pre W∧w.heap.size+2≤W.heap.size∧W.heap[w.heap.size+1]? =some (.loop (rec .ready none))∧W.heap[w.heap.size]? =some (.deferred (some []))) (by omega) ?_ ?_ ⟨hI _ _ _ h0 hb1,by omega,hL1,hK1⟩).mono ?_
  ·rintro xs A B ⟨hi,hs,hl,hk⟩ hb;exact ⟨hI _ _ _ hi (hb.mono (by omega)),Nat.le_trans hs hb.size,(hb.block _ (by omega)).trans hl,(hb.block _ (by omega)).trans hk⟩
  ·rintro pre x A ⟨hi,hs,hl,hk⟩ _ hrx;have hlt:w.heap.size+1<A.heap.size:=(bT.1 hl).1;have hy:=run_yield (P:=P) (args:=encs x) hl (by rw [hrec];exact hps x);rw [hrec] at hy;refine ⟨fn,_,assign,body,hy,roundIn_of_wpIn hfn (hassign _ x A _ ⟨_,run_beginRound hl (by rw [hrec]),?_⟩)⟩;obtain ⟨A2,hA2⟩:∃A2,A.putObj (w.heap.size+1) (.loop {rec .ready none with state:= .busy})=A2:=⟨_,rfl⟩;have hs2:A2.heap.size=A.heap.size:=by rw [←hA2];simp [World.putObj]
   have hl2:A2.heap[w.heap.size+1]? =some (.loop {rec .ready none with state:= .busy}):=by rw [←hA2];exact World.putObj_heap_same hlt
   have hk2:A2.heap[w.heap.size]? =some (.deferred (some [])):=by rw [←hA2];exact (World.putObj_heap_other (by omega)).trans hk
   have hi2:I pre A2:=by rw [←hA2];exact hI _ _ _ hi (qG (by omega))
   have hr2:R x A2:=by rw [←hA2];exact hR _ _ _ _ _ hrx hl rfl
   have hu2:∀k,w.heap.size+2≤k→A2.heap[k]? =A.heap[k]? :=fun k h=>by rw [←hA2];exact World.putObj_heap_other (by omega)
   rw [hA2];refine wpIn_mono (hbody _ pre x A2 hi2 (by omega) hr2) ?_;rintro e a3 A3 ⟨rfl,hi3,hk3⟩;have hl3:A3.heap[w.heap.size+1]? =some (.loop {rec .ready none with state:= .busy}):=(hk3.block _ (by omega) (by omega)).trans hl2;have hk4:A3.heap[w.heap.size]? =some (.deferred (some [])):=(hk3.block _ (Nat.le_refl _) (by omega)).trans hk2;have hlt3:w.heap.size+1<A3.heap.size:=(bT.1 hl3).1;have hr:=run_endRound (P:=P) none hl3;refine ⟨_,_,hr,rfl,⟨hI _ _ _ hi3 (qG (by omega)),by have:=hk3.size;simp [World.putObj];omega,?_,(World.putObj_heap_other (by omega)).trans hk4⟩,⟨by have:=hk3.size;simp [World.putObj];omega,fun k h2 h3=>?_⟩⟩
   ·rw [World.putObj_heap_same hlt3,hrec];rfl
   ·rw [World.putObj_heap_other (by omega),hk3.block k (by omega) (by omega)];exact hu2 k (by omega)
  ·rintro e W2 ⟨⟨v,rfl⟩,xs,hS,hi,hs,hl,hk⟩;exact ⟨none,_,by have:=run_endLoop (P:=P) hl (by rw [hrec];simp);rw [hrec] at this;exact this,hdone _ xs _ (Nat.le_refl _) hS (hI _ _ _ hi (qG (by omega))) ((World.putObj_heap_other (by omega)).trans hk)⟩
end
end Go.Proofs.YtdibbemgpikgjaaGreatDoor
namespace Go.Proofs.YtdibbemgpikgjaaGreatDoor
open Go Go.RowKit Go.Shelf
attribute [local go_sem] Oper.semAt_some
def Jl (s:Int):List UInt8:=upto (fun j=>byteOf (s / 2 ^ (56 - 8*j))) 8
def nT (n:Nat):Nat:=(119 - n%64)%64
def iD (bs:List UInt8) (z:Nat):List UInt8:=bs++ [128]++List.replicate z 0
theorem lK (bs:List UInt8) (z:Nat):(iD bs z).length=bs.length+1+z:=by simp [iD];omega
theorem Cf (bs:List UInt8) (z:Nat):iD bs (z+1)=iD bs z++ [0]:=by simp [iD,List.replicate_succ']
theorem OY (n:Nat):nT n≤63:=by unfold nT;omega
theorem AB (n:Nat):((n+1+nT n:Nat):Int)%64=56:=by unfold nT;omega
theorem OZ {n z:Nat} (h:z<nT n):¬((n+1+z:Nat):Int)%64=56:=by unfold nT at h;omega
def ng (bs:List UInt8):List UInt8:=iD bs (nT bs.length)++Jl (8*(bs.length:Int))
def chunk (bs:List UInt8) (i:Nat):List UInt8:=(bs.drop (64*i)).take 64
structure NH where
 b:Nat
 off:Nat
 cap:Nat
 bs:List UInt8
structure DI (x:NH) (W:World):Prop where
 lt:x.b<W.heap.size
 len:x.bs.length=64
 at_:∀j,j<64→W.cell? ⟨x.b,x.off+j,none⟩=some (Extern.Stop.cell (x.bs[j]?.getD 0))
def yZ (x:NH):Array Value:= #[.slice (some ⟨x.b,x.off,none⟩) 64 x.cap]
structure pK (B:Nat) (W0:World) (ms:List UInt8) (v:Value) (wr:World):Prop where
 own:wr.ownsRow B 5 1 v ms.length (ms.map Extern.Stop.cell)
 lo:Below B W0 wr
theorem pK.app {B n:Nat} {W0 wr w1:World} {ms xs:List UInt8} {v v':Value} {o:Obj} {ys:List Value} (h:pK B W0 ms v wr) (hB:B≤W0.heap.size) (hn:n=(ms++xs).length) (hys:ys=(ms++xs).map Extern.Stop.cell) (hown:w1.ownsRow B 5 1 v' n ys) (hg:(wr.alloc o).grownBy w1 v.ownBlock):pK B W0 (ms++xs) v' w1:=by
 subst hn hys;have hs:=h.lo.size;have hz:=hg.size;rw [World.size_alloc] at hz;exact ⟨hown,⟨hg.os.trans h.lo.os,hg.tape.trans h.lo.tape,hg.output.trans h.lo.output,by omega,fun k hk=>by
  rw [hg.block k (by rw [World.size_alloc];omega) (eU h.own k hk),Below.heap_alloc wr o k (by omega)];exact h.lo.block k hk⟩⟩
structure J9 (W:World) (g r:Nat) (ms:List UInt8) (wx:World):Prop where
 lt:g<wx.heap.size
 new:W.heap.size≤g
 ge:W.heap.size≤wx.heap.size
 cells:∀i,i<r→wx.cell? ⟨g,i,none⟩=some (Extern.Stop.cell (ms[i]?.getD 0))
theorem Sj (ms:List UInt8) (i j:Nat) (hj:j<64):(chunk ms i)[j]? =ms[64*i+j]? :=by
 unfold chunk;rw [List.getElem?_take_of_lt hj,List.getElem?_drop]
theorem J9.el {W wx:World} {g r:Nat} {ms:List UInt8} (h:J9 W g r ms wx) (i o cc:Nat) (bs:List UInt8) (ho:o=64*i) (hi:64*i+64≤r) (hbs:bs=chunk ms i) (hl:ms.length=r):DI ⟨g,o,cc,bs⟩ wx:=by
 subst ho hbs;refine ⟨h.lt,?_,fun j hj=>?_⟩
 ·unfold chunk;simp;omega
 ·rw [Sj ms i j hj];exact h.cells (64*i+j) (by omega)
theorem J9.keep {W wx w2:World} {g r:Nat} {ms:List UInt8} (h:J9 W g r ms wx) (hk:FH W.heap.size wx w2):J9 W g r ms w2:=
 ⟨dP h.lt hk.size,h.new,Nat.le_trans h.ge hk.size,fun i hi=>(World.cell?_of_block (a:=⟨g,i,none⟩) (hk.block g h.new h.lt)).trans (h.cells i hi)⟩
theorem qH {w:World} {t:TypeId} (x:UInt8) (v:Value) (hv:v=Extern.Stop.cell x):∀j u,[Extern.Stop.cell x][j]? =some u→(w.alloc (.cells #[v] t)).cell? ((⟨w.heap.size,0,none⟩:Addr).add j)=some u:=by
 subst hv;intro j u hu;rw [addr_add,(Row.new w _ t).2 j];simpa using hu
theorem oH (x:UInt8):∀u∈ [Extern.Stop.cell x],u.oneCell'=true:=fun u hu=>by rw [List.mem_singleton.1 hu];rfl
theorem FT (F:Fence) (n:Nat) (h7:F.fn 73) (hro:F.round=none) (hn:1≤n) (bs:List UInt8) (hb0:0<bs.length) (hlen:bs.length≤1000000000) (W:World) (box pb ab off c:Nat) (hbox:W.cell? ⟨box,0,none⟩=some (.slice (some ⟨pb,0,none⟩) 1 1)) (hp:W.cell? ⟨pb,0,none⟩=some (.slice (some ⟨ab,off,none⟩) bs.length c))
  (hlb:box<W.heap.size) (hlp:pb<W.heap.size) (hla:ab<W.heap.size) (hby:∀j,j<bs.length→W.cell? ⟨ab,off+j,none⟩=some (Extern.Stop.cell (bs[j]?.getD 0))):
  tH F n Tryz.prog 73 #[.pointer (some ⟨box,0,none⟩)] yZ DI (fun xs=>xs.map (·.bs)=upto (chunk (ng bs)) ((ng bs).length / 64)) W:=by
 intro l J hl hJ hY h0;have HJ:=ae hJ;have HY:=ae hY;have HB:=ae hby;obtain ⟨N,hN⟩:∃N,bs.length=N:=⟨_,rfl⟩;rw [hN] at hp hb0 hlen;have HN:=ae hN;clear hJ hY hby hN;refine callsIn_of_wp Tryz.func73 rfl h7 ?_ hro;simp only [Tryz.ntmps73,List.size_toArray,List.length_cons,List.length_nil,Nat.reduceAdd,Nat.reduceSub,Array.replicate_succ,Array.replicate_zero,List.push_toArray,List.append_toArray,List.nil_append,List.cons_append];obtain ⟨i0,hi,hq0,hq1,hq2⟩:=info_parts kF
 gi_wp2
 gi_loopw [3,10] (fun m i wr=>(i= .int .i64 0∧m= .slice none 0 0∧wr=W)∨(∃g cap,i= .int .i64 1∧m= .slice (some ⟨g,0,none⟩) N cap∧pK W.heap.size W bs m wr)) (fun _ i _=>(1 - intOf i).toNat)
 case atStart=>exact .inl ⟨rfl,rfl,rfl⟩
 case round=>
  rcases hrel with h|h
  ·obtain ⟨rfl,rfl,rfl⟩:=h;have hne:∀j u,(bs.map Extern.Stop.cell)[j]? =some u→wr.cell? ((⟨ab,off,none⟩:Addr).add j)=some u:=fun j u hu=>by
    have hj:j<bs.length:=by have:=(eG.1 hu).1;simpa using this
    rw [Addr.add_mid,HB.out j hj];rw [List.getElem?_map,bZ hj] at hu;rw [bZ hj];simpa using hu
   have NK:=ae hne;clear hne
   gi_wp2_with (gi_at_builtin;refine wpListIn_append_own _ rfl _ _ 32 rfl wr.heap.size 5 i0 (.int .u8 0) 1 1 Tryz.underlying32 hi hq0 hq1 hq2 rfl (by omega) _ _ _ rfl (World.ownsRow_nil _ _ _ _) ⟨ab,off,none⟩ N c (bs.map Extern.Stop.cell) rfl (by rw [List.length_map,HN.out,Nat.mul_one]) NK.out (ni bs) (by unfold maxLen;omega) (by omega) (Nat.le_refl _) ?_;intro v1 w1 hown1 hg1 _;rw [Nat.zero_add,List.nil_append] at hown1;obtain ⟨gg,cap,rfl,_⟩:=dE hown1 hb0;have Aa:=ae hown1;have Hr:=ae hg1;clear hown1 hg1)
   go_roundw
   case rel=>exact .inr ⟨gg,cap,by go_num,rfl,⟨by rw [HN.out];exact Aa.out,⟨Hr.out.os,Hr.out.tape,Hr.out.output,Hr.out.size,fun k hk=>Hr.out.block k hk (fun e=>nomatch e)⟩⟩⟩
   case measure=>simp [intOf]
  ·obtain ⟨g,cap,rfl,rfl,hm⟩:=h;have HM:=ae hm;have HO:Hid (wr.ownsRow W.heap.size 5 1 (.slice (some ⟨g,0,none⟩) N cap) N (bs.map Extern.Stop.cell)):=ae (by have h:=hm.own;rw [HN.out] at h;exact h);have hge:=hm.lo.size;have xW:Hid (N+1=(bs++ [(128:UInt8)]).length):=ae (by rw [aZ,HN.out];rfl);have HL2:Hid (bs.map Extern.Stop.cell++ [Extern.Stop.cell 128]=(bs++ [(128:UInt8)]).map Extern.Stop.cell):=ae (by simp);clear hm
   gi_wp2_with (gi_at_builtin;refine wpListIn_append_own _ rfl _ _ 32 rfl W.heap.size 5 i0 (.int .u8 0) 1 1 Tryz.underlying32 hi hq0 hq1 hq2 rfl (by omega) (.slice (some ⟨g,0,none⟩) N cap) N (bs.map Extern.Stop.cell) rfl (HO.out.alloc _) ⟨wr.heap.size,0,none⟩ 1 1 [Extern.Stop.cell 128] rfl rfl (qH 128 _ rfl) (oH 128) (by unfold maxLen;omega) (by omega) (by first|(simp;done)|(simp;omega)) ?_;intro v1 w1 hown1 hg1 _;have hm1:pK W.heap.size W (bs++ [(128:UInt8)]) v1 w1:=HM.out.app (Nat.le_refl _) xW.out HL2.out hown1 hg1;obtain ⟨gg,cap1,rfl,_⟩:=dE hown1 (Nat.succ_pos _);have wL:=ae hm1;clear hown1 hg1 hm1)
   gi_loopw [3] (fun m wx=>∃z g cap q,z≤nT N∧q=N+1+z∧m= .slice (some ⟨g,0,none⟩) q cap∧pK W.heap.size W (iD bs z) m wx) (fun m _=>(N+1+nT N) - (match m with| .slice _ q _=>q|_=>0))
   case atStart=>exact ⟨0,gg,cap1,N+1,Nat.zero_le _,rfl,rfl,by have h:=wL.out;simpa [iD] using h⟩
   case round=>
    obtain ⟨z,g,cap,q,hz,hq,rfl,hm⟩:=hrel;have UR:=ae hm;have HQ:=ae hq;have hqb:q≤1000000200:=by have:nT N≤63:=OY N;omega
    have hge2:=hm.lo.size;have hlq:(iD bs z).length=q:=by rw [lK,HN.out,hq]
    have pI:Hid (wr.ownsRow W.heap.size 5 1 (.slice (some ⟨g,0,none⟩) q cap) q ((iD bs z).map Extern.Stop.cell)):=ae (by have h:=hm.own;rw [hlq] at h;exact h);clear hm wL HM HO xW HL2;by_cases hlt:z<nT N
    ·have h56:((q:Int)%64 !=56)=true:=by rw [oq];exact decide_eq_true (by rw [hq];exact OZ hlt)
     have xW:Hid (q+1=(iD bs z++ [(0:UInt8)]).length):=ae (by rw [aZ,hlq];rfl);have HL2:Hid ((iD bs z).map Extern.Stop.cell++ [Extern.Stop.cell 0]=(iD bs z++ [(0:UInt8)]).map Extern.Stop.cell):=ae (by simp);clear hq hlq
     gi_wp2_with (gi_at_builtin;refine wpListIn_append_own _ rfl _ _ 32 rfl W.heap.size 5 i0 (.int .u8 0) 1 1 Tryz.underlying32 hi hq0 hq1 hq2 rfl (by omega) (.slice (some ⟨g,0,none⟩) q cap) q ((iD bs z).map Extern.Stop.cell) rfl (pI.out.alloc _) ⟨wr.heap.size,0,none⟩ 1 1 [Extern.Stop.cell 0] rfl rfl (qH 0 _ rfl) (oH 0) (by unfold maxLen;omega) (by omega) (by first|(simp;done)|(simp;omega)) ?_;intro v2 w2 hown2 hg2 _;have hm2:pK W.heap.size W (iD bs z++ [(0:UInt8)]) v2 w2:=UR.out.app (Nat.le_refl _) xW.out HL2.out hown2 hg2;obtain ⟨g2,cap2,rfl,_⟩:=dE hown2 (Nat.succ_pos _);have HM3:=ae hm2;clear hown2 hg2 hm2)
     go_roundw
     case rel=>exact ⟨z+1,g2,cap2,q+1,hlt,by have:=HQ.out;omega,rfl,by rw [Cf];exact HM3.out⟩
     case measure=>have:=HQ.out;show N+1+nT N - (q+1)<N+1+nT N - q;omega
    ·have hze:z=nT N:=by omega
     have h56:((q:Int)%64 !=56)=false:=by rw [oq];exact decide_eq_false (by rw [hq,hze];have:=AB N;omega)
     have Po:=ae hze;clear hq hze hlq hlt hz;obtain ⟨pm,hpm⟩:∃pm,iD bs (nT N)=pm:=⟨_,rfl⟩;have NR:=ae hpm;have Dw:Hid (pm.length=q):=ae (by rw [←hpm,lK,HN.out];have:=HQ.out;have:=Po.out;omega);have Du:Hid (pK W.heap.size W pm (.slice (some ⟨g,0,none⟩) q cap) wr):=ae (by have h:=UR.out;rw [Po.out,hpm] at h;exact h);clear hpm UR pI
     gi_wp2_with fail
     gi_loopw [3,7] (fun m i wx=>∃j g cap r,j≤8∧r=q+j∧i= .int .i64 (56 - 8*(j:Int))∧m= .slice (some ⟨g,0,none⟩) r cap∧pK W.heap.size W (pm++upto (fun j=>byteOf ((8*(N:Int)) / 2 ^ (56 - 8*j))) j) m wx) (fun _ i _=>(intOf i+8).toNat)
     case atStart=>exact ⟨0,g,cap,q,Nat.zero_le _,rfl,by go_num,rfl,by have h:=Du.out;simpa [upto] using h⟩
     case round=>
      obtain ⟨j,g,cap,r,hj,hr,rfl,rfl,hm⟩:=hrel;have Zd:=ae hm;have HR:=ae hr;have hge3:=hm.lo.size;have hrb:r≤1000000300:=by omega
      obtain ⟨ms,hms⟩:∃ms,pm++upto (fun j=>byteOf ((8*(N:Int)) / 2 ^ (56 - 8*j))) j=ms:=⟨_,rfl⟩;have hml:ms.length=r:=by rw [←hms,aZ,Dw.out,upto_length,hr]
      rw [hms] at Zd hm;have HMS:=ae hms;have pR:Hid (wr.ownsRow W.heap.size 5 1 (.slice (some ⟨g,0,none⟩) r cap) r (ms.map Extern.Stop.cell)):=ae (by have h:=hm.own;rw [hml] at h;exact h);clear hm hr hms Du;by_cases hlt:j<8
      ·obtain ⟨s,hs⟩:∃s:Nat,56 - 8*j=s:=⟨_,rfl⟩;have hs2:56 - 8*(j:Int)=(s:Int):=by omega
       have hs0:(0:Int)≤(s:Int):=by omega
       have hs1:(s:Int)≤56:=by omega
       obtain ⟨y,hy⟩:∃y:Int,(8*(N:Int)) / 2 ^ s=y:=⟨_,rfl⟩;have xW:Hid (r+1=(ms++ [byteOf y]).length):=ae (by rw [aZ,hml];rfl);have HL2:Hid (ms.map Extern.Stop.cell++ [Extern.Stop.cell (byteOf y)]=(ms++ [byteOf y]).map Extern.Stop.cell):=ae (by simp);have Yk:=ae hy;have rW:=ae hs;have HS2:=ae hs2;have hby8:IntKind.u8.wrap y=y%256:=by rw [IntKind.wrap_u8]
       rw [hs2];clear hml hs hs2
       gi_wp2_with (gi_at_builtin;refine wpListIn_append_own _ rfl _ _ 32 rfl W.heap.size 5 i0 (.int .u8 0) 1 1 Tryz.underlying32 hi hq0 hq1 hq2 rfl (by omega) (.slice (some ⟨g,0,none⟩) r cap) r (ms.map Extern.Stop.cell) rfl (pR.out.alloc _) ⟨wr.heap.size,0,none⟩ 1 1 [Extern.Stop.cell (byteOf y)] rfl rfl (qH (byteOf y) _ (dF y).symm) (oH _) (by unfold maxLen;omega) (by omega) (by first|(simp;done)|(simp;omega)) ?_;intro v2 w2 hown2 hg2 _;have hm2:pK W.heap.size W (ms++ [byteOf y]) v2 w2:=Zd.out.app (Nat.le_refl _) xW.out HL2.out hown2 hg2;obtain ⟨g2,cap2,rfl,_⟩:=dE hown2 (Nat.succ_pos _);have Zf:=ae hm2;clear hown2 hg2 hm2)
       go_roundw
       case rel=>exact ⟨j+1,g2,cap2,r+1,hlt,by have:=HR.out;omega,by have:=HS2.out;congr 1;omega,rfl,by rw [upto_succ,←List.append_assoc,HMS.out,rW.out,Yk.out];exact Zf.out⟩
       case measure=>have:=HS2.out;simp [intOf];omega
      ·have hj8:j=8:=by omega
       have hs2:56 - 8*(j:Int)= -8:=by omega
       have Tn:ms=ng bs:=by
        rw [←HMS.out,hj8,←NR.out];unfold ng Jl;rw [HN.out]
       have hT:r=q+8:=by have:=HR.out;omega
       obtain ⟨k,hk⟩:∃k,r=64*k:=⟨r / 64,by have h1:=AB N;have h2:=HQ.out;have h3:=Po.out;omega⟩;have Zz:=ae hk;have kH:=ae Tn;have Vr:=ae hml;have QG:Hid (∀i,i<r→wr.cell? ⟨g,i,none⟩=some (Extern.Stop.cell (ms[i]?.getD 0))):=ae fun i hi=>by
        have h:=pR.out.cells (g:=g) rfl i (Extern.Stop.cell (ms[i]?.getD 0)) (by rw [List.getElem?_map,bZ (by omega)];rfl);rw [addr_add] at h;exact h
       have hcap:r≤cap∧cap≤9223372036854775807:=by
        rcases pR.out.2 with ⟨h1,_⟩|⟨g',cap',cur,h1,_,_,h2,h3,_⟩
        ·cases h1
        ·injection h1 with _ _ h1;subst h1;exact ⟨h2,by unfold maxLen at h3;omega⟩
       have hgl:=MB pR.out g rfl;have hgw:W.heap.size≤g:=by
        rcases pR.out.2 with ⟨h1,_⟩|⟨g',cap',cur,h1,h2,_⟩
        ·cases h1
        ·injection h1 with h1 _ _;injection h1 with h1;injection h1 with h1;omega
       have HJ0:Hid (J [] wr):=ae (HJ.out _ _ _ h0 Zd.out.lo);rw [hs2];clear hs2 hj8 Tn hT hml
       gi_wp2_with fail
       gi_loopw [3] (fun m wx=>∃i a q cc o xs,i≤k∧q=64*(k - i)∧o=64*i∧m= .slice a q cc∧xs.map (·.bs)=upto (chunk ms) i∧J xs wx∧J9 W g r ms wx∧(i<k→a=some ⟨g,o,none⟩∧q≤cc∧cc≤9223372036854775807)) (fun m _=>match m with| .slice _ q _=>q|_=>0)
       case atStart=>exact ⟨0,some ⟨g,0,none⟩,r,cap,0,[],Nat.zero_le _,by rw [hk];rfl,rfl,rfl,rfl,HJ0.out,⟨hgl,hgw,hge3,QG.out⟩,fun _=>⟨rfl,hcap.1,hcap.2⟩⟩
       case round=>
        obtain ⟨i,a,q,cc,o,xs,hi,hq,ho,rfl,hxs,hjx,hbk,hlast⟩:=hrel;have Ho:=ae hbk;have xZ:=ae hxs;have Y9:=ae hjx;clear hbk hxs hjx;by_cases hlt:i<k
        ·obtain ⟨rfl,hqc,hcm⟩:=hlast hlt;have hq64:64≤q:=by omega
         have hxe:DI ⟨g,o,cc,chunk ms i⟩ wr:=Ho.out.el i o cc (chunk ms i) ho (by have:=Zz.out;omega) rfl Vr.out;obtain ⟨fn,tmps,assign,body,hy,hR⟩:=HY.out xs ⟨g,o,cc,chunk ms i⟩ wr Y9.out Ho.out.ge hxe;dsimp only [yZ] at hy;have hq0:(0:Int)<(q:Int):=by omega
         have Zl:=ae hq;have wX:=ae ho;clear hq ho hlast hxe
         gi_wp2_with fail
         refine hR.mono ?_;rintro e W3 ⟨rfl,hJ3,hk3⟩;have HJ3:=ae hJ3;have HB3:=ae (Ho.out.keep hk3);have yS:Hid ((xs++ [(⟨g,o,cc,chunk ms i⟩:NH)]).map (·.bs)=upto (chunk ms) (i+1)):=ae (by rw [List.map_append,xZ.out,upto_succ];rfl);clear hJ3 hk3 hy hR Y9 Ho;by_cases hcc:cc=64
         ·have zZ:=ae hcc;have hqe:q=64:=by omega
          have hke:i+1=k:=by have:=Zl.out;omega
          have AU:=ae hke;subst hcc;subst hqe;clear hke
          gi_wp2_with fail
          go_roundw
          case rel=>exact ⟨i+1,_,0,_,64*(i+1),_,by omega,by have:=AU.out;omega,rfl,rfl,yS.out,HJ3.out,HB3.out,fun h=>by have:=AU.out;omega⟩
          case measure=>simp
         ·have hc64:64<cc:=by omega
          gi_wp2_with fail
          go_roundw
          case rel=>exact ⟨i+1,_,q - 64,cc - 64,o+64,_,hlt,by have:=Zl.out;omega,by have:=wX.out;omega,rfl,yS.out,HJ3.out,HB3.out,fun _=>⟨rfl,by omega,by omega⟩⟩
          case measure=>simp;omega
        ·have hie:i=k:=by omega
         have hq0:q=0:=by omega
         have HIE:=ae hie;subst hq0;clear hie hlast
         gi_wp2_with fail
         go_end0
         refine ⟨⟨_,rfl⟩,xs,?_,Y9.out⟩;rw [xZ.out,HIE.out,←kH.out,Vr.out,Zz.out,Nat.mul_div_cancel_left _ (by decide)]
end Go.Proofs.YtdibbemgpikgjaaGreatDoor
namespace Go.Proofs.YtdibbemgpikgjaaGreatDoor
open Go Go.RowKit Go.Shelf
attribute [local go_sem] Oper.semAt_some
section
variable {F:Fence} {n:Nat} {P:Program} {ops:Array Oper} {rest:List Oper} {o:Oper} {a:Act} {w:World} {Q:Exit→Act→World→Prop}
theorem qY (hg:o.guard=none) (ty:TypeId) (x:Operand) (ho:o.op= .load ty x) (g:Nat) (hx:a.eval x= .pointer (some ⟨g,0,none⟩)) (cs:Array Value) (hr:fD w g cs)
  (d:TypeDesc) (hu:P.underlying ty=some d) (hd:d.isRow=true) (hi:(P.info? ty).map (·.size)=some cs.size) (h:wpListIn F n P ops Q rest (a.put o.dst (.agg cs)) w):wpListIn F n P ops Q (o::rest) a w:=by
 refine wpListIn_plain hg fun K hK=>?_;have hc:w.rangeAt g 0 cs.toList:=fun j v hv=>by rw [Nat.zero_add,hr.2 j];simpa using hv
 unfold Oper.wpIn;refine ⟨?_,?_⟩
 ·simp [Oper.about,ho]
 ·rw [Oper.semAt_plain F _ _ (by rw [ho];intro c hc';cases hc')];unfold execOp;simp only [ho,hx,Instr.loadAt,Instr.sureAddr,Sem.run_bind,Sem.run_pure,Result.andThen_ok,run_loadVar_mid w g 0 ty cs.toList d hc hu hd (by rw [hi];simp)];exact hK _ _ (by simpa using h)
theorem jB (hg:o.guard=none) (ty:TypeId) (x y:Operand) (ho:o.op= .store ty x y) (g:Nat) (cells:Array Value) (hx:a.eval x= .pointer (some ⟨g,0,none⟩)) (hy:a.eval y= .agg cells)
  (t:TypeId) (old:Array Value) (hb:w.heap[g]? =some (.cells old t (0,0))) (hi:(P.info? ty).map (·.size)=some cells.size) (hold:old.size=cells.size) (h1:cells.all (·.oneCell')=true)
  (h:wpListIn F n P ops Q rest (a.put o.dst undef) (w.setRow g cells)):wpListIn F n P ops Q (o::rest) a w:=by
 refine wpListIn_plain hg fun K hK=>?_;unfold Oper.wpIn;refine ⟨?_,?_⟩
 ·simp [Oper.about,ho]
 ·rw [Oper.semAt_plain F _ _ (by rw [ho];intro c hc';cases hc')];unfold execOp;simp only [ho,hx,hy,Instr.storeAt,Instr.sureAddr,Sem.run_bind,Sem.run_pure,Result.andThen_ok,run_storeVar_row w g t ty old cells hb hi hold h1];exact hK _ _ h
theorem fV (hg:o.guard=none) (t:TypeId) (ho:o.op= .alloc t) (cells:Array Value) (hz:(P.info? t).map (fun i=>(i.zero,i.size))=some (some (.agg cells),cells.size))
  (h:wpListIn F n P ops Q rest (a.put o.dst (.pointer (some ⟨w.heap.size,0,none⟩))) (w.alloc (.cells cells t))):wpListIn F n P ops Q (o::rest) a w:=by
 refine wpListIn_plain hg fun K hK=>?_;unfold Oper.wpIn;refine ⟨?_,?_⟩
 ·simp [Oper.about,ho]
 ·rw [Oper.semAt_plain F _ _ (by rw [ho];intro c hc';cases hc')];unfold execOp;simp only [ho,Sem.run_bind,ji w t (.agg cells) _ hz,Result.andThen_ok];exact hK _ _ h
end
def cellsB (bs:List UInt8):Array Value:=(aj bs).toArray
theorem cu (bs:List UInt8):(cellsB bs).size=bs.length:=by simp [cellsB,aj]
theorem jH (bs:List UInt8):(cellsB bs).all (·.oneCell')=true:=by
 rw [Array.all_eq_true_iff_forall_mem];intro v hv;exact ni bs v (by simpa [cellsB] using hv)
theorem rE (bs:List UInt8) (i:Nat) (x:UInt8):(cellsB bs).setIfInBounds i (Extern.Stop.cell x)=cellsB (bs.set i x):=by
 simp [cellsB,aj,List.map_set]
theorem kL (bs:List UInt8) (i:Nat) (h:i<bs.length):(cellsB bs)[i]? =some (Extern.Stop.cell (bs[i]?.getD 0)):=by
 simp [cellsB,aj,h]
def z32:List UInt8:=List.replicate 32 0
theorem ik:(Tryz.prog.info? 23).map (fun i=>(i.zero,i.size))=some (some (.agg (cellsB z32)),(cellsB z32).size):=by kernel_rfl
def nV:List Int:= [1779033703,3144134277,1013904242,2773480762,1359893119,2600822924,528734635,1541459225]
def qK (KR st:List Int) (l:List (List UInt8)):List Int:=l.foldl (Bq KR) st
theorem yV (KR st:List Int) (xs:List UInt8) (h:st.length=8):(Bq KR st xs).length=8:=by unfold Bq;rw [uq];exact h
theorem oh (KR:List Int) (l:List (List UInt8)):∀st:List Int,st.length=8→(qK KR st l).length=8:=by
 induction l with
 |nil=>exact fun _ h=>h
 |cons x l ih=>exact fun st h=>ih _ (yV KR st x h)
theorem vY (KR st:List Int) (l:List (List UInt8)) (x:List UInt8):qK KR st (l++ [x])=Bq KR (qK KR st l) x:=by simp [qK]
def eH (st:List Int):Nat→List UInt8
 |0=>z32
 |i+1=>(eH st i).set i (byteOf ((st[i / 4]?.getD 0) / 2 ^ (24 - 8*(i%4))))
theorem rO (st:List Int) (i:Nat):(eH st i).length=32:=by
 induction i with
 |zero=>simp [eH,z32]
 |succ i ih=>simp [eH,ih]
def fH (KR:List Int) (bs:List UInt8):List UInt8:=eH (qK KR nV (upto (chunk (ng bs)) ((ng bs).length / 64))) 32
theorem dV (KR:List Int) (bs:List UInt8):(fH KR bs).length=32:=rO _ _
theorem BD (a:Option Addr) (n c:Nat) (w:World):CallsIn Fence.wide 2 Tryz.prog 50 #[.slice a n c] w fun e w'=>e= .returned (.func (.func 73) #[] #[.pointer (some ⟨w.heap.size,0,none⟩)])∧w'=w.alloc (.cells #[.slice a n c] 115):=by
 refine callsIn_of_wp Tryz.func50 rfl trivial ?_ rfl;simp only [Tryz.ntmps50,List.size_toArray,List.length_cons,List.length_nil,Nat.reduceAdd,Nat.reduceSub,Array.replicate_succ,Array.replicate_zero,List.push_toArray,List.append_toArray,List.nil_append,List.cons_append]
 gi_wp2
 go_ret;exact ⟨rfl,rfl⟩
end Go.Proofs.YtdibbemgpikgjaaGreatDoor
namespace Go.Proofs.YtdibbemgpikgjaaGreatDoor
open Go Go.RowKit Go.Shelf
attribute [local go_sem] Oper.semAt_some
structure Es (w:World) (KR:List Int) (l:List (List UInt8)) (W:World):Prop where
 res:AV w.heap.size 23 (cellsB z32) W
 st:AV (w.heap.size+1) 118 (au (qK KR nV l)) W
 lo:Below w.heap.size w W
theorem Es.grow {w W W':World} {KR:List Int} {l:List (List UInt8)} (h:Es w KR l W) (hb:Below (w.heap.size+3) W W'):Es w KR l W':=
 ⟨⟨(hb.block _ (by omega)).trans h.res.var⟩,⟨(hb.block _ (by omega)).trans h.st.var⟩,h.lo.trans (hb.mono (by omega))⟩
theorem BQ {w w3:World} {KR:List Int} {B:Obj} {v:Value} {t:TypeId} (hB:∃cs,B= .cells cs 118 (0,0)) (h:w3=(((w.alloc (.cells (cellsB z32) 23)).alloc B).setRow (w.heap.size+1) (au nV)).alloc (.cells #[v] t)):
  Es w KR [] w3∧w3.heap.size=w.heap.size+3∧w3.cell? ⟨w.heap.size+2,0,none⟩=some v:=by
 obtain ⟨cs,rfl⟩:=hB;obtain ⟨W2,hW2⟩:∃W,((w.alloc (.cells (cellsB z32) 23)).alloc (.cells cs 118 (0,0))).setRow (w.heap.size+1) (au nV)=W:=⟨_,rfl⟩;have hs2:W2.heap.size=w.heap.size+2:=by rw [←hW2];simp
 have h0:W2.heap[w.heap.size]? =some (.cells (cellsB z32) 23 (0,0)):=by rw [←hW2,setRow_other _ _ _ _ (by omega)];exact heap_alloc2_old w _ _
 have h1:W2.heap[w.heap.size+1]? =some (.cells (au nV) 118 (0,0)):=by rw [←hW2];exact setRow_heap _ _ _ _ _ _ (heap_alloc2_new w _ _)
 have hb:Below w.heap.size w W2:=by rw [←hW2];exact aB (((Below.refl _ w).alloc (Nat.le_refl _) _).alloc (by simp) _) (Nat.le_succ _) _
 rw [hW2] at h;subst h;have hb2:=ag W2 (.cells #[v] t);refine ⟨⟨⟨(hb2.block _ (by omega)).trans h0⟩,⟨(hb2.block _ (by omega)).trans h1⟩,hb.trans (hb2.mono (by omega))⟩,by simp;omega,?_⟩;rw [←hs2];exact cell_of_row _ _ 0 _ _ _ (heap_alloc_last W2 _)
def Qc (x:NH):Value:= .slice (some ⟨x.b,x.off,none⟩) 64 x.cap
theorem DI.put {x:NH} {A:World} {l:Nat} {o o':Obj} (h:DI x A) (ho:A.heap[l]? =some o) (hc:o.isCells=false):DI x (A.putObj l o'):=by
 have hne:x.b≠l:=fun e=>by
  have h1:=h.at_ 0 (by omega);subst e;cases o with
  |cells cs t fr=>cases hc
  |_=>simp [World.cell?,ho] at h1
 exact ⟨by simp [World.putObj];exact h.lt,h.len,fun j hj=>(World.cell?_of_block (a:=⟨x.b,x.off+j,none⟩) (World.putObj_heap_other hne)).trans (h.at_ j hj)⟩
theorem Tc (KR:List Int) (hK:KR.length=64) (w:World) (hG:fD w 0 (au KR)) (bs:List UInt8) (hb0:0<bs.length) (hlen:bs.length≤1000000000) (pb ab off c:Nat) (hp:w.cell? ⟨pb,0,none⟩=some (.slice (some ⟨ab,off,none⟩) bs.length c)) (hlp:pb<w.heap.size) (hla:ab<w.heap.size)
  (hby:∀j,j<bs.length→w.cell? ⟨ab,off+j,none⟩=some (Extern.Stop.cell (bs[j]?.getD 0))):
  Calls Tryz.prog 31 #[.slice (some ⟨pb,0,none⟩) 1 1] w fun e w'=>e= .returned (.agg (cellsB (fH KR bs)))∧Below w.heap.size w w':=by
 refine (callsIn_wide (n:=3)).1 ?_;have hro:Fence.wide.round=none:=rfl;have h1:1≤3:=by omega
 have HK:=ae hK;have HG:=ae hG;have uZ:=ae hby;have HP:=ae hp;clear hK hG hby hp;refine callsIn_of_wp_marks Tryz.func31 rfl trivial ?_ hro;simp only [Tryz.ntmps31,List.size_toArray,List.length_cons,List.length_nil,Nat.reduceAdd,Nat.reduceSub,Array.replicate_succ,Array.replicate_zero,List.push_toArray,List.append_toArray,List.nil_append,List.cons_append]
 gi_wp2_with (first
  |(refine fV rfl _ rfl (cellsB z32) ik ?_)
  |(refine fV rfl _ rfl (au (List.replicate 8 0)) kZ ?_;refine jB rfl 118 _ _ rfl (w.alloc (.cells (cellsB z32) 23)).heap.size (au nV) rfl rfl 118 (au (List.replicate 8 0)) (heap_alloc_last _ _) (by kernel_rfl) rfl (bJ _) ?_)
  |(refine ⟨trivial,?_⟩;gi_at_call 50;refine (BD _ _ _ _).mono ?_;rintro e w3 ⟨rfl,hw3⟩;obtain ⟨hs3,hz3,Td⟩:=BQ (KR:=KR) ⟨_,rfl⟩ hw3;have jU:=ae hs3;have yS:=ae Td;have HZ3:=ae hz3;clear hw3 hs3 Td hz3))
 have hseq:∀W,Below w3.heap.size w3 W→tH Fence.wide (3 - 1) Tryz.prog 73 #[.pointer (some ⟨w.heap.size+1+1,0,none⟩)] yZ DI (fun xs=>xs.map (·.bs)=upto (chunk (ng bs)) ((ng bs).length / 64)) W:=fun W hW=>by
  have hz:=HZ3.out;have hsz:=hW.size;have hlo:=jU.out.lo;exact FT Fence.wide 2 trivial rfl (by omega) bs hb0 hlen W (w.heap.size+1+1) pb ab off c ((hW.cell (p:=⟨w.heap.size+2,0,none⟩) (by show w.heap.size+2<w3.heap.size;omega)).trans yS.out)
   (((hW.mono (by omega)).cell (p:=⟨pb,0,none⟩) hlp).trans ((hlo.cell (p:=⟨pb,0,none⟩) hlp).trans HP.out)) (by omega) (by omega) (by omega) (fun j hj=>((hW.mono (by omega)).cell (p:=⟨ab,off+j,none⟩) hla).trans ((hlo.cell (p:=⟨ab,off+j,none⟩) hla).trans (uZ.out j hj)))
 have Zr:=ae hseq;clear hseq;refine qW hro h1 (gf:=73) (lb:= #[.pointer (some ⟨w.heap.size+1+1,0,none⟩)]) rfl trivial (enters_of Tryz.func73 (by kernel_rfl) rfl) Zr.out (fun _=>rfl)
  (fun (xs:List NH) W=>Es w KR (xs.map (fun x:NH=>x.bs)) W) (fun xs A B h hb=>h.grow (hb.mono (by rw [HZ3.out];exact Nat.le_refl _))) jU.out
  (fun x=> {tmps:= #[.slice (some ⟨pb,0,none⟩) 1 1,undef, .pointer (some ⟨w.heap.size,0,none⟩), .pointer (some ⟨w.heap.size+1,0,none⟩),Qc x,undef,undef, .agg (au nV), .slice (some ⟨pb,0,none⟩) 1 1, .func (.func 73) #[] #[.pointer (some ⟨w.heap.size+1+1,0,none⟩)],Qc x,undef,undef,undef,undef,undef,undef,undef,undef,undef,undef,undef,undef,undef,undef,undef,undef,undef,undef,undef],defers:= []})
  (fun x A l o o' h1 h2 h3=>h1.put h2 h3) ?assign ?body ?done
 case assign=>
  intro l x W K hK;unfold yZ
  gi_wp2
  exact hK
 case body=>
  intro l pre x W hI hsz hx;have hGW:fD W 0 (au KR):=⟨dP HG.out.1 hI.lo.size,fun i=>(hI.lo.cell (p:=⟨0,i,none⟩) HG.out.1).trans (HG.out.2 i)⟩;have HC:Hid (Calls Tryz.prog 51 #[.pointer (some ⟨w.heap.size+1,0,none⟩),Qc x] W fun e w'=>e= .returned (.tuple #[])∧AV (w.heap.size+1) 118 (au (Bq KR (qK KR nV (pre.map (fun x:NH=>x.bs))) x.bs)) w'∧N7 (w.heap.size+1) W w'):=
   ae (add_any KR HK.out W hGW (w.heap.size+1) x.b x.off x.cap (qK KR nV (pre.map (fun x:NH=>x.bs))) x.bs (oh _ _ _ rfl) hI.st hx.len hx.lt hx.at_)
  have HI:=ae hI;clear hGW hI hx
  gi_wp2_with (refine ⟨trivial,?_⟩;gi_at_call 51;refine (CallsIn.inRound l (callsIn_wide.2 HC.out)).mono ?_;rintro e W2 ⟨rfl,hav,hkp⟩)
  have hl:=HI.out.lo;have hz3:=HZ3.out;refine ⟨⟨⟨(hkp.block _ (by have:=hl.size;omega) (by omega)).trans HI.out.res.var⟩,?_,⟨hkp.os.trans hl.os,hkp.tape.trans hl.tape,hkp.output.trans hl.output,Nat.le_trans hl.size hkp.size,fun k hk=>(hkp.block k (by have:=hl.size;omega) (by omega)).trans (hl.block k hk)⟩⟩,⟨hkp.size,fun k h1 h2=>hkp.block k h2 (by omega)⟩⟩;rw [vY];exact hav
 case done=>
  intro D xs W hD hS hI hD0;rw [hS] at hI;obtain ⟨st,hst⟩:∃st,qK KR nV (upto (chunk (ng bs)) ((ng bs).length / 64))=st:=⟨_,rfl⟩;have hsl:st.length=8:=by rw [←hst];exact oh _ _ _ rfl
  have hI2:AV (w.heap.size+1) 118 (au st) W:=by rw [←hst];exact hI.st
  have HI:=ae hI;have HI2:=ae hI2;have HD0:=ae hD0;have HST:=ae hst;have UW:=ae hsl;clear hI hI2 hD0 hst hsl hS;have uC:=ae (AV.new W (cellsB (eH st 0)) 23);have HB0:=ae (ag W (.cells (cellsB (eH st 0)) 23));have hstl:=HI2.out.lt;have hdl:D<W.heap.size:=(bT.1 HD0.out).1
  gi_wp2_with (refine fV rfl _ rfl (cellsB z32) ik ?_)
  gi_loopw [13] (fun i wx=>∃k:Nat,k≤32∧i= .int .i64 (k:Int)∧AV W.heap.size 23 (cellsB (eH st k)) wx∧Below W.heap.size W wx) (fun i _=>32 - (intOf i).toNat)
  case atStart=>exact ⟨0,Nat.zero_le _,rfl,uC.out,HB0.out⟩
  case round=>
   obtain ⟨k,hk,rfl,hd,hb⟩:=hrel;have Q7:=ae hd;have yR:=ae hb;have NQ:=ae (rO st k);clear hd hb uC HB0;by_cases hlt:k<32
   ·have i1:(k:Int)<32:=by omega
    obtain ⟨q4,hq4⟩:∃q:Nat,k / 4=q:=⟨_,rfl⟩;obtain ⟨r4,hr4⟩:∃q:Nat,k%4=q:=⟨_,rfl⟩;obtain ⟨s4,hs4⟩:∃q:Nat,24 - 8*r4=q:=⟨_,rfl⟩;obtain ⟨v,hv⟩:∃v,st[q4]?.getD 0=v:=⟨_,rfl⟩;have cs:wr.cell? ⟨w.heap.size+1,q4,none⟩=some (.int .u32 v):=((yR.out.cell (p:=⟨w.heap.size+1,q4,none⟩) hstl).trans (HI2.out.cell q4)).trans (by rw [bY _ _ (by rw [UW.out];omega),hv]);have cd:wr.cell? ⟨W.heap.size,k,none⟩=some (Extern.Stop.cell ((eH st k)[k]?.getD 0)):=(Q7.out.cell k).trans (kL _ _ (by rw [NQ.out];exact hlt));have cf:=Q7.out.dZ k;obtain ⟨y,hy⟩:∃y,v / 2 ^ s4=y:=⟨_,rfl⟩;have g4:(k:Int) / 4=(q4:Int):=by omega
    have g5:(k:Int)%4=(r4:Int):=by omega
    have g6:24 - 8*(r4:Int)=(s4:Int):=by omega
    have b4:(q4:Int)<8:=by omega
    have b5:(r4:Int)<4:=by omega
    have b6:(s4:Int)≤24:=by omega
    have hw8:IntKind.u8.wrap y=y%256:=by rw [IntKind.wrap_u8]
    have HN:Hid (AV W.heap.size 23 (cellsB (eH st (k+1))) (wr.setCell ⟨W.heap.size,k,none⟩ (.int .u8 (y%256)))):=ae (by
     have h:=Q7.out.put k (Extern.Stop.cell (byteOf y));rw [rE,dF] at h;have e:eH st (k+1)=(eH st k).set k (byteOf y):=by
      show (eH st k).set k (byteOf ((st[k / 4]?.getD 0) / 2 ^ (24 - 8*(k%4))))=_;rw [hq4,hr4,hs4,hv,hy]
     rw [e];exact h)
    clear hq4 hr4 hs4 hv
    gi_wp2_with fail
    go_roundw
    case rel=>exact ⟨k+1,by omega,by go_num,HN.out,yR.out.setCell (p:=⟨W.heap.size,k,none⟩) (Nat.le_refl _) _⟩
    case measure=>simp [intOf];omega
   ·have AU:Hid (k=32):=ae (by omega);have i1:¬(k:Int)<32:=by omega
    have i2:((k:Int)<32)=False:=by simp;omega
    have HRW:Hid (fD wr W.heap.size (cellsB (eH st k))):=ae ⟨Q7.out.lt,Q7.out.cell⟩;have dR:Hid ((Tryz.prog.info? 23).map (·.size)=some (cellsB (eH st k)).size):=ae (by rw [cu,NQ.out];kernel_rfl);have Af:Hid ((cellsB z32).size=(cellsB (eH st k)).size):=ae (by rw [cu,cu,NQ.out];rfl);have QL:Hid (wr.heap[w.heap.size]? =some (.cells (cellsB z32) 23 (0,0))):=ae ((yR.out.block _ (by omega)).trans HI.out.res.var);have Q3:Hid ((wr.setRow w.heap.size (cellsB (eH st k))).heap[D]? =some (.deferred (some []))):=ae ((setRow_other _ _ _ _ (by have:=HZ3.out;omega)).trans ((yR.out.block _ hdl).trans HD0.out));clear hlt
    gi_wp2_with (first
     |(refine qY rfl _ _ rfl W.heap.size rfl (cellsB (eH st k)) HRW.out _ Tryz.underlying23 rfl dR.out ?_;refine jB rfl _ _ _ rfl w.heap.size (cellsB (eH st k)) rfl rfl 23 (cellsB z32) QL.out dR.out Af.out (jH _) ?_))
    have hz3:=HZ3.out;have hlo:=HI.out.lo;refine ⟨by simp, .inl ⟨_,_,rfl,run_takeDeferred Q3.out,?_⟩⟩;refine ⟨_,results_cell_row rfl _ _ w.heap.size _ (cellsB (eH st k)) (0,0) _ rfl ((World.putObj_heap_other (by omega)).trans (setRow_heap _ _ _ _ _ _ QL.out)) Tryz.underlying23 rfl dR.out,?_⟩;refine ⟨?_,(aB (hlo.trans (yR.out.mono hlo.size)) (Nat.le_refl _) _).trans (qG (by omega))⟩;rw [AU.out,←HST.out];rfl
end Go.Proofs.YtdibbemgpikgjaaGreatDoor
