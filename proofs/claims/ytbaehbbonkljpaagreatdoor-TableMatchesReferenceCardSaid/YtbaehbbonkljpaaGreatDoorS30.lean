/- The texts DgH, DgK, DgB2, DgK2, in this order. -/
import Derived.Test.YtbaehbbonkljpaaGreatDoorS00
import Derived.Defers
import Derived.Laws.AppendOwnNone
import Derived.Laws.BitsAllLaws
import Derived.Laws.BytesArg
import Derived.Laws.Cover3
import Derived.Lib.AppendStr
import Derived.Lib.ByteType
import Derived.MapKept
import Derived.Recover
import Derived.Test.YtbaehbbonkljpaaGreatDoorS29
set_option maxRecDepth 10000
set_option maxHeartbeats 8000000
namespace Go.Proofs.YtbaehbbonkljpaaGreatDoor
open Go Go.RowKit Go.Shelf
attribute [local go_sem] Oper.semAt_some
section
variable {F:Fence} {n:Nat} {P:Program} {ops:Array Oper} {rest:List Oper} {o:Oper} {a:Act} {w:World} {Q:Exit->Act->World->Prop}
theorem yQ (hg:o.guard=none) (ty:TypeId) (x:Operand) (ho:o.op= .load ty x) (g:Nat) (hx:a.eval x= .pointer (some ⟨g,0,none⟩)) (cs:Array Value) (hr:gK w g cs)
  (d:TypeDesc) (hu:P.underlying ty=some d) (hd:d.isRow=true) (hi:(P.info? ty).map (·.size)=some cs.size) (h:wpListIn F n P ops Q rest (a.put o.dst (.agg cs)) w):wpListIn F n P ops Q (o::rest) a w:=by
 refine wpListIn_plain hg fun K hK=>?_;have hc:w.rangeAt g 0 cs.toList:=fun j v hv=>by rw [Nat.zero_add,hr.2 j];simpa using hv
 unfold Oper.wpIn;refine ⟨?_,?_⟩
 ·simp [Oper.about,ho]
 ·rw [Oper.semAt_plain F _ _ (by rw [ho];intro c hc';cases hc')];unfold execOp;simp only [ho,hx,Instr.loadAt,Instr.sureAddr,Sem.run_bind,Sem.run_pure,Result.andThen_ok,run_loadVar_mid w g 0 ty cs.toList d hc hu hd (by rw [hi];simp)];exact hK _ _ (by simpa using h)
theorem qH (hg:o.guard=none) (ty:TypeId) (x y:Operand) (ho:o.op= .store ty x y) (g:Nat) (cells:Array Value) (hx:a.eval x= .pointer (some ⟨g,0,none⟩)) (hy:a.eval y= .agg cells)
  (t:TypeId) (old:Array Value) (hb:w.heap[g]? =some (.cells old t (0,0))) (hi:(P.info? ty).map (·.size)=some cells.size) (hold:old.size=cells.size) (h1:cells.all (·.oneCell')=true)
  (h:wpListIn F n P ops Q rest (a.put o.dst undef) (w.setRow g cells)):wpListIn F n P ops Q (o::rest) a w:=by
 refine wpListIn_plain hg fun K hK=>?_;unfold Oper.wpIn;refine ⟨?_,?_⟩
 ·simp [Oper.about,ho]
 ·rw [Oper.semAt_plain F _ _ (by rw [ho];intro c hc';cases hc')];unfold execOp;simp only [ho,hx,hy,Instr.storeAt,Instr.sureAddr,Sem.run_bind,Sem.run_pure,Result.andThen_ok,run_storeVar_row w g t ty old cells hb hi hold h1];exact hK _ _ h
theorem lW (hg:o.guard=none) (t:TypeId) (ho:o.op= .alloc t) (cells:Array Value) (hz:(P.info? t).map (fun i=>(i.zero,i.size))=some (some (.agg cells),cells.size))
  (h:wpListIn F n P ops Q rest (a.put o.dst (.pointer (some ⟨w.heap.size,0,none⟩))) (w.alloc (.cells cells t))):wpListIn F n P ops Q (o::rest) a w:=by
 refine wpListIn_plain hg fun K hK=>?_;unfold Oper.wpIn;refine ⟨?_,?_⟩
 ·simp [Oper.about,ho]
 ·rw [Oper.semAt_plain F _ _ (by rw [ho];intro c hc';cases hc')];unfold execOp;simp only [ho,Sem.run_bind,iJ w t (.agg cells) _ hz,Result.andThen_ok];exact hK _ _ h
end
def cellsB (bs:List UInt8):Array Value:=(ax bs).toArray
theorem fG (bs:List UInt8):(cellsB bs).size=bs.length:=by simp [cellsB,ax]
theorem oW (bs:List UInt8):(cellsB bs).all (·.oneCell')=true:=by
 rw [Array.all_eq_true_iff_forall_mem];intro v hv;exact pV bs v (by simpa [cellsB] using hv)
theorem wI (bs:List UInt8) (i:Nat) (x:UInt8):(cellsB bs).setIfInBounds i (Extern.Stop.cell x)=cellsB (bs.set i x):=by
 simp [cellsB,ax,List.map_set]
theorem mW (bs:List UInt8) (i:Nat) (h:i<bs.length):(cellsB bs)[i]? =some (Extern.Stop.cell (bs[i]?.getD 0)):=by
 simp [cellsB,ax,h]
def z32:List UInt8:=List.replicate 32 0
theorem qJ:(Tryz.prog.info? 24).map (fun i=>(i.zero,i.size))=some (some (.agg (cellsB z32)),(cellsB z32).size):=by kernel_rfl
def uD:List Int:= [1779033703,3144134277,1013904242,2773480762,1359893119,2600822924,528734635,1541459225]
def vV (KR st:List Int) (l:List (List UInt8)):List Int:=l.foldl (DZ KR) st
theorem y8 (KR st:List Int) (xs:List UInt8) (h:st.length=8):(DZ KR st xs).length=8:=by unfold DZ;rw [uF];exact h
theorem xn (KR:List Int) (l:List (List UInt8)):∀st:List Int,st.length=8->(vV KR st l).length=8:=by
 induction l with
 |nil=>exact fun _ h=>h
 |cons x l ih=>exact fun st h=>ih _ (y8 KR st x h)
theorem BP (KR st:List Int) (l:List (List UInt8)) (x:List UInt8):vV KR st (l++ [x])=DZ KR (vV KR st l) x:=by simp [vV]
def jK (st:List Int):Nat->List UInt8
 |0=>z32
 |i+1=>(jK st i).set i (byteOf ((st[i / 4]?.getD 0) / 2 ^ (24 - 8*(i%4))))
theorem xH (st:List Int) (i:Nat):(jK st i).length=32:=by
 induction i with
 |zero=>simp [jK,z32]
 |succ i ih=>simp [jK,ih]
def qN (KR:List Int) (bs:List UInt8):List UInt8:=jK (vV KR uD (upto (chunk (tC bs)) ((tC bs).length / 64))) 32
theorem nM (KR:List Int) (bs:List UInt8):(qN KR bs).length=32:=xH _ _
theorem LP (a:Option Addr) (n c:Nat) (w:World):CallsIn Fence.wide 2 Tryz.prog 93 #[.slice a n c] w fun e w'=>e= .returned (.func (.func 117) #[] #[.pointer (some ⟨w.heap.size,0,none⟩)])/\w'=w.alloc (.cells #[.slice a n c] 179):=by
 refine callsIn_of_wp Tryz.func93 rfl trivial ?_ rfl;simp only [Tryz.ntmps93,List.size_toArray,List.length_cons,List.length_nil,Nat.reduceAdd,Nat.reduceSub,Array.replicate_succ,Array.replicate_zero,List.push_toArray,List.append_toArray,List.nil_append,List.cons_append]
 gi_wp2
 go_ret;exact ⟨rfl,rfl⟩
end Go.Proofs.YtbaehbbonkljpaaGreatDoor
namespace Go.Proofs.YtbaehbbonkljpaaGreatDoor
open Go Go.RowKit Go.Shelf
attribute [local go_sem] Oper.semAt_some
structure IC (w:World) (KR:List Int) (l:List (List UInt8)) (W:World):Prop where
 res:AV w.heap.size 24 (cellsB z32) W
 st:AV (w.heap.size+1) 180 (aj (vV KR uD l)) W
 lo:Below w.heap.size w W
theorem IC.grow {w W W':World} {KR:List Int} {l:List (List UInt8)} (h:IC w KR l W) (hb:Below (w.heap.size+3) W W'):IC w KR l W':=
 ⟨⟨(hb.block _ (by omega)).trans h.res.var⟩,⟨(hb.block _ (by omega)).trans h.st.var⟩,h.lo.trans (hb.mono (by omega))⟩
theorem MF {w w3:World} {KR:List Int} {B:Obj} {v:Value} {t:TypeId} (hB:∃cs,B= .cells cs 180 (0,0)) (h:w3=(((w.alloc (.cells (cellsB z32) 24)).alloc B).setRow (w.heap.size+1) (aj uD)).alloc (.cells #[v] t)):
  IC w KR [] w3/\w3.heap.size=w.heap.size+3/\w3.cell? ⟨w.heap.size+2,0,none⟩=some v:=by
 obtain ⟨cs,rfl⟩:=hB;obtain ⟨W2,hW2⟩:∃W,((w.alloc (.cells (cellsB z32) 24)).alloc (.cells cs 180 (0,0))).setRow (w.heap.size+1) (aj uD)=W:=⟨_,rfl⟩;have hs2:W2.heap.size=w.heap.size+2:=by rw [<-hW2];simp
 have h0:W2.heap[w.heap.size]? =some (.cells (cellsB z32) 24 (0,0)):=by rw [<-hW2,setRow_other _ _ _ _ (by omega)];exact heap_alloc2_old w _ _
 have h1:W2.heap[w.heap.size+1]? =some (.cells (aj uD) 180 (0,0)):=by rw [<-hW2];exact setRow_heap _ _ _ _ _ _ (heap_alloc2_new w _ _)
 have hb:Below w.heap.size w W2:=by rw [<-hW2];exact aB (((Below.refl _ w).alloc (Nat.le_refl _) _).alloc (by simp) _) (Nat.le_succ _) _
 rw [hW2] at h;subst h;have hb2:=ag W2 (.cells #[v] t);refine ⟨⟨⟨(hb2.block _ (by omega)).trans h0⟩,⟨(hb2.block _ (by omega)).trans h1⟩,hb.trans (hb2.mono (by omega))⟩,by simp;omega,?_⟩;rw [<-hs2];exact cell_of_row _ _ 0 _ _ _ (heap_alloc_last W2 _)
def slEl (x:WB):Value:= .slice (some ⟨x.b,x.off,none⟩) 64 x.cap
theorem KO.put {x:WB} {A:World} {l:Nat} {o o':Obj} (h:KO x A) (ho:A.heap[l]? =some o) (hc:o.isCells=false):KO x (A.putObj l o'):=by
 have hne:x.b≠l:=fun e=>by
  have h1:=h.at_ 0 (by omega);subst e;cases o with
  |cells cs t fr=>cases hc
  |_=>simp [World.cell?,ho] at h1
 exact ⟨by simp [World.putObj];exact h.lt,h.len,fun j hj=>(World.cell?_of_block (a:=⟨x.b,x.off+j,none⟩) (World.putObj_heap_other hne)).trans (h.at_ j hj)⟩
end Go.Proofs.YtbaehbbonkljpaaGreatDoor
namespace Go.Proofs.YtbaehbbonkljpaaGreatDoor
open Go Go.RowKit Go.Shelf
attribute [local go_sem] Oper.semAt_some
theorem wH.cat {B n:Nat} {W0 wr w1:World} {b1 b2 bs:List UInt8} {v v':Value} (h:wH B W0 b1 v wr) (MG:b1++b2=bs) (hB:B<=W0.heap.size) (hn:n=bs.length) (hown:w1.ownsRow B 5 1 v' n (b1.map Extern.Stop.cell++b2.map Extern.Stop.cell)) (hg:wr.grownBy w1 v.ownBlock):wH B W0 bs v' w1:=by
 subst hn MG;have hs:=h.lo.size;have hz:=hg.size;rw [<-List.map_append] at hown;exact ⟨hown,⟨hg.os.trans h.lo.os,hg.tape.trans h.lo.tape,hg.output.trans h.lo.output,by omega,fun k hk=>by
  rw [hg.block k (by omega) (eG h.own k hk)];exact h.lo.block k hk⟩⟩
theorem D7 (F:Fence) (n:Nat) (h7:F.fn 117) (hro:F.round=none) (hn:1<=n) (b1 b2 bs:List UInt8) (MG:b1++b2=bs) (hb1:0<b1.length) (hb2:0<b2.length) (hlen:bs.length<=1000000000) (W:World) (box pb a1 f1 c1 a2 f2 c2:Nat) (hbox:W.cell? ⟨box,0,none⟩=some (.slice (some ⟨pb,0,none⟩) 2 2)) (hp:W.cell? ⟨pb,0,none⟩=some (.slice (some ⟨a1,f1,none⟩) b1.length c1)) (hp2:W.cell? ⟨pb,1,none⟩=some (.slice (some ⟨a2,f2,none⟩) b2.length c2))
  (hlb:box<W.heap.size) (hlp:pb<W.heap.size) (hla1:a1<W.heap.size) (Je:∀j,j<b1.length->W.cell? ⟨a1,f1+j,none⟩=some (Extern.Stop.cell (b1[j]?.getD 0))) (hla2:a2<W.heap.size) (TR:∀j,j<b2.length->W.cell? ⟨a2,f2+j,none⟩=some (Extern.Stop.cell (b2[j]?.getD 0))):
  Bl F n Tryz.prog 117 #[.pointer (some ⟨box,0,none⟩)] Ot KO (fun xs=>xs.map (·.bs)=upto (chunk (tC bs)) ((tC bs).length / 64)) W:=by
 intro l J hl hJ hY h0;have HJ:=ae hJ;have HY:=ae hY;have HA1:=ae Je;have HA2:=ae TR;obtain ⟨N,hN⟩:∃N,bs.length=N:=⟨_,rfl⟩;obtain ⟨N1,hN1⟩:∃N,b1.length=N:=⟨_,rfl⟩;obtain ⟨N2,Wl⟩:∃N,b2.length=N:=⟨_,rfl⟩;have hNN:N1+N2=N:=by rw [<-hN,<-hN1,<-Wl,<-MG,bF]
 rw [hN] at hlen;rw [hN1] at hp hb1;rw [Wl] at hp2 hb2;have HN:=ae hN;have HN1:=ae hN1;have HN2:=ae Wl;have KT:=ae hNN;have HCAT:=ae MG;have HP2:=ae hp2;have q1:N1<=1000000000:=by omega
 have q2:N2<=1000000000:=by omega
 have hb0:0<N:=by omega
 clear hJ hY Je TR hN hN1 Wl hNN MG hp2;refine callsIn_of_wp Tryz.func117 rfl h7 ?_ hro;simp only [Tryz.ntmps117,List.size_toArray,List.length_cons,List.length_nil,Nat.reduceAdd,Nat.reduceSub,Array.replicate_succ,Array.replicate_zero,List.push_toArray,List.append_toArray,List.nil_append,List.cons_append];obtain ⟨i0,hi,hq0,hq1,hq2⟩:=info_parts lN
 gi_wp2
 gi_loopw [3,10] (fun m i wr=>(i= .int .i64 0/\m= .slice none 0 0/\wr=W)\/(∃g cap,i= .int .i64 1/\m= .slice (some ⟨g,0,none⟩) N1 cap/\wH W.heap.size W b1 m wr)\/(∃g cap,i= .int .i64 2/\m= .slice (some ⟨g,0,none⟩) N cap/\wH W.heap.size W bs m wr)) (fun _ i _=>(2 - intOf i).toNat)
 case atStart=>exact .inl ⟨rfl,rfl,rfl⟩
 case round=>
  rcases hrel with h|h|h
  ·obtain ⟨rfl,rfl,rfl⟩:=h;have hne:∀j u,(b1.map Extern.Stop.cell)[j]? =some u->wr.cell? ((⟨a1,f1,none⟩:Addr).add j)=some u:=fun j u hu=>by
    have hj:j<b1.length:=by have:=(gQ.1 hu).1;simpa using this
    rw [Addr.add_mid,HA1.out j hj];rw [List.getElem?_map,bK hj] at hu;rw [bK hj];simpa using hu
   have Hy:=ae hne;clear hne
   gi_wp2_with (gi_at_builtin;refine wpListIn_append_own _ rfl _ _ 55 rfl wr.heap.size 5 i0 (.int .u8 0) 1 1 Tryz.underlying55 hi hq0 hq1 hq2 rfl (by omega) _ _ _ rfl (World.ownsRow_nil _ _ _ _) ⟨a1,f1,none⟩ N1 c1 (b1.map Extern.Stop.cell) rfl (by rw [List.length_map,HN1.out,Nat.mul_one]) Hy.out (pV b1) (by unfold maxLen;omega) (by omega) (Nat.le_refl _) ?_;intro v1 w1 hown1 hg1 _;rw [Nat.zero_add,List.nil_append] at hown1;obtain ⟨gg,cap,rfl,_⟩:=gG hown1 hb1;have FQ:=ae hown1;have Zx:=ae hg1;clear hown1 hg1)
   go_roundw
   case rel=>exact .inr (.inl ⟨gg,cap,by go_num,rfl,⟨by rw [HN1.out];exact FQ.out,⟨Zx.out.os,Zx.out.tape,Zx.out.output,Zx.out.size,fun k hk=>Zx.out.block k hk (fun e=>nomatch e)⟩⟩⟩)
   case measure=>simp [intOf]
  ·obtain ⟨g,cap,rfl,rfl,hm⟩:=h;have HM:=ae hm;have HO:Hid (wr.ownsRow W.heap.size 5 1 (.slice (some ⟨g,0,none⟩) N1 cap) N1 (b1.map Extern.Stop.cell)):=ae (by have h:=hm.own;rw [HN1.out] at h;exact h);have hge:=hm.lo.size;have p2:wr.cell? ⟨pb,1,none⟩=some (.slice (some ⟨a2,f2,none⟩) N2 c2):=(hm.lo.cell (p:=⟨pb,1,none⟩) hlp).trans HP2.out;have hne:∀j u,(b2.map Extern.Stop.cell)[j]? =some u->wr.cell? ((⟨a2,f2,none⟩:Addr).add j)=some u:=fun j u hu=>by
    have hj:j<b2.length:=by have:=(gQ.1 hu).1;simpa using this
    rw [Addr.add_mid,(hm.lo.cell (p:=⟨a2,f2+j,none⟩) hla2),HA2.out j hj];rw [List.getElem?_map,bK hj] at hu;rw [bK hj];simpa using hu
   have Hy:=ae hne;clear hne hm
   gi_wp2_with (gi_at_builtin;refine wpListIn_append_own _ rfl _ _ 55 rfl W.heap.size 5 i0 (.int .u8 0) 1 1 Tryz.underlying55 hi hq0 hq1 hq2 rfl (by omega) (.slice (some ⟨g,0,none⟩) N1 cap) N1 (b1.map Extern.Stop.cell) rfl HO.out ⟨a2,f2,none⟩ N2 c2 (b2.map Extern.Stop.cell) rfl (by rw [List.length_map,HN2.out,Nat.mul_one]) Hy.out (pV b2) (by have:=KT.out;unfold maxLen;omega) (by have:=KT.out;omega) (by omega) ?_;intro v1 w1 hown1 hg1 _;have hm1:wH W.heap.size W bs v1 w1:=HM.out.cat HCAT.out (Nat.le_refl _) (by rw [HN.out];exact KT.out) hown1 hg1;rw [KT.out] at hown1;obtain ⟨gg,cap1,rfl,_⟩:=gG hown1 hb0;have KP:=ae hm1;clear hown1 hg1 hm1)
   go_roundw
   case rel=>exact .inr (.inr ⟨gg,cap1,by go_num,rfl,KP.out⟩)
   case measure=>simp [intOf]
  ·obtain ⟨g,cap,rfl,rfl,hm⟩:=h;have HM:=ae hm;have HO:Hid (wr.ownsRow W.heap.size 5 1 (.slice (some ⟨g,0,none⟩) N cap) N (bs.map Extern.Stop.cell)):=ae (by have h:=hm.own;rw [HN.out] at h;exact h);have hge:=hm.lo.size;have DD:Hid (N+1=(bs++ [(128:UInt8)]).length):=ae (by rw [bF,HN.out];rfl);have HL2:Hid (bs.map Extern.Stop.cell++ [Extern.Stop.cell 128]=(bs++ [(128:UInt8)]).map Extern.Stop.cell):=ae (by simp);clear hm
   gi_wp2_with (gi_at_builtin;refine wpListIn_append_own _ rfl _ _ 55 rfl W.heap.size 5 i0 (.int .u8 0) 1 1 Tryz.underlying55 hi hq0 hq1 hq2 rfl (by omega) (.slice (some ⟨g,0,none⟩) N cap) N (bs.map Extern.Stop.cell) rfl (HO.out.alloc _) ⟨wr.heap.size,0,none⟩ 1 1 [Extern.Stop.cell 128] rfl rfl (BG 128 _ rfl) (yB 128) (by unfold maxLen;omega) (by omega) (by first|(simp;done)|(simp;omega)) ?_;intro v1 w1 hown1 hg1 _;have hm1:wH W.heap.size W (bs++ [(128:UInt8)]) v1 w1:=HM.out.app (Nat.le_refl _) DD.out HL2.out hown1 hg1;obtain ⟨gg,cap1,rfl,_⟩:=gG hown1 (Nat.succ_pos _);have KP:=ae hm1;clear hown1 hg1 hm1)
   gi_loopw [3] (fun m wx=>∃z g cap q,z<=uN N/\q=N+1+z/\m= .slice (some ⟨g,0,none⟩) q cap/\wH W.heap.size W (mO bs z) m wx) (fun m _=>(N+1+uN N) - (match m with| .slice _ q _=>q|_=>0))
   case atStart=>exact ⟨0,gg,cap1,N+1,Nat.zero_le _,rfl,rfl,by have h:=KP.out;simpa [mO] using h⟩
   case round=>
    obtain ⟨z,g,cap,q,hz,hq,rfl,hm⟩:=hrel;have HM2:=ae hm;have HQ:=ae hq;have hqb:q<=1000000200:=by have:uN N<=63:=Y5 N;omega
    have hge2:=hm.lo.size;have hlq:(mO bs z).length=q:=by rw [rU,HN.out,hq]
    have rD:Hid (wr.ownsRow W.heap.size 5 1 (.slice (some ⟨g,0,none⟩) q cap) q ((mO bs z).map Extern.Stop.cell)):=ae (by have h:=hm.own;rw [hlq] at h;exact h);clear hm KP HM HO DD HL2;by_cases hlt:z<uN N
    ·have h56:((q:Int)%64 !=56)=true:=by rw [xC];exact decide_eq_true (by rw [hq];exact Y6 hlt)
     have DD:Hid (q+1=(mO bs z++ [(0:UInt8)]).length):=ae (by rw [bF,hlq];rfl);have HL2:Hid ((mO bs z).map Extern.Stop.cell++ [Extern.Stop.cell 0]=(mO bs z++ [(0:UInt8)]).map Extern.Stop.cell):=ae (by simp);clear hq hlq
     gi_wp2_with (gi_at_builtin;refine wpListIn_append_own _ rfl _ _ 55 rfl W.heap.size 5 i0 (.int .u8 0) 1 1 Tryz.underlying55 hi hq0 hq1 hq2 rfl (by omega) (.slice (some ⟨g,0,none⟩) q cap) q ((mO bs z).map Extern.Stop.cell) rfl (rD.out.alloc _) ⟨wr.heap.size,0,none⟩ 1 1 [Extern.Stop.cell 0] rfl rfl (BG 0 _ rfl) (yB 0) (by unfold maxLen;omega) (by omega) (by first|(simp;done)|(simp;omega)) ?_;intro v2 w2 hown2 hg2 _;have hm2:wH W.heap.size W (mO bs z++ [(0:UInt8)]) v2 w2:=HM2.out.app (Nat.le_refl _) DD.out HL2.out hown2 hg2;obtain ⟨g2,cap2,rfl,_⟩:=gG hown2 (Nat.succ_pos _);have HM3:=ae hm2;clear hown2 hg2 hm2)
     go_roundw
     case rel=>exact ⟨z+1,g2,cap2,q+1,hlt,by have:=HQ.out;omega,rfl,by rw [Nl];exact HM3.out⟩
     case measure=>have:=HQ.out;show N+1+uN N - (q+1)<N+1+uN N - q;omega
    ·have hze:z=uN N:=by omega
     have h56:((q:Int)%64 !=56)=false:=by rw [xC];exact decide_eq_false (by rw [hq,hze];have:=PE N;omega)
     have Xm:=ae hze;clear hq hze hlq hlt hz;obtain ⟨pm,hpm⟩:∃pm,mO bs (uN N)=pm:=⟨_,rfl⟩;have PQ:=ae hpm;have Ez:Hid (pm.length=q):=ae (by rw [<-hpm,rU,HN.out];have:=HQ.out;have:=Xm.out;omega);have FN:Hid (wH W.heap.size W pm (.slice (some ⟨g,0,none⟩) q cap) wr):=ae (by have h:=HM2.out;rw [Xm.out,hpm] at h;exact h);clear hpm HM2 rD
     gi_wp2_with fail
     gi_loopw [3,7] (fun m i wx=>∃j g cap r,j<=8/\r=q+j/\i= .int .i64 (56 - 8*(j:Int))/\m= .slice (some ⟨g,0,none⟩) r cap/\wH W.heap.size W (pm++upto (fun j=>byteOf ((8*(N:Int)) / 2 ^ (56 - 8*j))) j) m wx) (fun _ i _=>(intOf i+8).toNat)
     case atStart=>exact ⟨0,g,cap,q,Nat.zero_le _,rfl,by go_num,rfl,by have h:=FN.out;simpa [upto] using h⟩
     case round=>
      obtain ⟨j,g,cap,r,hj,hr,rfl,rfl,hm⟩:=hrel;have HM5:=ae hm;have HR:=ae hr;have hge3:=hm.lo.size;have hrb:r<=1000000300:=by omega
      obtain ⟨ms,hms⟩:∃ms,pm++upto (fun j=>byteOf ((8*(N:Int)) / 2 ^ (56 - 8*j))) j=ms:=⟨_,rfl⟩;have hml:ms.length=r:=by rw [<-hms,bF,Ez.out,upto_length,hr]
      rw [hms] at HM5 hm;have HMS:=ae hms;have sQ:Hid (wr.ownsRow W.heap.size 5 1 (.slice (some ⟨g,0,none⟩) r cap) r (ms.map Extern.Stop.cell)):=ae (by have h:=hm.own;rw [hml] at h;exact h);clear hm hr hms FN;by_cases hlt:j<8
      ·obtain ⟨s,hs⟩:∃s:Nat,56 - 8*j=s:=⟨_,rfl⟩;have hs2:56 - 8*(j:Int)=(s:Int):=by omega
       have hs0:(0:Int)<=(s:Int):=by omega
       have hs1:(s:Int)<=56:=by omega
       obtain ⟨y,hy⟩:∃y:Int,(8*(N:Int)) / 2 ^ s=y:=⟨_,rfl⟩;have DD:Hid (r+1=(ms++ [byteOf y]).length):=ae (by rw [bF,hml];rfl);have HL2:Hid (ms.map Extern.Stop.cell++ [Extern.Stop.cell (byteOf y)]=(ms++ [byteOf y]).map Extern.Stop.cell):=ae (by simp);have HYY:=ae hy;have oD:=ae hs;have HS2:=ae hs2;have hby8:IntKind.u8.wrap y=y%256:=by rw [IntKind.wrap_u8]
       rw [hs2];clear hml hs hs2
       gi_wp2_with (gi_at_builtin;refine wpListIn_append_own _ rfl _ _ 55 rfl W.heap.size 5 i0 (.int .u8 0) 1 1 Tryz.underlying55 hi hq0 hq1 hq2 rfl (by omega) (.slice (some ⟨g,0,none⟩) r cap) r (ms.map Extern.Stop.cell) rfl (sQ.out.alloc _) ⟨wr.heap.size,0,none⟩ 1 1 [Extern.Stop.cell (byteOf y)] rfl rfl (BG (byteOf y) _ (fF y).symm) (yB _) (by unfold maxLen;omega) (by omega) (by first|(simp;done)|(simp;omega)) ?_;intro v2 w2 hown2 hg2 _;have hm2:wH W.heap.size W (ms++ [byteOf y]) v2 w2:=HM5.out.app (Nat.le_refl _) DD.out HL2.out hown2 hg2;obtain ⟨g2,cap2,rfl,_⟩:=gG hown2 (Nat.succ_pos _);have HM6:=ae hm2;clear hown2 hg2 hm2)
       go_roundw
       case rel=>exact ⟨j+1,g2,cap2,r+1,hlt,by have:=HR.out;omega,by have:=HS2.out;congr 1;omega,rfl,by rw [upto_succ,<-List.append_assoc,HMS.out,oD.out,HYY.out];exact HM6.out⟩
       case measure=>have:=HS2.out;simp [intOf];omega
      ·have hj8:j=8:=by omega
       have hs2:56 - 8*(j:Int)= -8:=by omega
       have hms2:ms=tC bs:=by
        rw [<-HMS.out,hj8,<-PQ.out];unfold tC O7;rw [HN.out]
       have hT:r=q+8:=by have:=HR.out;omega
       obtain ⟨k,hk⟩:∃k,r=64*k:=⟨r / 64,by have h1:=PE N;have h2:=HQ.out;have h3:=Xm.out;omega⟩;have HTT:=ae hk;have qV:=ae hms2;have HML:=ae hml;have FD:Hid (∀i,i<r->wr.cell? ⟨g,i,none⟩=some (Extern.Stop.cell (ms[i]?.getD 0))):=ae fun i hi=>by
        have h:=sQ.out.cells (g:=g) rfl i (Extern.Stop.cell (ms[i]?.getD 0)) (by rw [List.getElem?_map,bK (by omega)];rfl);rw [addr_add] at h;exact h
       have hcap:r<=cap/\cap<=9223372036854775807:=by
        rcases sQ.out.2 with ⟨h1,_⟩|⟨g',cap',cur,h1,_,_,h2,h3,_⟩
        ·cases h1
        ·injection h1 with _ _ h1;subst h1;exact ⟨h2,by unfold maxLen at h3;omega⟩
       have hgl:=UD sQ.out g rfl;have hgw:W.heap.size<=g:=by
        rcases sQ.out.2 with ⟨h1,_⟩|⟨g',cap',cur,h1,h2,_⟩
        ·cases h1
        ·injection h1 with h1 _ _;injection h1 with h1;injection h1 with h1;omega
       have HJ0:Hid (J [] wr):=ae (HJ.out _ _ _ h0 HM5.out.lo);rw [hs2];clear hs2 hj8 hms2 hT hml
       gi_wp2_with fail
       gi_loopw [3] (fun m wx=>∃i a q cc o xs,i<=k/\q=64*(k - i)/\o=64*i/\m= .slice a q cc/\xs.map (·.bs)=upto (chunk ms) i/\J xs wx/\PG W g r ms wx/\(i<k->a=some ⟨g,o,none⟩/\q<=cc/\cc<=9223372036854775807)) (fun m _=>match m with| .slice _ q _=>q|_=>0)
       case atStart=>exact ⟨0,some ⟨g,0,none⟩,r,cap,0,[],Nat.zero_le _,by rw [hk];rfl,rfl,rfl,rfl,HJ0.out,⟨hgl,hgw,hge3,FD.out⟩,fun _=>⟨rfl,hcap.1,hcap.2⟩⟩
       case round=>
        obtain ⟨i,a,q,cc,o,xs,hi,hq,ho,rfl,hxs,Ql,hbk,hlast⟩:=hrel;have Zr:=ae hbk;have KA:=ae hxs;have HJX:=ae Ql;clear hbk hxs Ql;by_cases hlt:i<k
        ·obtain ⟨rfl,hqc,hcm⟩:=hlast hlt;have hq64:64<=q:=by omega
         have hxe:KO ⟨g,o,cc,chunk ms i⟩ wr:=Zr.out.el i o cc (chunk ms i) ho (by have:=HTT.out;omega) rfl HML.out;obtain ⟨fn,tmps,assign,body,hy,hR⟩:=HY.out xs ⟨g,o,cc,chunk ms i⟩ wr HJX.out Zr.out.ge hxe;dsimp only [Ot] at hy;have hq0:(0:Int)<(q:Int):=by omega
         have ZG:=ae hq;have zU:=ae ho;clear hq ho hlast hxe
         gi_wp2_with fail
         refine hR.mono ?_;rintro e W3 ⟨rfl,hJ3,hk3⟩;have HJ3:=ae hJ3;have HB3:=ae (Zr.out.keep hk3);have Bg:Hid ((xs++ [(⟨g,o,cc,chunk ms i⟩:WB)]).map (·.bs)=upto (chunk ms) (i+1)):=ae (by rw [List.map_append,KA.out,upto_succ];rfl);clear hJ3 hk3 hy hR HJX Zr;by_cases hcc:cc=64
         ·have VT:=ae hcc;have hqe:q=64:=by omega
          have hke:i+1=k:=by have:=ZG.out;omega
          have Hw:=ae hke;subst hcc;subst hqe;clear hke
          gi_wp2_with fail
          go_roundw
          case rel=>exact ⟨i+1,_,0,_,64*(i+1),_,by omega,by have:=Hw.out;omega,rfl,rfl,Bg.out,HJ3.out,HB3.out,fun h=>by have:=Hw.out;omega⟩
          case measure=>simp
         ·have hc64:64<cc:=by omega
          gi_wp2_with fail
          go_roundw
          case rel=>exact ⟨i+1,_,q - 64,cc - 64,o+64,_,hlt,by have:=ZG.out;omega,by have:=zU.out;omega,rfl,Bg.out,HJ3.out,HB3.out,fun _=>⟨rfl,by omega,by omega⟩⟩
          case measure=>simp;omega
        ·have hie:i=k:=by omega
         have hq0:q=0:=by omega
         have HIE:=ae hie;subst hq0;clear hie hlast
         gi_wp2_with fail
         go_end0
         refine ⟨⟨_,rfl⟩,xs,?_,HJX.out⟩;rw [KA.out,HIE.out,<-qV.out,HML.out,HTT.out,Nat.mul_div_cancel_left _ (by decide)]
end Go.Proofs.YtbaehbbonkljpaaGreatDoor
namespace Go.Proofs.YtbaehbbonkljpaaGreatDoor
open Go Go.RowKit Go.Shelf
attribute [local go_sem] Oper.semAt_some
theorem EU (KR:List Int) (hK:KR.length=64) (w:World) (hG:gK w 0 (aj KR)) (b1 b2 bs:List UInt8) (MG:b1++b2=bs) (hb1:0<b1.length) (hb2:0<b2.length) (hlen:bs.length<=1000000000) (pb a1 f1 c1 a2 f2 c2:Nat) (hp:w.cell? ⟨pb,0,none⟩=some (.slice (some ⟨a1,f1,none⟩) b1.length c1)) (hp2:w.cell? ⟨pb,1,none⟩=some (.slice (some ⟨a2,f2,none⟩) b2.length c2)) (hlp:pb<w.heap.size) (hla1:a1<w.heap.size) (hla2:a2<w.heap.size)
  (Je:∀j,j<b1.length->w.cell? ⟨a1,f1+j,none⟩=some (Extern.Stop.cell (b1[j]?.getD 0))) (TR:∀j,j<b2.length->w.cell? ⟨a2,f2+j,none⟩=some (Extern.Stop.cell (b2[j]?.getD 0))):
  Calls Tryz.prog 73 #[.slice (some ⟨pb,0,none⟩) 2 2] w fun e w'=>e= .returned (.agg (cellsB (qN KR bs)))/\Below w.heap.size w w':=by
 refine (callsIn_wide (n:=3)).1 ?_;have hro:Fence.wide.round=none:=rfl;have h1:1<=3:=by omega
 have HK:=ae hK;have HG:=ae hG;have HBY1:=ae Je;have RS:=ae TR;have HP:=ae hp;have HP2:=ae hp2;clear hK hG Je TR hp hp2;refine callsIn_of_wp_marks Tryz.func73 rfl trivial ?_ hro;simp only [Tryz.ntmps73,List.size_toArray,List.length_cons,List.length_nil,Nat.reduceAdd,Nat.reduceSub,Array.replicate_succ,Array.replicate_zero,List.push_toArray,List.append_toArray,List.nil_append,List.cons_append]
 gi_wp2_with (first
  |(refine lW rfl _ rfl (cellsB z32) qJ ?_)
  |(refine lW rfl _ rfl (aj (List.replicate 8 0)) nz ?_;refine qH rfl 180 _ _ rfl (w.alloc (.cells (cellsB z32) 24)).heap.size (aj uD) rfl rfl 180 (aj (List.replicate 8 0)) (heap_alloc_last _ _) (by kernel_rfl) rfl (bQ _) ?_)
  |(refine ⟨trivial,?_⟩;gi_at_call 93;refine (LP _ _ _ _).mono ?_;rintro e w3 ⟨rfl,hw3⟩;obtain ⟨hs3,hz3,hbx3⟩:=MF (KR:=KR) ⟨_,rfl⟩ hw3;have oz:=ae hs3;have Bg:=ae hbx3;have HZ3:=ae hz3;clear hw3 hs3 hbx3 hz3))
 have hseq:∀W,Below w3.heap.size w3 W->Bl Fence.wide (3 - 1) Tryz.prog 117 #[.pointer (some ⟨w.heap.size+1+1,0,none⟩)] Ot KO (fun xs=>xs.map (·.bs)=upto (chunk (tC bs)) ((tC bs).length / 64)) W:=fun W hW=>by
  have hz:=HZ3.out;have hsz:=hW.size;have hlo:=oz.out.lo;have kc:∀(p:Addr),p.block<w.heap.size->W.cell? p=w.cell? p:=fun p hp=>((hW.mono (by omega)).cell (p:=p) hp).trans (hlo.cell (p:=p) hp);exact D7 Fence.wide 2 trivial rfl (by omega) b1 b2 bs MG hb1 hb2 hlen W (w.heap.size+1+1) pb a1 f1 c1 a2 f2 c2 ((hW.cell (p:=⟨w.heap.size+2,0,none⟩) (by show w.heap.size+2<w3.heap.size;omega)).trans Bg.out)
   ((kc ⟨pb,0,none⟩ hlp).trans HP.out) ((kc ⟨pb,1,none⟩ hlp).trans HP2.out) (by omega) (by omega) (by omega) (fun j hj=>(kc ⟨a1,f1+j,none⟩ hla1).trans (HBY1.out j hj)) (by omega) (fun j hj=>(kc ⟨a2,f2+j,none⟩ hla2).trans (RS.out j hj))
 have HSEQ:=ae hseq;clear hseq;refine yP hro h1 (gf:=117) (lb:= #[.pointer (some ⟨w.heap.size+1+1,0,none⟩)]) rfl trivial (enters_of Tryz.func117 (by kernel_rfl) rfl) HSEQ.out (fun _=>rfl)
  (fun (xs:List WB) W=>IC w KR (xs.map (fun x:WB=>x.bs)) W) (fun xs A B h hb=>h.grow (hb.mono (by rw [HZ3.out];exact Nat.le_refl _))) oz.out
  (fun x=> {tmps:= #[.slice (some ⟨pb,0,none⟩) 2 2,undef, .pointer (some ⟨w.heap.size,0,none⟩), .pointer (some ⟨w.heap.size+1,0,none⟩),slEl x,undef,undef, .agg (aj uD), .slice (some ⟨pb,0,none⟩) 2 2, .func (.func 117) #[] #[.pointer (some ⟨w.heap.size+1+1,0,none⟩)],slEl x,undef,undef,undef,undef,undef,undef,undef,undef,undef,undef,undef,undef,undef,undef,undef,undef,undef,undef,undef],defers:= []})
  (fun x A l o o' h1 h2 h3=>h1.put h2 h3) ?assign ?body ?done
 case assign=>
  intro l x W K hK;unfold Ot
  gi_wp2
  exact hK
 case body=>
  intro l pre x W hI hsz hx;have hGW:gK W 0 (aj KR):=⟨dP HG.out.1 hI.lo.size,fun i=>(hI.lo.cell (p:=⟨0,i,none⟩) HG.out.1).trans (HG.out.2 i)⟩;have HC:Hid (Calls Tryz.prog 94 #[.pointer (some ⟨w.heap.size+1,0,none⟩),slEl x] W fun e w'=>e= .returned (.tuple #[])/\AV (w.heap.size+1) 180 (aj (DZ KR (vV KR uD (pre.map (fun x:WB=>x.bs))) x.bs)) w'/\SI (w.heap.size+1) W w'):=
   ae (add_any KR HK.out W hGW (w.heap.size+1) x.b x.off x.cap (vV KR uD (pre.map (fun x:WB=>x.bs))) x.bs (xn _ _ _ rfl) hI.st hx.len hx.lt hx.at_)
  have HI:=ae hI;clear hGW hI hx
  gi_wp2_with (refine ⟨trivial,?_⟩;gi_at_call 94;refine (CallsIn.inRound l (callsIn_wide.2 HC.out)).mono ?_;rintro e W2 ⟨rfl,hav,hkp⟩)
  have hl:=HI.out.lo;have hz3:=HZ3.out;refine ⟨⟨⟨(hkp.block _ (by have:=hl.size;omega) (by omega)).trans HI.out.res.var⟩,?_,⟨hkp.os.trans hl.os,hkp.tape.trans hl.tape,hkp.output.trans hl.output,Nat.le_trans hl.size hkp.size,fun k hk=>(hkp.block k (by have:=hl.size;omega) (by omega)).trans (hl.block k hk)⟩⟩,⟨hkp.size,fun k h1 h2=>hkp.block k h2 (by omega)⟩⟩;rw [BP];exact hav
 case done=>
  intro D xs W hD hS hI hD0;rw [hS] at hI;obtain ⟨st,hst⟩:∃st,vV KR uD (upto (chunk (tC bs)) ((tC bs).length / 64))=st:=⟨_,rfl⟩;have hsl:st.length=8:=by rw [<-hst];exact xn _ _ _ rfl
  have hI2:AV (w.heap.size+1) 180 (aj st) W:=by rw [<-hst];exact hI.st
  have HI:=ae hI;have HI2:=ae hI2;have HD0:=ae hD0;have HST:=ae hst;have V6:=ae hsl;clear hI hI2 hD0 hst hsl hS;have yV:=ae (AV.new W (cellsB (jK st 0)) 24);have HB0:=ae (ag W (.cells (cellsB (jK st 0)) 24));have hstl:=HI2.out.lt;have hdl:D<W.heap.size:=(bV.1 HD0.out).1
  gi_wp2_with (refine lW rfl _ rfl (cellsB z32) qJ ?_)
  gi_loopw [13] (fun i wx=>∃k:Nat,k<=32/\i= .int .i64 (k:Int)/\AV W.heap.size 24 (cellsB (jK st k)) wx/\Below W.heap.size W wx) (fun i _=>32 - (intOf i).toNat)
  case atStart=>exact ⟨0,Nat.zero_le _,rfl,yV.out,HB0.out⟩
  case round=>
   obtain ⟨k,hk,rfl,hd,hb⟩:=hrel;have HDV:=ae hd;have Rl:=ae hb;have HOL:=ae (xH st k);clear hd hb yV HB0;by_cases hlt:k<32
   ·have i1:(k:Int)<32:=by omega
    obtain ⟨q4,hq4⟩:∃q:Nat,k / 4=q:=⟨_,rfl⟩;obtain ⟨r4,hr4⟩:∃q:Nat,k%4=q:=⟨_,rfl⟩;obtain ⟨s4,hs4⟩:∃q:Nat,24 - 8*r4=q:=⟨_,rfl⟩;obtain ⟨v,hv⟩:∃v,st[q4]?.getD 0=v:=⟨_,rfl⟩;have cs:wr.cell? ⟨w.heap.size+1,q4,none⟩=some (.int .u32 v):=((Rl.out.cell (p:=⟨w.heap.size+1,q4,none⟩) hstl).trans (HI2.out.cell q4)).trans (by rw [bU _ _ (by rw [V6.out];omega),hv]);have cd:wr.cell? ⟨W.heap.size,k,none⟩=some (Extern.Stop.cell ((jK st k)[k]?.getD 0)):=(HDV.out.cell k).trans (mW _ _ (by rw [HOL.out];exact hlt));have cf:=HDV.out.fZ k;obtain ⟨y,hy⟩:∃y,v / 2 ^ s4=y:=⟨_,rfl⟩;have g4:(k:Int) / 4=(q4:Int):=by omega
    have g5:(k:Int)%4=(r4:Int):=by omega
    have g6:24 - 8*(r4:Int)=(s4:Int):=by omega
    have b4:(q4:Int)<8:=by omega
    have b5:(r4:Int)<4:=by omega
    have b6:(s4:Int)<=24:=by omega
    have hw8:IntKind.u8.wrap y=y%256:=by rw [IntKind.wrap_u8]
    have HN:Hid (AV W.heap.size 24 (cellsB (jK st (k+1))) (wr.setCell ⟨W.heap.size,k,none⟩ (.int .u8 (y%256)))):=ae (by
     have h:=HDV.out.put k (Extern.Stop.cell (byteOf y));rw [wI,fF] at h;have e:jK st (k+1)=(jK st k).set k (byteOf y):=by
      show (jK st k).set k (byteOf ((st[k / 4]?.getD 0) / 2 ^ (24 - 8*(k%4))))=_;rw [hq4,hr4,hs4,hv,hy]
     rw [e];exact h)
    clear hq4 hr4 hs4 hv
    gi_wp2_with fail
    go_roundw
    case rel=>exact ⟨k+1,by omega,by go_num,HN.out,Rl.out.setCell (p:=⟨W.heap.size,k,none⟩) (Nat.le_refl _) _⟩
    case measure=>simp [intOf];omega
   ·have Hw:Hid (k=32):=ae (by omega);have i1:¬(k:Int)<32:=by omega
    have i2:((k:Int)<32)=False:=by simp;omega
    have HRW:Hid (gK wr W.heap.size (cellsB (jK st k))):=ae ⟨HDV.out.lt,HDV.out.cell⟩;have dU:Hid ((Tryz.prog.info? 24).map (·.size)=some (cellsB (jK st k)).size):=ae (by rw [fG,HOL.out];kernel_rfl);have EE:Hid ((cellsB z32).size=(cellsB (jK st k)).size):=ae (by rw [fG,fG,HOL.out];rfl);have KW:Hid (wr.heap[w.heap.size]? =some (.cells (cellsB z32) 24 (0,0))):=ae ((Rl.out.block _ (by omega)).trans HI.out.res.var);have RY:Hid ((wr.setRow w.heap.size (cellsB (jK st k))).heap[D]? =some (.deferred (some []))):=ae ((setRow_other _ _ _ _ (by have:=HZ3.out;omega)).trans ((Rl.out.block _ hdl).trans HD0.out));clear hlt
    gi_wp2_with (first
     |(refine yQ rfl _ _ rfl W.heap.size rfl (cellsB (jK st k)) HRW.out _ Tryz.underlying24 rfl dU.out ?_;refine qH rfl _ _ _ rfl w.heap.size (cellsB (jK st k)) rfl rfl 24 (cellsB z32) KW.out dU.out EE.out (oW _) ?_))
    have hz3:=HZ3.out;have hlo:=HI.out.lo;refine ⟨by simp, .inl ⟨_,_,rfl,run_takeDeferred RY.out,?_⟩⟩;refine ⟨_,results_cell_row rfl _ _ w.heap.size _ (cellsB (jK st k)) (0,0) _ rfl ((World.putObj_heap_other (by omega)).trans (setRow_heap _ _ _ _ _ _ KW.out)) Tryz.underlying24 rfl dU.out,?_⟩;refine ⟨?_,(aB (hlo.trans (Rl.out.mono hlo.size)) (Nat.le_refl _) _).trans (uP (by omega))⟩;rw [Hw.out,<-HST.out];rfl
end Go.Proofs.YtbaehbbonkljpaaGreatDoor
