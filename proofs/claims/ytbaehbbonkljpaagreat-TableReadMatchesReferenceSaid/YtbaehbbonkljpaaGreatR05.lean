/- The texts BEq, TrR, Dq, Lh, in this order. -/
import Derived.Test.YtbaehbbonkljpaaGreatR00
import Derived.Defers
import Derived.Recover
import Derived.Test.YtbaehbbonkljpaaGreatR01
import Derived.Test.YtbaehbbonkljpaaGreatR03
import Derived.Test.YtbaehbbonkljpaaGreatR04
set_option maxRecDepth 10000
set_option maxHeartbeats 8000000
namespace Go.Proofs.YtbaehbbonkljpaaGreat
open Go Go.RowKit
def P6 (bs:List UInt8):ByteArray:=⟨bs.toArray⟩
theorem yz (xs:List UInt8):(P6 xs).toList=xs:=by rw [Lib.toList_data];rfl
theorem Ar (A:Option Addr) (bs:List UInt8) (c:Nat) (w:World) (B:Nat) (h:BytesAt w B A bs):
  (convert 22 9 (.slice A bs.length c)).run Tryz.prog w= .ok (.string (P6 bs)) w:=by
 have e:P6 bs=strOfNums (bs.map fun x=>(x.toNat:Int)):=by
  unfold P6 strOfNums;congr 1;rw [List.map_map];congr 1;rw [show ((fun n:Int=>UInt8.ofNat n.toNat) ∘ fun x:UInt8=>(x.toNat:Int))=id from by funext x;simp];simp
 rcases h with h|⟨b,off,rfl,_,hc⟩
 ·obtain rfl:=List.eq_nil_of_length_eq_zero h;exact run_convert_bytes_zero w _ _ Tryz.underlying22 Tryz.underlying5 A c _ Tryz.underlying9
 ·rw [e];refine run_convert_bytes_arg w _ _ Tryz.underlying22 Tryz.underlying5 b off bs.length c _ (by simp) (fun i hi=>?_) _ Tryz.underlying9;rw [hc i hi];simp [List.getD,hi,Extern.Stop.cell]
theorem Ag (w:World) (A A':Option Addr) (xs ys:List UInt8) (c d B B':Nat) (h1:BytesAt w B A xs) (h2:BytesAt w B' A' ys):
  Calls Tryz.prog 29 #[.slice A xs.length c, .slice A' ys.length d] w fun e w'=>e= .returned (.bool (xs==ys))∧w'=w:=by
 have e1:=Ar A xs c w B h1;have e2:=Ar A' ys d w B' h2;clear h1 h2;go_enter Tryz.func29,Tryz.ntmps29
 go_wp2
 go_ret;exact ⟨by show Ending.returned (.bool ((P6 xs).toList==(P6 ys).toList))=_;rw [yz,yz],rfl⟩
theorem lW {P:Program} {fn:Func} {p q:Tmp} {t1 t2:TypeId} (h:fn.results= #[.cell p t1, .cell q t2]) (tmps:Array Value) (w:World) (g g2:Nat) (t:TypeId) (cs:Array Value) (fr:Nat×Nat) (d:TypeDesc) (v:Value)
  (hp:tmps.getD p undef= .pointer (some ⟨g,0,none⟩)) (hg:w.heap[g]? =some (.cells cs t fr)) (hu:P.underlying t1=some d) (hd:(match d with| .struct _| .array _ _=>true|_=>false)=true) (hi:(P.info? t1).map (·.size)=some cs.size)
  (hq:tmps.getD q undef= .pointer (some ⟨g2,0,none⟩)) (hv:(loadVar t2 ⟨g2,0,none⟩).run P w= .ok v w):
  (results fn tmps).run P w= .ok (.tuple #[.agg cs,v]) w:=by
 have hp':tmps[p]?.getD undef= .pointer (some ⟨g,0,none⟩):=by simpa using hp
 have hq':tmps[q]?.getD undef= .pointer (some ⟨g2,0,none⟩):=by simpa using hq
 simp [results,h,hp',hq',asAddr,run_loadVar_row w g t t1 cs fr d hg hu hd hi,hv]
theorem yA (p:Addr) (w:World):
  CallsD Tryz.prog 49 #[.pointer (some p)] .returning w fun e u' w'=>e= .returned (.tuple #[])∧u'= .returning∧w'=w:=by
 have hnn:∀w,(binOp .neq 20 .nilIface .nilIface).run Tryz.prog w= .ok (.bool false) w:=fun w=>Lib.run_neq_nil_nil w Tryz.underlying20;refine callsD_of_wpS Tryz.func49 rfl fun c₀ cs hu=>?_;apply wpS_seq;apply wpS_region;simp [wpOpsS,go_sem,recoverD,hu,Tryz.ntmps49,Exit.thenS];apply wpS_seq;apply wpS_region;simp [wpOpsS,go_sem,hnn,Exit.thenS];refine wpS_cond (t:=false) (by simp [Act.eval,Array.replicate]) ?_;simp only [Bool.false_eq_true,if_false];refine wpS_of_wp (wp_skip ?_);cases c₀
 simp_all [bodyPostS,results,Tryz.results49]
section
variable {P:Program} {ops:Array Oper} {Q:Exit→Act→World→Prop} {md:Region.Mode} {S:World→Prop} {i:Nat} {oi:Oper} {v:Value} {fuel:Nat} {listed:Array Bool} {a:Act} {w:World}
theorem nK (d:Option Tmp) (hi:ops[i]? =some oi) (hd:oi.dst=d)
  (hs:Region.noSelect ops=true) (hf:Region.free md ops listed i=true) (hr:(Region.ready md ops listed).contains i=true)
  (hQ:∀c a w,Q (.panic c) (a.put d v) w→Q (.panic c) a w) (hy:YieldsIf P ops S oi v a) (hS:S w)
  (h:wpAnyH P md ops Q S fuel (listed.setIfInBounds i true) (a.put d v) w):wpAnyH P md ops Q S (fuel+1) listed a w:=by
 subst hd;exact wpAnyH_take hi hs hf hr hQ hy hS h
theorem rC (hr:Region.ready md ops listed= [i]) (ho:ops[i]? =some oi) (hw:Region.wanted oi (yielded ops a.tmps)=true) (ty:TypeId) (x y:Operand) (hop:oi.op= .store ty x y) (hd:oi.dst=none)
  (g:Nat) (cells:Array Value) (hx:a.eval x= .pointer (some ⟨g,0,none⟩)) (hy:a.eval y= .agg cells) (t:TypeId) (old:Array Value) (hg:w.heap[g]? =some (.cells old t (0,0))) (hi:(P.info? ty).map (·.size)=some cells.size) (hold:old.size=cells.size) (h1:cells.all (·.oneCell')=true)
  (hS:S (w.setRow g cells)) (h:S (w.setRow g cells)→wpAnyH P md ops Q S fuel (listed.setIfInBounds i true) a (w.setRow g cells)):wpAnyH P md ops Q S (fuel+1) listed a w:=by
 refine wpAnyH_ready (rs:= [i]) hr (by simp) ?_;refine AllReadyH.cons ho (fun K hK=>?_) AllReadyH.nil;rw [if_pos hw];refine wp_store_row ty x y hop g cells hx hy t old hg hi hold h1 ?_;rw [hd];exact hK.out a _ hS h
end
theorem bI.grown {M:Nat} {w0 w w':World} {rb pb:Nat} {t:TypeId} {cs:Array Value} (h:bI w rb pb t cs w') (hb:Below M w0 w) (h1:M≤pb) (h2:M≤rb) (hp:pb<w.heap.size):Below M w0 w':=
 hb.trans ⟨h.os,h.tape,h.output,h.size,fun k hk=>h.block k (by omega) (by omega) (by omega)⟩
def aF (zs:List Int):Array Value:=(zs.map fun z=>Value.int .u32 z).toArray
theorem bT (zs:List Int):(aF zs).size=zs.length:=by simp [aF]
theorem gK (zs:List Int) (i:Nat) (h:i<zs.length):(aF zs)[i]? =some (.int .u32 (zs[i]?.getD 0)):=by
 simp [aF,h]
theorem Am (zs:List Int) (i:Nat) (z:Int):(aF zs).setIfInBounds i (.int .u32 z)=aF (zs.set i z):=by
 simp [aF,List.map_set]
theorem iR (zs:List Int):(aF zs).all (·.oneCell')=true:=by
 rw [Array.all_eq_true_iff_forall_mem];intro v hv;simp [aF] at hv;obtain ⟨z,_,rfl⟩:=hv;rfl
section
variable {P:Program} {ops:Array Oper} {Q:Exit→Act→World→Prop} {a:Act} {w:World} {rest:List Oper} {o:Oper}
theorem aI (hg:o.guard=none) (t:TypeId) (ho:o.op= .alloc t) (cells:Array Value) (hz:(P.info? t).map (fun i=>(i.zero,i.size))=some (some (.agg cells),cells.size))
  (h:wpList P ops Q rest (a.put o.dst (.pointer (some ⟨w.heap.size,0,none⟩))) (w.alloc (.cells cells t))):wpList P ops Q (o::rest) a w:=by
 refine wpList_plain hg fun K hK=>?_;unfold Oper.wp execOp;simp only [ho,Sem.run_bind,kC w t (.agg cells) _ hz,Result.andThen_ok];exact hK _ _ h
end
def oL (w:World) (b:Nat) (cs:Array Value):Prop:=b<w.heap.size∧∀i,w.cell? ⟨b,i,none⟩=cs[i]?
section
variable {P:Program} {ops:Array Oper} {Q:Exit→Act→World→Prop} {a:Act} {w:World} {rest:List Oper} {o:Oper}
theorem bu (hw:Region.wanted o (yielded ops a.tmps)=true) (ty:TypeId) (x:Operand) (ho:o.op= .load ty x) (g:Nat) (hx:a.eval x= .pointer (some ⟨g,0,none⟩)) (cs:Array Value) (hr:oL w g cs)
  (d:TypeDesc) (hu:P.underlying ty=some d) (hd:d.isRow=true) (hi:(P.info? ty).map (·.size)=some cs.size)
  (h:wpList P ops Q rest (a.put o.dst (.agg cs)) w):wpList P ops Q (o::rest) a w:=by
 unfold wpList;rw [if_pos hw];have hc:w.rangeAt g 0 cs.toList:=fun j v hv=>by rw [Nat.zero_add,hr.2 j];simpa using hv
 refine .inl (wp_load_mid ty x ho g 0 hx cs.toList d hc hu hd (by rw [hi];simp) ?_);simpa using h
end
theorem aB {B g:Nat} {w0 w:World} (hb:Below B w0 w) (hBg:B≤g) (cs:Array Value):Below B w0 (w.setRow g cs):=
 hb.trans ⟨rfl,rfl,rfl,by simp [World.setRow],fun k hk=>setRow_other w g k cs (by omega)⟩
structure AV (b:Nat) (t:TypeId) (cs:Array Value) (W:World):Prop where
 var:W.heap[b]? =some (.cells cs t (0,0))
section
variable {b g:Nat} {t:TypeId} {cs:Array Value} {W W':World}
theorem AV.lt (h:AV b t cs W):b<W.heap.size:=(bK.1 h.var).1
theorem AV.cell (h:AV b t cs W):∀i,W.cell? ⟨b,i,none⟩=cs[i]? :=fun i=>cell_of_row W _ i _ _ _ h.var
theorem AV.eY (h:AV b t cs W):∀i,W.frozen? ⟨b,i,none⟩=false:=fun i=>frozen_of_row W _ i _ _ h.var
theorem AV.below (h:AV b t cs W) (hb:Below W.heap.size W W'):AV b t cs W':=⟨(hb.block _ h.lt).trans h.var⟩
theorem AV.put (h:AV b t cs W) (o:Nat) (v:Value):AV b t (cs.setIfInBounds o v) (W.setCell ⟨b,o,none⟩ v):=⟨heap_setCell_same W _ o _ _ _ h.var⟩
theorem AV.far (h:AV b t cs W) (hn:b≠g) (o:Nat) (v:Value):AV b t cs (W.setCell ⟨g,o,none⟩ v):=⟨(heap_setCell_other W _ b v hn).trans h.var⟩
theorem AV.drew (h:AV b t cs W):AV b t cs W.drew:=⟨h.var⟩
theorem AV.new (W:World) (cs:Array Value) (t:TypeId):AV W.heap.size t cs (W.alloc (.cells cs t)):=⟨heap_alloc_last W _⟩
end
theorem yN:(Tryz.prog.info? 194).map (fun i=>(i.zero,i.size))=some (some (.agg (aF (List.replicate 64 0))),(aF (List.replicate 64 0)).size):=by kernel_rfl
attribute [local go_sem] dI dM dJ dN fJ fK dG dK dH dL
def mf:List PanicEntry:= [{v:= .iface 119 (.agg #[]),recovered:=false}]
def YB (w:World) (e:Ending) (w':World):Prop:=e= .panicked mf∧Below w.heap.size w w'
theorem wU (M:Nat) (w:World) (rb n:Nat) (rest:List UInt8) (hr:jH M w rb rest) (hn:rest.length<n):
  Calls Tryz.prog 168 #[.pointer (some ⟨rb,0,none⟩),I n] w fun e w'=>e= .panicked mf∧w'=w:=by
 obtain ⟨⟨bb,off,c,h1,_⟩,_⟩:=hr;have hc0:w.cell? ⟨rb,0,none⟩=some (.slice (some ⟨bb,off,none⟩) rest.length c):=cell_of_row w rb 0 _ _ _ h1;obtain ⟨m,hm⟩:∃m,rest.length=m:=⟨_,rfl⟩;rw [hm] at hc0 hn;have n0:(m:Int)<(n:Int):=by omega
 clear h1 hm;go_enter Tryz.func168,Tryz.ntmps168
 go_wp2
 exact ⟨rfl,rfl,rfl⟩
theorem Jo (M:Nat) (w:World) (rb pb po size:Nat) (t:TypeId) (cs:Array Value) (rest:List UInt8) (hr:jH M w rb rest) (hn:rest.length<size) (hp:w.heap[pb]? =some (.cells cs t (0,0))) (hpo:po<cs.size) (pq:M≤pb) (hne:pb≠rb):
  Calls Tryz.prog 165 #[pt rb, .pointer (some ⟨pb,po,none⟩),I size] w fun e w'=>e= .panicked mf∧dA pb w w':=by
 refine (callsIn_wide (n:=3)).1 ?_;have hro:Fence.wide.round=none:=rfl;have h1:1≤3:=by omega
 have hlt:=hr.lt;have hpl:pb<w.heap.size:=(bK.1 hp).1;have hMl:=hr.lo;have hc0:w.cell? ⟨pb,po,none⟩=some cs[po]:=by rw [cell_of_row w pb po _ _ _ hp];exact Array.getElem?_eq_getElem hpo
 have hf0:w.frozen? ⟨pb,po,none⟩=false:=frozen_of_row w pb po _ _ hp;obtain ⟨WS,hWS⟩:∃W,w.setCell ⟨pb,po,none⟩ (I 0)=W:=⟨_,rfl⟩;have yU:dA pb w WS:=by rw [←hWS];exact ⟨rfl,rfl,rfl,by simp [World.setCell],fun k _ hk2=>heap_setCell_other _ _ k _ hk2⟩
 obtain ⟨W1,hW1⟩:∃W,WS.alloc (.cells #[.pointer (some ⟨pb,po,none⟩)] 112)=W:=⟨_,rfl⟩;have hk1:dA pb w W1:=by
  rw [←hW1];exact ⟨yU.os,yU.tape,yU.output,Nat.le_trans yU.size (by simp),fun k hk hk2=>(Below.heap_alloc WS _ k (dW hk yU.size)).trans (yU.block k hk hk2)⟩
 rw [←hWS] at hW1;have hr1:jH M W1 rb rest:=hr.of (hk1.block rb hlt (fun e=>hne e.symm)) fun k hk=>hk1.block k (by omega) (by omega);have HT:=ae (wU M W1 rb size rest hr1 hn);have jX:=ae hk1;have HW1:=ae hW1;clear hr hr1 hk1 yU hW1 hWS hp;refine callsIn_of_wp_marks Tryz.func165 rfl trivial ?_ hro;simp only [Tryz.ntmps165,List.size_toArray,List.length_cons,List.length_nil,Nat.reduceAdd,Nat.reduceSub,Array.replicate_succ,Array.replicate_zero,List.push_toArray,List.append_toArray,List.nil_append,List.cons_append]
 gi_wp2_with first
  |(refine ⟨trivial,?_⟩;gi_at_call 168;rw [HW1.out];refine (callsIn_wide.2 HT.out).mono ?_;rintro e w2 ⟨rfl,rfl⟩)
 exact ⟨rfl,jX.out⟩
theorem Jm (M:Nat) (w:World) (rb size:Nat) (m:Int) (rest:List UInt8) (hr:jH M w rb rest) (hn:rest.length<size):
  Calls Tryz.prog 164 #[pt rb,I m,I size] w (YB w):=by
 have hl:=hr.lt;have hlo:=hr.lo;have hb:=ag w (.cells #[I 0] 3);have hpl:=heap_alloc_last w (.cells #[I 0] 3);have HC:=ae (Jo M (w.alloc (.cells #[I 0] 3)) rb w.heap.size 0 size 3 #[I 0] rest (hr.below hb hl) hn hpl (by decide) (by omega) (by omega));have HB:=ae hb;clear hr hb hpl;go_enter Tryz.func164,Tryz.ntmps164;go_wp2_with fail;refine HC.out.mono ?_;rintro e w1 ⟨rfl,hk⟩;exact ⟨rfl,rfl,hk.os,hk.tape,hk.output,by have:=hk.size;simp at this;omega,fun k hk2=>(hk.block k (by simp;omega) (by omega)).trans (HB.out.block k hk2)⟩
end Go.Proofs.YtbaehbbonkljpaaGreat
