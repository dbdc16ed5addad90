/- The texts Qj, Lf, in this order. -/
import Derived.Test.YtbaehbbonkljpaaGreatR00
import Derived.Test.YtbaehbbonkljpaaGreatR26
import Derived.Test.YtbaehbbonkljpaaGreatR35
set_option maxRecDepth 10000
set_option maxHeartbeats 8000000
namespace Go.Proofs.YtbaehbbonkljpaaGreat
open Go Go.RowKit
theorem XY (y:fH):∀u∈y.cells,u.oneCell'=true:=by
 have h:=aW y.t y.A y.zs.length y.c;rw [Array.all_eq_true_iff_forall_mem] at h;intro u hu;exact h u (by simpa [ah,fH.cells] using hu)
theorem qI:(Tryz.prog.info? 39).map (fun i=>(i.zero,i.size,i.bytes))=some (some (.agg (ah bz (.slice none 0 0))),68,112):=by kernel_rfl
section
variable {ops:Array Oper} {rest:List Oper} {o:Oper} {a:Act} {Q:Exit→Act→World→Prop} {w:World}
theorem vM (hgd:o.guard=none) (x:Operand) (ho:o.op= .buildSlice 32 1 #[(0,x)]) (cs:Array Value) (hcs:cs.size=68)
  (hx:a.eval x= .agg cs) (h:wpList Tryz.prog ops Q rest (a.put o.dst (.slice (some ⟨w.heap.size,0,none⟩) 1 1)) (w.alloc (.cells cs 39))):wpList Tryz.prog ops Q (o::rest) a w:=by
 obtain ⟨i0,hi,hz0,hz1,hz2⟩:=info_parts qI;refine wpList_buildSlice hgd 32 39 1 _ ho cs i0 (.agg (ah bz (.slice none 0 0))) Tryz.underlying32 hi hz0 (by rw [hz1];decide) (by rw [hz1];decide) ?_ h;rw [hz1];simp only [List.map_toArray,List.map_cons,List.map_nil,hx];have h:=Go.Great.fill_whole (s:=68) (by omega) [.agg cs] ((Array.range (1*68)).map ((Value.agg (ah bz (.slice none 0 0))).cells[· %(Value.agg (ah bz (.slice none 0 0))).cells.size]!)) (fun v hv=>by simp at hv;subst hv;exact hcs) (by simp);have e:([Value.agg cs].flatMap fun v=>v.cells.toList).toArray=cs:=by simp [Value.cells]
 rw [e] at h;exact h
theorem qG {P:Program} (ty:TypeId) {n:Nat} {x:Array (Nat×Operand)} {d:Option Tmp} {t:TypeId} {pos:String} {af:Array Edge} {g:Option (Nat×Bool)} (h:wpList P ops Q (⟨d, .buildSlice ty n x,t,pos,af,g⟩::rest) a w):wpList P ops Q (⟨d, .buildSlice ty n x,t,pos,af,g⟩::rest) a w:=h
end
structure nU where
 Ci:UInt8
 key:List UInt8
 A:Option Addr
 c:Nat
 its:List Hl
def nU.cells (r:nU):List Value:=Extern.Stop.cell r.Ci::(ay r.key++ [.slice r.A r.its.length r.c])
theorem nU.len (r:nU) (h:r.key.length=32):r.cells.length=34:=by simp [nU.cells,ay,h]
structure uN (w:World) (B:Nat) (r:nU):Prop where
 key:r.key.length=32
 len:r.its.length≤9223372036854775807
 row:az w B r.A (r.its.flatMap fun x=>x.cells.toList)
 each:∀x∈r.its,CS w B x
theorem uN.keep {w w':World} {B:Nat} {r:nU} (h:uN w B r) (hb:Below B w w'):uN w' B r:=⟨h.key,h.len,h.row.keep hb,fun v hv=>(h.each v hv).keep hb⟩
theorem uN.more {w:World} {B B':Nat} {r:nU} (h:uN w B r) (hB:B≤B'):uN w B' r:=⟨h.key,h.len,h.row.more hB,fun v hv=>(h.each v hv).more hB⟩
theorem XK {W:World} {b:Nat} {r:nU} (h:oL W b r.cells.toArray):W.rangeAt b 1 (ay r.key):=fun j v hv=>by
 rw [h.2 (1+j)];unfold nU.cells;have hj:=(iT.1 hv).1;rw [List.getElem?_toArray,Nat.add_comm 1 j,List.getElem?_cons_succ,List.getElem?_append_left hj];exact hv
theorem Ob (r:nU) (h:r.key.length=32):r.cells.toArray[33]? =some (.slice r.A r.its.length r.c):=by
 unfold nU.cells;rw [List.getElem?_toArray,show (33:Nat)=32+1 from rfl,List.getElem?_cons_succ,List.getElem?_append_right (by simp [ay,h])];simp [ay,h]
theorem LV.of2 {lo lo' B:Nat} {v:Value} {W:World} {A:Option Addr} {cs:List Value} (h:az W B A cs) (hB:B≤W.heap.size) (h2:rJ lo' A cs) (hlo:lo≤lo') (hv:∀b,lo'≤b→b<B→some b≠v.ownBlock):LV lo v W A cs:=by
 rcases h with h|⟨b,off,e,hb,hc⟩
 ·exact .inl h
 ·rcases h2 with h2|⟨b2,wJ,e2,hl⟩
  ·exact .inl h2
  ·rw [e] at e2;injection e2 with e2;injection e2 with e3 e4;subst e3;exact .inr ⟨b,off,e,by omega,by omega,hv b hl hb,hc⟩
theorem iO.of {lo lo' B:Nat} {v:Value} {W:World} {y:fH} (h:jB W B y) (hB:B≤W.heap.size) (h2:uO lo' y) (hlo:lo≤lo') (hv:∀b,lo'≤b→b<B→some b≠v.ownBlock):iO lo v W y:=
 ⟨.of2 h.aG.row hB h2.1 hlo hv,fun z hz=>⟨.of2 (h.aG.each z hz).aj hB (h2.2 z hz).1 hlo hv, .of2 (h.aG.each z hz).rules hB (h2.2 z hz).2.1 hlo hv, .of2 (h.aG.each z hz).trans hB (h2.2 z hz).2.2.1 hlo hv, .of2 (h.aG.each z hz).ax hB (h2.2 z hz).2.2.2 hlo hv⟩⟩
theorem LV.wG {lo lo':Nat} {v:Value} {W:World} {A:Option Addr} {cs:List Value} (h:LV lo v W A cs) (hl:lo'≤lo):LV lo' v W A cs:=by
 rcases h with h|⟨b,off,h1,h2,h3⟩
 ·exact .inl h
 ·exact .inr ⟨b,off,h1,Nat.le_trans hl h2,h3⟩
theorem LV.vary {lo:Nat} {v v':Value} {W:World} {A:Option Addr} {cs:List Value} (h:LV lo v W A cs) (hv:∀b,lo≤b→b<W.heap.size→some b≠v'.ownBlock):LV lo v' W A cs:=by
 rcases h with h|⟨b,off,h1,h2,h3,h4,h5⟩
 ·exact .inl h
 ·exact .inr ⟨b,off,h1,h2,h3,hv b h2 h3,h5⟩
theorem iO.vary {lo lo':Nat} {v v':Value} {W:World} {y:fH} (h:iO lo v W y) (hl:lo'≤lo) (hv:∀b,lo≤b→b<W.heap.size→some b≠v'.ownBlock):iO lo' v' W y:=
 ⟨(h.1.vary hv).wG hl,fun z hz=>⟨((h.2 z hz).1.vary hv).wG hl,((h.2 z hz).2.1.vary hv).wG hl,((h.2 z hz).2.2.1.vary hv).wG hl,((h.2 z hz).2.2.2.vary hv).wG hl⟩⟩
theorem iO.low {lo lo':Nat} {v:Value} {W:World} {y:fH} (h:iO lo v W y) (hl:lo'≤lo):uO lo' y:=⟨h.1.low hl,fun z hz=>⟨(h.2 z hz).1.low hl,(h.2 z hz).2.1.low hl,(h.2 z hz).2.2.1.low hl,(h.2 z hz).2.2.2.low hl⟩⟩
structure TbF (y:fH):Prop where
 made:Gy y.t
 names:y.t.aG=y.zs.map (·.e)
 prev:y.t.prev.length=32
 dQ:y.t.dQ.length=32
theorem TbF.size {y:fH} (h:TbF y):y.cells.length=68:=by
 have:=bF y.t (.slice y.A y.zs.length y.c) h.prev h.dQ;simpa [ah,fH.cells] using this
theorem TbF.at {y:fH} (h:TbF y) {lo:Nat} {v:Value} {W:World} (hm:iO lo v W y):jB W W.heap.size y:=⟨h.names,h.prev,h.dQ,⟨hm.1.at,fun z hz=>(hm.2 z hz).at⟩⟩
structure xw (w:World) (rc:Array Value) (k c:Nat) (A:Option Addr) (ts:List fH) (W:World):Prop where
 it:AV w.heap.size 27 rc W
 lo:Below w.heap.size w W
 own:W.ownsRow (w.heap.size+1) 39 68 (.slice A k c) k (ts.flatMap fH.cells)
 mem:∀y∈ts,iO (w.heap.size+1) (.slice A k c) W y
 each:∀y∈ts,TbF y
section
variable {w W W':World} {rc:Array Value} {k c:Nat} {A:Option Addr} {ts:List fH}
theorem xw.step (h:xw w rc k c A ts W) (ho:W'.os=W.os) (htp:W'.tape=W.tape) (hou:W'.output=W.output) (hs:W.heap.size≤W'.heap.size) (hb:∀b,b<W.heap.size→W'.heap[b]? =W.heap[b]?):xw w rc k c A ts W':=
 have hB:Below W.heap.size W W':=⟨ho,htp,hou,hs,hb⟩
 ⟨h.it.below hB,ai h.lo hB,own_below h.own hB,fun y hy=>(h.mem y hy).keep hs fun b _ h2 h3=>⟨hb b h2,h3⟩,h.each⟩
theorem xw.grow (h:xw w rc k c A ts W) (hb:Below W.heap.size W W'):xw w rc k c A ts W':=h.step hb.os hb.tape hb.output hb.size hb.block
theorem xw.drew (h:xw w rc k c A ts W):xw w rc k c A ts W.drew:=h.grow ((Below.refl _ W).drew)
theorem xw.lt (h:xw w rc k c A ts W):w.heap.size<W.heap.size:=h.it.lt
theorem xw.chain (h:xw w rc k c A ts W):jT W W.heap.size A ts:=⟨az.dO h.own,fun y hy=>(h.each y hy).at (h.mem y hy)⟩
theorem xw.qh (h:xw w rc k c A ts W):∀b,W.heap.size≤b→some b≠(Value.slice A k c).ownBlock:=fun b hb e=>by
 have:=World.ownsRow.lt h.own b e.symm;omega
theorem xw.add {Wb w6:World} {gg cap:Nat} {y:fH} (h:xw w rc k c A ts W) (hy:iO (w.heap.size+1) (.slice A k c) W y) (hf:TbF y) (Fb:Wb=W.alloc (.cells y.cells.toArray 39))
  (hown:w6.ownsRow (w.heap.size+1) 39 68 (.slice (some ⟨gg,0,none⟩) (k+1) cap) (k+1) (ts.flatMap fH.cells++y.cells)) (hg:Wb.grownBy w6 (Value.slice A k c).ownBlock) (hat:(Value.slice A k c).ownBlock=some gg∨gg=Wb.heap.size):
  xw w rc (k+1) cap (some ⟨gg,0,none⟩) (ts++ [y]) w6:=by
 have hsb:Wb.heap.size=W.heap.size+1:=by rw [Fb];simp
 have hlt:=h.lt;have hs6:W.heap.size≤w6.heap.size:=by have:=hg.size;omega
 have hbl:∀b,b<W.heap.size→some b≠(Value.slice A k c).ownBlock→w6.heap[b]? =W.heap[b]? :=fun b hb hn=>
  (hg.block b (by omega) hn).trans (by rw [Fb];exact Below.heap_alloc W _ b hb)
 have hlow:∀b,b<w.heap.size+1→some b≠(Value.slice A k c).ownBlock:=dZ h.own;have hmm:∀b,w.heap.size+1≤b→b<W.heap.size→some b≠(Value.slice A k c).ownBlock→w6.heap[b]? =W.heap[b]? ∧some b≠(Value.slice (some ⟨gg,0,none⟩) (k+1) cap).ownBlock:=fun b h1 h2 h3=>by
  refine ⟨hbl b h2 h3,fun e=>?_⟩;have e2:b=gg:=by simpa [Value.ownBlock] using e
  rcases hat with e3|e3
  ·exact h3 (by rw [e2];exact e3.symm)
  ·omega
 have h1:Below w.heap.size w Wb:=by rw [Fb];exact ai h.lo (ag W _)
 have hob:Wb.ownsRow (w.heap.size+1) 39 68 (.slice A k c) k (ts.flatMap fH.cells):=by rw [Fb];exact own_below h.own (ag W _)
 refine ⟨⟨(hbl _ (by omega) (hlow _ (by omega))).trans h.it.var⟩,dm h1 (aK hob (by omega)) (by omega) hg,by simpa using hown,fun y' hy'=>?_,fun y' hy'=>?_⟩
 ·rcases List.mem_append.1 hy' with h1|h1
  ·exact (h.mem y' h1).keep hs6 hmm
  ·obtain rfl:=List.mem_singleton.1 h1;exact hy.keep hs6 hmm
 ·rcases List.mem_append.1 hy' with h1|h1
  ·exact h.each y' h1
  ·obtain rfl:=List.mem_singleton.1 h1;exact hf
end
def xu (w:World) (r:nU) (ib io n k:Nat) (x:Hl) (W:World):Prop:=
 W.cell? ⟨w.heap.size,0,none⟩=some (.int .u8 (r.Ci.toNat:Int))∧W.cell? ⟨w.heap.size,33,none⟩=some (.slice (some ⟨ib,io,none⟩) n r.c)∧W.rangeAt w.heap.size 1 (ay r.key)∧W.rangeAt ib (io+k*2) x.cells.toList
theorem xu.of {w W:World} {r:nU} {ib io n k:Nat} {x:Hl} (hk:r.key.length=32) (hn:r.its.length=n) (hA:r.A=some ⟨ib,io,none⟩) (hit:AV w.heap.size 27 r.cells.toArray W) (hlo:Below w.heap.size w W) (hr:w.rangeAt ib (io+k*2) x.cells.toList) (hb:ib<w.heap.size):xu w r ib io n k x W:=
 ⟨hit.cell 0,by rw [hit.cell 33,Ob r hk,hn,hA],XK hit.kz,aU hr hlo hb⟩
theorem Eh (vs:List CV) (k:Nat) (e:Ze) (h:(wI vs)[k]? =some e):k<3∧∃v:CV,e=⟨aS k,jq v.x⟩:=by
 unfold wI at h;rw [List.getElem?_mapIdx] at h;cases hv:(vs.take 3)[k]? with
 |none=>rw [hv] at h;cases h
 |some v=>
  rw [hv] at h;have hk:=(iT.1 hv).1;rw [List.length_take] at hk;injection h with h;exact ⟨by omega,v,h.symm⟩
theorem PH (vs:List CV):(wI vs).length≤3:=by
 unfold wI;rw [List.length_mapIdx,List.length_take];omega
theorem Jf {n:Nat} {Ci:UInt8} {x:Hl} {y:fH} (hn:n≤4) (h1:y.t.bV=(Ci.toNat:Int)%16) (h2:y.t.version=(n:Int)+1) (h3:y.t.aO=(x.wd.toNat:Int)%((n:Int)+1)) (h4:n=0→y.t.prev=bU) (h5:y.t.aG=wI x.vs):Gy y.t:=by
 have hb:=gy Ci;have hw1:0≤(x.wd.toNat:Int)%((n:Int)+1):=Int.emod_nonneg _ (by omega);have hw2:(x.wd.toNat:Int)%((n:Int)+1)<(n:Int)+1:=Int.emod_lt_of_pos _ (by omega);refine ⟨by rw [h1];omega,by rw [h2];omega,by rw [h3,h2];exact ⟨hw1,hw2⟩,fun h=>h4 (by rw [h2] at h;omega),by rw [h5];exact PH _,fun e he=>?_,fun k e he=>?_⟩
 ·rw [h5] at he;obtain ⟨k,hk⟩:=List.getElem?_of_mem he;obtain ⟨_,v,rfl⟩:=Eh _ _ _ hk;exact PD v.x
 ·rw [h5] at he;obtain ⟨_,v,rfl⟩:=Eh _ _ _ he;rfl
theorem Gy.sealed {t:Tb} (h:Gy t) (d:List UInt8):Gy {t with dQ:=d}:=⟨h.bV,h.version,h.aO,h.first,h.num,h.aG,h.names⟩
end Go.Proofs.YtbaehbbonkljpaaGreat
