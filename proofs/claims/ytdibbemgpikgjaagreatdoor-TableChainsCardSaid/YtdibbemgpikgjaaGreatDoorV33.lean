/- The texts Oh, Oi, Oj, Ko, Kp, Kq, Oka, Kr, Kt, Ky, in this order. -/
import Derived.Test.YtdibbemgpikgjaaGreatDoorV00
import Derived.Test.YtdibbemgpikgjaaGreatDoorVA0
import Derived.Test.YtdibbemgpikgjaaGreatDoorV04
import Derived.Test.YtdibbemgpikgjaaGreatDoorV05
import Derived.Test.YtdibbemgpikgjaaGreatDoorV12
import Derived.Test.YtdibbemgpikgjaaGreatDoorV14
import Derived.Test.YtdibbemgpikgjaaGreatDoorV16
import Derived.Test.YtdibbemgpikgjaaGreatDoorV19
import Derived.Test.YtdibbemgpikgjaaGreatDoorV23
import Derived.Test.YtdibbemgpikgjaaGreatDoorV31
import Derived.Test.YtdibbemgpikgjaaGreatDoorV32
namespace Go.Proofs.YtdibbemgpikgjaaGreatDoor
open Go Go.RowKit
theorem tabZ:(Tryz.prog.info? 37).map (fun i=>(i.zero,i.size))=some (some (.agg (ai bJ (.slice none 0 0))),(ai bJ (.slice none 0 0)).size):=by kernel_rfl
theorem LV.Vy {lo lo':Nat} {v:Value} {W:World} {A:Option Addr} {cs:List Value} (h:CO lo' W A cs) (hl:lo≤lo') (hv:∀b,lo'≤b→b<W.heap.size→some b≠v.ownBlock):LV lo v W A cs:=
 h.imp id fun ⟨b,off,h1,h2,h3,h5⟩=>⟨b,off,h1,by omega,h3,hv b h2 h3,h5⟩
theorem eH.Vy {lo lo':Nat} {v:Value} {W:World} {y:di} (h:Ov lo' W y) (hl:lo≤lo') (hv:∀b,lo'≤b→b<W.heap.size→some b≠v.ownBlock):eH lo v W y:=
 ⟨.Vy h.aS.row hl hv,fun z hz=>⟨.Vy (h.aS.each z hz).au hl hv, .Vy (h.aS.each z hz).rules hl hv, .Vy (h.aS.each z hz).trans hl hv, .Vy (h.aS.each z hz).aB hl hv⟩⟩
def wX (y:di):Tb×List Ze:=(y.t,y.zs.map (·.e))
structure Xe (y:di):Prop where
 names:y.t.aS=y.zs.map (·.e)
 prev:y.t.prev.length=32
 bG:y.t.bG.length=32
theorem Xe.size {y:di} (h:Xe y):y.cells.length=68:=by
 have:=bn y.t (.slice y.A y.zs.length y.c) h.prev h.bG
 simpa [ai,di.cells] using this
structure Ig (w:World) (tc:Array Value) (k c:Nat) (A:Option Addr) (ts:List di) (W:World):Prop where
 bx:AV (w.heap.size+1) 37 tc W
 lo:Below w.heap.size w W
 own:W.ownsRow (w.heap.size+2) 37 68 (.slice A k c) k (ts.flatMap di.cells)
 mem:∀y∈ts,eH (w.heap.size+2) (.slice A k c) W y
 each:∀y∈ts,Xe y
section
variable {w W W':World} {tc:Array Value} {k c:Nat} {A:Option Addr} {ts:List di}
theorem Ig.grow (h:Ig w tc k c A ts W) (hB:Below W.heap.size W W'):Ig w tc k c A ts W':=
 ⟨h.bx.below hB,ah h.lo hB,own_below h.own hB,fun y hy=>(h.mem y hy).keep hB.size fun b _ h2 h3=>⟨hB.block b h2,h3⟩,h.each⟩
theorem Ig.lt (h:Ig w tc k c A ts W):w.heap.size+1<W.heap.size:=h.bx.lt
theorem Ig.chain (h:Ig w tc k c A ts W):gW W W.heap.size A ts:=⟨az.dW h.own,fun y hy=>⟨(h.each y hy).names,(h.each y hy).prev,(h.each y hy).bG,⟨(h.mem y hy).1.at,fun z hz=>((h.mem y hy).2 z hz).at⟩⟩⟩
theorem Ig.nY (h:Ig w tc k c A ts W):∀b,W.heap.size≤b→some b≠(Value.slice A k c).ownBlock:=fun b hb e=>by
 have:=World.ownsRow.lt h.own b e.symm
 omega
theorem Ig.add {Wb w6:World} {gg cap:Nat} {y:di} (h:Ig w tc k c A ts W) (hy:eH (w.heap.size+2) (.slice A k c) W y) (hf:Xe y) (yY:Wb=W.alloc (.cells y.cells.toArray 37))
  (hown:w6.ownsRow (w.heap.size+2) 37 68 (.slice (some ⟨gg,0,none⟩) (k+1) cap) (k+1) (ts.flatMap di.cells++y.cells)) (hg:Wb.grownBy w6 (Value.slice A k c).ownBlock) (hat:(Value.slice A k c).ownBlock=some gg∨gg=Wb.heap.size):
  Ig w tc (k+1) cap (some ⟨gg,0,none⟩) (ts++ [y]) w6:=by
 have hsb:Wb.heap.size=W.heap.size+1:=by rw [yY];simp
 have hlt:=h.lt
 have hs6:W.heap.size≤w6.heap.size:=by have:=hg.size;omega
 have hbl:∀b,b<W.heap.size→some b≠(Value.slice A k c).ownBlock→w6.heap[b]? =W.heap[b]? :=fun b hb hn=>
  (hg.block b (by omega) hn).trans (by rw [yY];exact Below.heap_alloc W _ b hb)
 have hlow:∀b,b<w.heap.size+2→some b≠(Value.slice A k c).ownBlock:=dN h.own
 have hmm:∀b,w.heap.size+2≤b→b<W.heap.size→some b≠(Value.slice A k c).ownBlock→w6.heap[b]? =W.heap[b]? ∧some b≠(Value.slice (some ⟨gg,0,none⟩) (k+1) cap).ownBlock:=fun b h1 h2 h3=>by
  refine ⟨hbl b h2 h3,fun e=>?_⟩
  have e2:b=gg:=by simpa [Value.ownBlock] using e
  rcases hat with e3|e3
  ·exact h3 (by rw [e2];exact e3.symm)
  ·omega
 have h1:Below w.heap.size w Wb:=by rw [yY];exact ah h.lo (ag W _)
 have hob:Wb.ownsRow (w.heap.size+2) 37 68 (.slice A k c) k (ts.flatMap di.cells):=by rw [yY];exact own_below h.own (ag W _)
 refine ⟨⟨(hbl _ (by omega) (hlow _ (by omega))).trans h.bx.var⟩,bU h1 (bu hob (by omega)) (by omega) hg,by simpa using hown,fun y' hy'=>?_,fun y' hy'=>?_⟩
 ·rcases List.mem_append.1 hy' with h1|h1
  ·exact (h.mem y' h1).keep hs6 hmm
  ·obtain rfl:=List.mem_singleton.1 h1
   exact hy.keep hs6 hmm
 ·rcases List.mem_append.1 hy' with h1|h1
  ·exact h.each y' h1
  ·obtain rfl:=List.mem_singleton.1 h1
   exact hf
end
theorem JF (m base:Nat) (hm:m≤1000) (W:World) (hb:base≤W.heap.size):∃w',(Instr.makeSlice 28 (.int .i64 0) (.int .i64 ((m:Int)+1))).run Tryz.prog W= .ok (.slice (some ⟨W.heap.size,0,none⟩) 0 (m+1)) w'∧w'.ownsRow base 37 68 (.slice (some ⟨W.heap.size,0,none⟩) 0 (m+1)) 0 []∧Below W.heap.size W w':=by
 obtain ⟨i,hi,hz,hs,hby⟩:=info_parts zY
 obtain ⟨w',h1,h2,h3⟩:=run_make_own (P:=Tryz.prog) W base 28 37 i (.agg (ai bJ (.slice none 0 0))) 68 Tryz.underlying28 hi hz hs .i64 .i64 (m+1) (by rw [hby];omega) (by unfold maxLen;omega) hb
 exact ⟨w',by rw [show ((m:Int)+1)=((m+1:Nat):Int) by omega];exact h1,h2,⟨h3.os,h3.tape,h3.output,h3.size,fun k hk=>h3.block k hk (by simp)⟩⟩
def YN (w:World) (n:Nat) (xs:List di) (e:Ending) (w':World):Prop:=
 ∃A c ys,e= .returned (.tuple #[.slice A n c,I 0])∧n≤c∧ys.map wX=xs.map wX∧gW w' w'.heap.size A ys∧Below w.heap.size w w'
theorem Ub {lo e size n c k:Nat} {w:World} {A:Option Addr} {cs:List Value} (h:w.ownsRow lo e size (.slice A n c) k cs):n≤c:=by
 rcases h.2 with ⟨hv,hn⟩|⟨g,cap,cur,hv,_,_,h1,_⟩
 ·injection hv with _ e1 e2
  omega
 ·injection hv with _ e1 e2
  omega
def YM (w:World) (tc:Array Value) (m:Nat) (ts:List di) (o i:Value) (wr:World):Prop:=
 ∃(k:Nat) (A:Option Addr) (c:Nat) (ys:List di),k≤m∧o= .slice A k c∧i=I k∧ys.map wX=(ts.take k).map wX∧Ig w tc k c A ys wr
set_option maxRecDepth 10000 in
set_option maxHeartbeats 1000000 in
theorem FZ (KR:List Int) (hK:KR.length=64) (w:World) (hG:fA w 0 (aA KR)) (hw1:0<w.heap.size) (key:List UInt8) (hk:key.length=32) (u:di) (hu:oI u) (hA:jF w w.heap.size u)
  (C:Option Addr) (m cc:Nat) (ts:List di) (hm:ts.length=m) (hm1:m<64) (hC:gW w w.heap.size C ts) (hT:∀x∈ts,oI x) (PY:fH KR key ts u.t=0):
  Calls Tryz.prog 18 #[.slice C m cc, .agg (cellsB key), .agg (ai u.t (.slice u.A u.zs.length u.c))] w (YN w (m+1) (ts++ [u])):=by
 have HU:=ae hu
 have HUW:Hid (Xe u):=ae ⟨hA.names,hA.prev,hA.bG⟩
 have U4:=ae (gq key hk)
 have HAD:Hid (∀W,Below w.heap.size w W→Calls Tryz.prog 28 #[.slice C m cc, .agg (cellsB key), .agg (ai u.t (.slice u.A u.zs.length u.c))] W (Gives (I 0) W)):=ae fun W hb=>
  uG KR hK W (hG.via hb hw1) (Nat.lt_of_lt_of_le hw1 hb.size) key hk u.t u.A u.zs.length u.c u.zs hu.1 hA.names rfl (hA.aS.grow hb) hu.2 C m cc ts hm hm1 (hC.grow hb) hT 0 PY
 have jE:Hid (∀x:di,jF w w.heap.size x→oI x→∀W,Below w.heap.size w W→Calls Tryz.prog 29 #[.agg (ai x.t (.slice x.A x.zs.length x.c))] W (Yl W x)):=ae fun x hx hg W hb=>
  qw x x.zs.length W rfl (by have:=hg.1.num;rw [hx.names,List.length_map] at this;omega) (fun y hy=>(hg.1.good _ (by rw [hx.names];exact List.mem_map_of_mem hy)).1.len) (hx.grow hb)
 have HCU:=ae (jE.out u hA hu)
 have H0:=ae (V2.start w 23 (cellsB key) 37 (ai u.t (.slice u.A u.zs.length u.c)))
 have HSU:Hid ((Tryz.prog.info? 37).map (·.size)=some (ai u.t (.slice u.A u.zs.length u.c)).size):=ae (bV u.t _ hA.prev hA.bG)
 have jw:=ae hm
 have HC:=ae hC
 have HT:=ae hT
 have SB:=ae (nC hC)
 obtain ⟨i0,hi,hq0,hq1,hq2⟩:=info_parts zY
 have HI:=ae hi
 have yt:=ae hq0
 have oJ:=ae hq1
 have lH:=ae hq2
 clear hi hq0 hq1 hq2 hu hA hk hK hG hm hC hT PY
 go_enter Tryz.func18,Tryz.ntmps18
 go_upto_region 1 with fail
 generalize (w.alloc (.cells (cellsB key) 23)).alloc (.cells (ai u.t (.slice u.A u.zs.length u.c)) 37)=W0 at H0 ⊢
 go_wp2_with (first
  |((with_reducible refine gU 23 ?_);go_must (refine aX rfl _ _ rfl w.heap.size rfl (cellsB key) H0.out.s.jB _ Tryz.underlying23 rfl U4.out ?_))
  |((with_reducible refine gU 37 ?_);go_must (refine aX rfl _ _ rfl (w.heap.size+1) rfl (ai u.t (.slice u.A u.zs.length u.c)) H0.out.r.jB _ Tryz.underlying37 rfl HSU.out ?_)))
 refine (HAD.out W0 H0.out.lo).mono ?_
 rintro e w2 ⟨rfl,b2⟩
 have h2:=H0.out.grow b2
 have hw2:=h2.r.lt
 obtain ⟨w3,hr3,ho3,hb3⟩:=JF m (w.heap.size+2) (by omega) w2 (by omega)
 have o9:Hid (Ig w (ai u.t (.slice u.A u.zs.length u.c)) 0 (m+1) (some ⟨w2.heap.size,0,none⟩) [] w3):=ae ⟨(h2.grow hb3).r,(h2.grow hb3).lo,ho3,(fun _ h=>nomatch h),(fun _ h=>nomatch h)⟩
 clear h2 b2 H0 HAD ho3 hb3 hw2
 go_wp2_with fail
 clear hr3
 obtain ⟨g0,hg0⟩:∃g0,w2.heap.size=g0:=⟨_,rfl⟩
 rw [hg0] at o9 ⊢
 clear hg0
 go_loopw [9,25] (fun o i wr=>YM w (ai u.t (.slice u.A u.zs.length u.c)) m ts o i wr) (fun _ i _=>m - (intOf i).toNat)
 case atStart=>exact ⟨0,_,_,[],Nat.zero_le _,rfl,rfl,rfl,o9.out⟩
 case round=>
  obtain ⟨k,A',c',ys,hk,rfl,rfl,hys,hp⟩:=hrel
  have HP:=ae hp
  have HYS:=ae hys
  have hlt0:=hp.lt
  clear hp hys o9
  by_cases hlt:k<m
  ·have hkl:k<ts.length:=by rw [jw.out];exact hlt
   obtain ⟨x,hx⟩:∃x,ts[k]? =some x:=⟨_,List.getElem?_eq_getElem hkl⟩
   have hxm:=List.mem_of_getElem? hx
   obtain ⟨cb,co,rfl,hcb,hTA⟩:∃b off,C=some ⟨b,off,none⟩∧b<w.heap.size∧mP w b off ts:=by
    rcases SB.out with h1|h1
    ·omega
    ·exact h1
   have hxa:=HC.out.each x hxm
   have HX:=ae hx
   have HXC:=ae (jE.out x hxa (HT.out x hxm))
   have MJ:Hid (wr.rangeAt cb (co+k*68) x.cells):=ae (aO (hTA k x hx).1 HP.out.lo hcb)
   have vw:Hid ((Tryz.prog.info? 37).map (·.size)=some x.cells.length):=ae (by rw [(hTA k x hx).2];kernel_rfl)
   have HXI:Hid ((Tryz.prog.info? 37).map (·.size)=some x.cells.toArray.size):=ae (bV x.t _ hxa.prev hxa.bG)
   have HXZ:Hid ((ai bJ (.slice none 0 0)).size=x.cells.toArray.size):=ae ((bn bJ _ rfl rfl).trans (bn x.t (.slice x.A x.zs.length x.c) hxa.prev hxa.bG).symm)
   have YA:Hid (x.cells.toArray.all (·.oneCell')=true):=ae (bf _ _ _ _)
   have Ih:=ae (heap_alloc_last wr (.cells (ai bJ (.slice none 0 0)) 37))
   have OA:Hid (AV wr.heap.size 37 x.cells.toArray ((wr.alloc (.cells (ai bJ (.slice none 0 0)) 37)).setRow wr.heap.size x.cells.toArray)):=ae ⟨setRow_heap _ _ _ _ _ _ Ih.out⟩
   have Zf:Hid (Below wr.heap.size wr ((wr.alloc (.cells (ai bJ (.slice none 0 0)) 37)).setRow wr.heap.size x.cells.toArray)):=ae (aF (ag wr _) (Nat.le_refl _) _)
   have i1:(0:Int)≤(k:Int):=by omega
   have i2:(k:Int)<(m:Int):=by omega
   clear hx hxm hTA hxa hkl
   go_upto_region 8 with (first
    |((with_reducible refine gU 37 ?_);go_must (refine bZ rfl _ _ rfl cb (co+k*68) rfl x.cells MJ.out _ Tryz.underlying37 rfl vw.out ?_))
    |((with_reducible refine bP 37 ?_);go_must (refine aJ rfl _ rfl (ai bJ (.slice none 0 0)) tabZ ?_))
    |((with_reducible refine gV 37 ?_);go_must (refine wpList_store_row rfl _ _ _ rfl wr.heap.size x.cells.toArray rfl rfl 37 (ai bJ (.slice none 0 0)) Ih.out HXI.out HXZ.out YA.out ?_)))
   go_wp2_with ((with_reducible refine gU 37 ?_);go_must (refine aX rfl _ _ rfl wr.heap.size rfl x.cells.toArray OA.out.jB _ Tryz.underlying37 rfl HXI.out ?_))
   refine (HXC.out _ (ah HP.out.lo Zf.out)).mono ?_
   rintro e w5 ⟨y,hy1,hy2,rfl,hy3,hb5⟩
   have Fe:Below wr.heap.size wr w5:=ah Zf.out hb5
   have Cj:=ae (HP.out.grow Fe)
   have SH:Hid (Xe y):=ae ⟨hy3.names,hy3.prev,hy3.bG⟩
   have CG:Hid (eH (w.heap.size+2) (.slice A' k c') w5 y):=ae (eH.Vy hy3 (by have:=Zf.out.size;omega) fun b h1 _=>HP.out.nY b (Nat.le_trans Zf.out.size h1))
   have OX:Hid (wX y=wX x):=ae (by unfold wX;rw [hy1,hy2])
   have TL:=Cj.out.lt
   clear hy1 hy2 hy3 hb5 Fe Zf OA Ih MJ
   go_wp2_with (first
  |((with_reducible refine C9 28 ?_);go_must (refine qh rfl _ rfl (ai y.t (.slice y.A y.zs.length y.c)) (bn y.t _ SH.out.prev SH.out.bG) rfl ?_))
  |(at_builtin;go_must (refine wpList_append_lies _ rfl _ _ 28 rfl (w.heap.size+2) 37 i0 (.agg (ai bJ (.slice none 0 0))) 68 112 Tryz.underlying28 HI.out yt.out oJ.out lH.out rfl (by decide) (.slice A' k c') k (ys.flatMap di.cells) rfl (own_below Cj.out.own (ag w5 _)) ⟨w5.heap.size,0,none⟩ 1 1 y.cells rfl SH.out.size (bI _ _ _ _ rfl) (LJ y) (by omega) (by unfold maxLen;omega) (by omega) (by simp;omega) _ rfl ?_;intro gg cap w6 hown6 hgrow6 dQ _;have HN:Hid (Ig w (ai u.t (.slice u.A u.zs.length u.c)) (k+1) cap (some ⟨gg,0,none⟩) (ys++ [y]) w6):=ae (Cj.out.add CG.out SH.out rfl hown6 hgrow6 dQ);clear hown6 hgrow6 dQ)))
   go_roundw
   case rel=>
    refine ⟨k+1,_,_,ys++ [y],by omega,rfl,by go_num,?_,HN.out⟩
    rw [List.map_append,HYS.out,List.take_add_one,HX.out,List.map_append]
    exact congrArg (_++ ·) (by simp [OX.out])
   case measure=>simp [intOf];omega
  ·have TK:k=m:=by omega
   have hlt':¬(k:Int)<(m:Int):=by omega
   have HKM:=ae TK
   clear TK hlt
   go_wp2_with ((with_reducible refine gU 37 ?_);go_must (refine aX rfl _ _ rfl (w.heap.size+1) rfl (ai u.t (.slice u.A u.zs.length u.c)) HP.out.bx.jB _ Tryz.underlying37 rfl HSU.out ?_))
   refine (HCU.out _ HP.out.lo).mono ?_
   rintro e w5 ⟨y,hy1,hy2,rfl,hy3,hb5⟩
   have Cj:=ae (HP.out.grow hb5)
   have SH:Hid (Xe y):=ae ⟨hy3.names,hy3.prev,hy3.bG⟩
   have CG:Hid (eH (w.heap.size+2) (.slice A' k c') w5 y):=ae (eH.Vy hy3 (by omega) fun b h1 _=>HP.out.nY b h1)
   have OX:Hid (wX y=wX u):=ae (by unfold wX;rw [hy1,hy2])
   have TL:=Cj.out.lt
   clear hy1 hy2 hy3 hb5
   go_wp2_with (first
  |((with_reducible refine C9 28 ?_);go_must (refine qh rfl _ rfl (ai y.t (.slice y.A y.zs.length y.c)) (bn y.t _ SH.out.prev SH.out.bG) rfl ?_))
  |(at_builtin;go_must (refine wpList_append_lies _ rfl _ _ 28 rfl (w.heap.size+2) 37 i0 (.agg (ai bJ (.slice none 0 0))) 68 112 Tryz.underlying28 HI.out yt.out oJ.out lH.out rfl (by decide) (.slice A' k c') k (ys.flatMap di.cells) rfl (own_below Cj.out.own (ag w5 _)) ⟨w5.heap.size,0,none⟩ 1 1 y.cells rfl SH.out.size (bI _ _ _ _ rfl) (LJ y) (by omega) (by unfold maxLen;omega) (by omega) (by simp;omega) _ rfl ?_;intro gg cap w6 hown6 hgrow6 dQ _;have HN:Hid (Ig w (ai u.t (.slice u.A u.zs.length u.c)) (k+1) cap (some ⟨gg,0,none⟩) (ys++ [y]) w6):=ae (Cj.out.add CG.out SH.out rfl hown6 hgrow6 dQ);clear hown6 hgrow6 dQ)))
   go_ret2
   refine ⟨_,_,ys++ [y],by rw [←HKM.out];rfl,by rw [←HKM.out];exact Ub HN.out.own,?_,HN.out.chain,HN.out.lo⟩
   rw [List.map_append,List.map_append,HYS.out,HKM.out,List.take_of_length_le (by rw [jw.out];exact Nat.le_refl _)]
   simp [OX.out]
set_option maxRecDepth 10000 in
set_option maxHeartbeats 1000000 in
theorem MN (KR:List Int) (hK:KR.length=64) (w:World) (hG:fA w 0 (aA KR)) (hw1:0<w.heap.size) (key:List UInt8) (hk:key.length=32) (u:di) (hu:oI u) (hA:jF w w.heap.size u)
  (C:Option Addr) (m cc:Nat) (ts:List di) (hm:ts.length=m) (hm1:m<64) (hC:gW w w.heap.size C ts) (hT:∀x∈ts,oI x) (r:Int) (hr:¬r=0) (PY:fH KR key ts u.t=r):
  Calls Tryz.prog 18 #[.slice C m cc, .agg (cellsB key), .agg (ai u.t (.slice u.A u.zs.length u.c))] w (Gives (.tuple #[.slice none 0 0,I r]) w):=by
 have U4:=ae (gq key hk)
 have HAD:Hid (∀W,Below w.heap.size w W→Calls Tryz.prog 28 #[.slice C m cc, .agg (cellsB key), .agg (ai u.t (.slice u.A u.zs.length u.c))] W (Gives (I r) W)):=ae fun W hb=>
  uG KR hK W (hG.via hb hw1) (Nat.lt_of_lt_of_le hw1 hb.size) key hk u.t u.A u.zs.length u.c u.zs hu.1 hA.names rfl (hA.aS.grow hb) hu.2 C m cc ts hm hm1 (hC.grow hb) hT r PY
 have H0:=ae (V2.start w 23 (cellsB key) 37 (ai u.t (.slice u.A u.zs.length u.c)))
 have HSU:Hid ((Tryz.prog.info? 37).map (·.size)=some (ai u.t (.slice u.A u.zs.length u.c)).size):=ae (bV u.t _ hA.prev hA.bG)
 clear hu hA hk hK hG hm hC hT PY
 go_enter Tryz.func18,Tryz.ntmps18
 go_upto_region 1 with fail
 generalize (w.alloc (.cells (cellsB key) 23)).alloc (.cells (ai u.t (.slice u.A u.zs.length u.c)) 37)=W0 at H0 ⊢
 go_wp2_with (first
  |((with_reducible refine gU 23 ?_);go_must (refine aX rfl _ _ rfl w.heap.size rfl (cellsB key) H0.out.s.jB _ Tryz.underlying23 rfl U4.out ?_))
  |((with_reducible refine gU 37 ?_);go_must (refine aX rfl _ _ rfl (w.heap.size+1) rfl (ai u.t (.slice u.A u.zs.length u.c)) H0.out.r.jB _ Tryz.underlying37 rfl HSU.out ?_)))
 refine (HAD.out W0 H0.out.lo).mono ?_
 rintro e w2 ⟨rfl,b2⟩
 have H2:=ae (H0.out.grow b2)
 clear b2 H0 HAD
 go_wp2_with fail
 go_ret2
 exact ⟨rfl,H2.out.lo⟩
end Go.Proofs.YtdibbemgpikgjaaGreatDoor
namespace Go.Proofs.YtdibbemgpikgjaaGreatDoor
open Go Go.RowKit
theorem az.pre {w:World} {B:Nat} {A:Option Addr} {cs ds:List Value} (h:az w B A (cs++ds)):az w B A cs:=by
 rcases h with h|⟨b,off,h1,h2,h3⟩
 ·exact .inl (by rw [List.length_append] at h;omega)
 ·exact .inr ⟨b,off,h1,h2,fun j u hu=>h3 j u (by rw [List.getElem?_append_left (List.getElem?_eq_some_iff.1 hu).1];exact hu)⟩
theorem gW.take {w:World} {B:Nat} {A:Option Addr} {ts:List di} (h:gW w B A ts) (k:Nat):gW w B A (ts.take k):=by
 refine ⟨az.pre (ds:=(ts.drop k).flatMap di.cells) ?_,fun x hx=>h.each x (List.mem_of_mem_take hx)⟩
 rw [←List.flatMap_append,List.take_append_drop]
 exact h.row
def CkF (KR:List Int) (key:List UInt8) (ts:List di) (r:Int):Prop:=
 (r=0∧∀k x,ts[k]? =some x→fH KR key (ts.take k) x.t=0)∨
 (¬r=0∧∃k x,ts[k]? =some x∧fH KR key (ts.take k) x.t=r∧∀j y,j<k→ts[j]? =some y→fH KR key (ts.take j) y.t=0)
def CkP (w:World) (KR:List Int) (key:List UInt8) (ts:List di) (e:Ending) (w':World):Prop:=∃r,e= .returned (I r)∧CkF KR key ts r∧Below w.heap.size w w'
structure Yk (w:World) (key:List UInt8) (W:World):Prop where
 bx:AV w.heap.size 23 (cellsB key) W
 lo:Below w.heap.size w W
theorem Yk.grow {w W W':World} {key:List UInt8} (h:Yk w key W) (hb:Below W.heap.size W W'):Yk w key W':=⟨h.bx.below hb,ah h.lo hb⟩
set_option maxRecDepth 10000 in
set_option maxHeartbeats 1000000 in
theorem Jf (KR:List Int) (hK:KR.length=64) (w:World) (hG:fA w 0 (aA KR)) (hw1:0<w.heap.size) (key:List UInt8) (hk:key.length=32)
  (C:Option Addr) (m cc:Nat) (ts:List di) (hm:ts.length=m) (hm1:m≤64) (hcc:m≤cc) (hC:gW w w.heap.size C ts) (hT:∀x∈ts,oI x):
  Calls Tryz.prog 8 #[.slice C m cc, .agg (cellsB key)] w (CkP w KR key ts):=by
 have HAD:Hid (∀k x,ts[k]? =some x→∀W,Below w.heap.size w W→Calls Tryz.prog 28 #[.slice C k cc, .agg (aj key).toArray, .agg x.cells.toArray] W (Gives (I (fH KR key (ts.take k) x.t)) W)):=ae fun k x hx W hb=>by
  have hkl:=(List.getElem?_eq_some_iff.1 hx).1
  have hxm:=List.mem_of_getElem? hx
  exact uG KR hK W (hG.via hb hw1) (Nat.lt_of_lt_of_le hw1 hb.size) key hk x.t x.A x.zs.length x.c x.zs (hT x hxm).1 (hC.each x hxm).names rfl ((hC.each x hxm).aS.grow hb) (hT x hxm).2 C k cc (ts.take k) (by rw [List.length_take];omega) (by omega) ((hC.take k).grow hb) (fun y hy=>hT y (List.mem_of_mem_take hy)) _ rfl
 have H0:Hid (Yk w key (w.alloc (.cells (cellsB key) 23))):=ae ⟨AV.new w _ _,ag w _⟩
 have HI2:Hid ((Tryz.prog.info? 23).map (·.size)=some (aj key).length):=ae (by have:=gq key hk;rw [this];simp [cellsB])
 have Bi:Hid ((aj key).length=32):=ae (by simp [aj,hk])
 have U9:Hid (Tryz.prog.underlying 23=some (.array 32 5)):=ae Tryz.underlying23
 have jw:=ae hm
 have HC:=ae hC
 have SB:=ae (nC hC)
 clear hK hG hk hm hC hT
 go_enter Tryz.func8,Tryz.ntmps8
 go_upto_region 1 with fail
 generalize w.alloc (.cells (cellsB key) 23)=W0 at H0 ⊢
 go_wp2_with fail
 go_loopw [10] (fun i wr=>∃k:Nat,k≤m∧i=I k∧(∀j y,j<k→ts[j]? =some y→fH KR key (ts.take j) y.t=0)∧Yk w key wr) (fun i _=>m - (intOf i).toNat)
 case atStart=>exact ⟨0,Nat.zero_le _,rfl,fun _ _ h=>absurd h (Nat.not_lt_zero _),H0.out⟩
 case round=>
  obtain ⟨k,hk,rfl,hz,hp⟩:=hrel
  have HP:=ae hp
  have HZ:=ae hz
  have hlt0:=hp.bx.lt
  clear hp hz H0
  by_cases hlt:k<m
  ·have hkl:k<ts.length:=by rw [jw.out];exact hlt
   obtain ⟨x,hx⟩:∃x,ts[k]? =some x:=⟨_,List.getElem?_eq_getElem hkl⟩
   have hxm:=List.mem_of_getElem? hx
   obtain ⟨cb,co,rfl,hcb,hTA⟩:∃b off,C=some ⟨b,off,none⟩∧b<w.heap.size∧mP w b off ts:=by
    rcases SB.out with h1|h1
    ·omega
    ·exact h1
   have hxa:=HC.out.each x hxm
   have HX:=ae hx
   have jd:=ae (HAD.out k x hx)
   have MJ:Hid (wr.rangeAt cb (co+k*68) x.cells):=ae (aO (hTA k x hx).1 HP.out.lo hcb)
   have vw:Hid ((Tryz.prog.info? 37).map (·.size)=some x.cells.length):=ae (by rw [(hTA k x hx).2];kernel_rfl)
   have HXL:=ae (hTA k x hx).2
   have HXI:Hid ((Tryz.prog.info? 37).map (·.size)=some x.cells.toArray.size):=ae (bV x.t _ hxa.prev hxa.bG)
   have HXZ:Hid ((ai bJ (.slice none 0 0)).size=x.cells.toArray.size):=ae ((bn bJ _ rfl rfl).trans (bn x.t (.slice x.A x.zs.length x.c) hxa.prev hxa.bG).symm)
   have YA:Hid (x.cells.toArray.all (·.oneCell')=true):=ae (bf _ _ _ _)
   have Ih:=ae (heap_alloc_last wr (.cells (ai bJ (.slice none 0 0)) 37))
   have OA:Hid (AV wr.heap.size 37 x.cells.toArray ((wr.alloc (.cells (ai bJ (.slice none 0 0)) 37)).setRow wr.heap.size x.cells.toArray)):=ae ⟨setRow_heap _ _ _ _ _ _ Ih.out⟩
   have HQ:=ae (HP.out.grow (aF (ag wr (.cells (ai bJ (.slice none 0 0)) 37)) (Nat.le_refl _) x.cells.toArray))
   have i1:(0:Int)≤(k:Int):=by omega
   have i2:(k:Int)<(m:Int):=by omega
   have i3:(k:Int)≤(cc:Int):=by omega
   have i4:¬(cc:Int)<(k:Int):=by omega
   clear hx hxm hTA hxa hkl
   go_wp2_with (first
    |((with_reducible refine gU 37 ?_);go_must (refine bZ rfl _ _ rfl cb (co+k*68) rfl x.cells MJ.out _ Tryz.underlying37 rfl vw.out ?_))
    |((with_reducible refine bP 37 ?_);go_must (refine aJ rfl _ rfl (ai bJ (.slice none 0 0)) tabZ ?_))
    |((with_reducible refine gV 37 ?_);go_must (refine wpList_store_row rfl _ _ _ rfl wr.heap.size x.cells.toArray rfl rfl 37 (ai bJ (.slice none 0 0)) Ih.out HXI.out HXZ.out YA.out ?_)))
   generalize (wr.alloc (.cells (ai bJ (.slice none 0 0)) 37)).setRow wr.heap.size x.cells.toArray=wq at OA HQ ⊢
   have HS:Hid (wq.drew.rangeAt w.heap.size 0 (aj key)∧wq.drew.rangeAt wr.heap.size 0 x.cells):=ae ⟨fun j v hv=>by rw [Nat.zero_add];exact (HQ.out.bx.cell j).trans (by simpa [cellsB] using hv),fun j v hv=>by rw [Nat.zero_add];exact (OA.out.cell j).trans (by simpa using hv)⟩
   have hud:=U9.out
   have hi2:=HI2.out
   have hi3:=vw.out
   have hl1:=Bi.out
   have hl2:=HXL.out
   refine wp_region_held_drew (S:=fun w'=>w'.rangeAt w.heap.size 0 (aj key)∧w'.rangeAt wr.heap.size 0 x.cells) (by kernel_rfl) HS.out (fun hH=>?_)
   refine aaf 0 ( .slice (some ⟨cb,co,none⟩) m cc) 15 rfl rfl hH (fun W hW=>by obtain ⟨_,_⟩:=hW;go_simp) ?_
   refine ax ?_
   refine aaf 1 (I k) 16 rfl rfl hH (fun W hW=>by obtain ⟨_,_⟩:=hW;go_simp) ?_
   refine ax ?_
   refine aaf 2 ( .slice (some ⟨cb,co,none⟩) k cc) 17 rfl rfl hH (fun W hW=>by obtain ⟨_,_⟩:=hW;go_simp) ?_
   refine ax ?_
   refine aag 3 _ 18 rfl rfl hH (yieldsIf_load_mid (by rfl) _ _ rfl w.heap.size 0 rfl (aj key) _ (fun _ hW=>hW.1) hud rfl hi2) ?_
   refine ax ?_
   refine aag 4 _ 19 rfl rfl hH (yieldsIf_load_mid (by rfl) _ _ rfl wr.heap.size 0 rfl x.cells _ (fun _ hW=>hW.2) Tryz.underlying37 rfl hi3) ?_
   refine ax ?_
   clear hH
   refine aV 5 (fun K hK=>?_)
   go_simp
   go_at_call 28
   refine (jd.out wq.drew HQ.out.lo.drew).mono ?_
   obtain ⟨r,hr⟩:∃r,fH KR key (ts.take k) x.t=r:=⟨_,rfl⟩
   rw [hr]
   have HR:=ae hr
   clear hr
   rintro e w3 ⟨rfl,hb3⟩
   have yR:Hid (Yk w key w3):=ae (HQ.out.grow (Below.trans ((Below.refl _ wq).drew) hb3))
   have jy:Hid (w3.rangeAt w.heap.size 0 (aj key)∧w3.rangeAt wr.heap.size 0 x.cells):=ae ⟨aO HS.out.1 hb3 HQ.out.bx.lt,aO HS.out.2 hb3 OA.out.lt⟩
   clear hb3
   refine hK.out _ _ jy.out (fun hH=>?_)
   clear hK K
   refine aaf 6 (I r) 7 rfl rfl hH (fun W hW=>by obtain ⟨_,_⟩:=hW;go_simp) ?_
   refine ax ?_
   clear hH
   refine wpAnyH_done (by kernel_rfl) ?_ _
   clear jy HS OA HQ MJ Ih hud hi2 hi3 hl1 hl2
   by_cases h0:r=0
   ·subst h0
    go_wp2_with fail
    go_roundw
    case rel=>exact ⟨k+1,by omega,by go_num,fun j y hj hy=>by
     by_cases hjk:j<k
     ·exact HZ.out j y hjk hy
     ·obtain rfl:j=k:=by omega
      obtain rfl:y=x:=by have:=HX.out;rw [hy] at this;injection this
      exact HR.out,yR.out⟩
    case measure=>simp [intOf];omega
   ·go_wp2_with fail
    go_ret
    exact ⟨r,rfl, .inr ⟨h0,k,x,HX.out,HR.out,HZ.out⟩,yR.out.lo⟩
  ·have hlt':¬(k:Int)<(m:Int):=by omega
   go_wp2_with fail
   go_ret
   exact ⟨0,rfl, .inl ⟨rfl,fun j y hy=>HZ.out j y (by have:=(List.getElem?_eq_some_iff.1 hy).1;have:=jw.out;omega) hy⟩,HP.out.lo⟩
end Go.Proofs.YtdibbemgpikgjaaGreatDoor
namespace Go.Proofs.YtdibbemgpikgjaaGreatDoor
open Go Go.RowKit
theorem Ad {ys xs:List cZ} (h:ys.map (·.e)=xs.map (·.e)) (k:Nat):ed ys k=ed xs k:=by
 cases k with
 |zero=>rfl
 |succ k=>
  show (ys[k]?.map (·.e.name)).getD ⟨#[]⟩=(xs[k]?.map (·.e.name)).getD ⟨#[]⟩
  have h1:ys[k]?.map (·.e)=xs[k]?.map (·.e):=by rw [←List.getElem?_map,←List.getElem?_map,h]
  have h2:∀o:Option cZ,o.map (·.e.name)=(o.map (·.e)).map (·.name):=fun o=>by cases o<;>rfl
  rw [h2,h2,h1]
theorem fV.congr {ys xs:List cZ} (h:ys.map (·.e)=xs.map (·.e)) (hx:fV xs):fV ys:=by
 intro k y hy
 have h1:ys[k]?.map (·.e)=xs[k]?.map (·.e):=by rw [←List.getElem?_map,←List.getElem?_map,h]
 rw [hy] at h1
 obtain ⟨x,hx1,hx2⟩:=Option.map_eq_some_iff.1 h1.symm
 have h3:=hx k x hx1
 rw [Ad h]
 rw [hx2] at h3
 exact h3
theorem LM {ys xs:List di} (h:ys.map wX=xs.map wX) {k:Nat} {y:di} (hy:ys[k]? =some y):∃x,xs[k]? =some x∧x.t=y.t∧x.zs.map (·.e)=y.zs.map (·.e):=by
 have h1:ys[k]?.map wX=xs[k]?.map wX:=by rw [←List.getElem?_map,←List.getElem?_map,h]
 rw [hy] at h1
 obtain ⟨x,hx1,hx2⟩:=Option.map_eq_some_iff.1 h1.symm
 unfold wX at hx2
 injection hx2 with e1 e2
 exact ⟨x,hx1,e1,e2⟩
theorem LK {ys xs:List di} (h:ys.map wX=xs.map wX):ys.length=xs.length:=by simpa using congrArg List.length h
theorem oI.congr {ys xs:List di} (h:ys.map wX=xs.map wX) (hx:∀x∈xs,oI x):∀y∈ys,oI y:=by
 intro y hy
 obtain ⟨k,hk⟩:=List.getElem?_of_mem hy
 obtain ⟨x,h1,h2,h3⟩:=LM h hk
 have h4:=hx x (List.mem_of_getElem? h1)
 exact ⟨h2▸h4.1,fV.congr h3.symm h4.2⟩
theorem D5 {KR:List Int} {key:List UInt8} {ys xs:List di} (h:ys.map wX=xs.map wX) (t:Tb):fH KR key ys t=fH KR key xs t:=by
 unfold fH
 rw [LK h]
 cases hy:ys[xs.length - 1]? with
 |none=>
  have h1:ys[xs.length - 1]?.map wX=xs[xs.length - 1]?.map wX:=by rw [←List.getElem?_map,←List.getElem?_map,h]
  rw [hy] at h1
  rw [Option.map_eq_none_iff.1 h1.symm]
 |some y=>
  obtain ⟨x,h1,h2,_⟩:=LM h hy
  rw [h1]
  simp only [h2]
def iU (KR:List Int) (key:List UInt8) (ts:List di):Prop:=∀k x,ts[k]? =some x→fH KR key (ts.take k) x.t=0
theorem iU.nil {KR:List Int} {key:List UInt8}:iU KR key []:=fun _ _ h=>nomatch h
theorem iU.snoc {KR:List Int} {key:List UInt8} {ts:List di} {u:di} (h:iU KR key ts) (hu:fH KR key ts u.t=0):iU KR key (ts++ [u]):=by
 intro k x hx
 by_cases hk:k<ts.length
 ·rw [List.getElem?_append_left hk] at hx
  rw [List.take_append_of_le_length (by omega)]
  exact h k x hx
 ·have hk2:=(List.getElem?_eq_some_iff.1 hx).1
  rw [List.length_append,List.length_singleton] at hk2
  obtain rfl:k=ts.length:=by omega
  rw [List.getElem?_append_right (Nat.le_refl _),Nat.sub_self] at hx
  injection hx with hx
  subst hx
  rw [List.take_append_of_le_length (Nat.le_refl _),List.take_length]
  exact hu
theorem iU.congr {KR:List Int} {key:List UInt8} {ys xs:List di} (h:ys.map wX=xs.map wX) (hx:iU KR key xs):iU KR key ys:=by
 intro k y hy
 obtain ⟨x,h1,h2,_⟩:=LM h hy
 have h3:=hx k x h1
 rw [D5 (xs:=xs.take k) (by rw [List.map_take,List.map_take,h]),←h2]
 exact h3
theorem iU.take {KR:List Int} {key:List UInt8} {ts:List di} (h:iU KR key ts) (n:Nat):iU KR key (ts.take n):=by
 intro k x hx
 have hk:k<n:=by
  have h1:=(List.getElem?_eq_some_iff.1 hx).1
  rw [List.length_take] at h1
  omega
 rw [List.getElem?_take_of_lt hk] at hx
 rw [List.take_take,Nat.min_eq_left (by omega)]
 exact h k x hx
theorem FX {KR:List Int} {key:List UInt8} {ts:List di} {t:Tb} (h1:t.bG=tY KR key (oD t)) (h2:t.version=(ts.length:Int)+1) (h3:∀x,ts[ts.length - 1]? =some x→lI KR (oD x.t++x.t.bG)=t.prev∧x.t.aW=t.aW):fH KR key ts t=0:=by
 unfold fH
 rw [←h1,if_neg (by simp),if_neg (by simp [h2])]
 cases hx:ts[ts.length - 1]? with
 |none=>rfl
 |some x=>simp [(h3 x hx).1,(h3 x hx).2]
theorem iU.old {KR:List Int} {key:List UInt8} {ts:List di} (h:iU KR key ts) {k:Nat} {x:di} (hx:ts[k]? =some x):fH KR key ts x.t=9:=by
 have hk:=(List.getElem?_eq_some_iff.1 hx).1
 have h1:=h k x hx
 unfold fH at h1 ⊢
 split at h1
 ·cases h1
 rename_i h2
 rw [if_neg h2]
 split at h1
 ·cases h1
 rename_i h3
 have h3:x.t.version=((ts.take k).length:Int)+1:=Classical.byContradiction h3
 rw [List.length_take] at h3
 rw [if_pos (by omega)]
theorem iU.check {KR:List Int} {key:List UInt8} {ts:List di} {r:Int} (h:iU KR key ts) (hr:CkF KR key ts r):r=0:=by
 rcases hr with ⟨hr,_⟩|⟨h0,k,x,hx,hr,_⟩
 ·exact hr
 ·exact absurd (hr.symm.trans (h k x hx)) h0
end Go.Proofs.YtdibbemgpikgjaaGreatDoor
namespace Go.Proofs.YtdibbemgpikgjaaGreatDoor
open Go Go.RowKit
structure CB (lo:Nat) (v0:Value) (w:World) (cs:Array Value) (bs:List UInt8) (A:Option Addr) (n c:Nat) (W:World):Prop where
 row:Row W w.heap.size cs
 own:uY lo W A n c bs
 len:bs.length=n
 keep:xE v0 w (.slice A n c) W
 far:some w.heap.size≠(Value.slice A n c).ownBlock
theorem CB.start {lo n c:Nat} {A:Option Addr} {w:World} {bs:List UInt8} (cs:Array Value) (t:TypeId) (hO:uY lo w A n c bs) (hl:bs.length=n):CB lo (.slice A n c) w cs bs A n c (w.alloc (.cells cs t)):=
 ⟨Row.new w cs t,uY.below hO (ag w _),hl,(xE.refl _ w).below (ag w _),fun e=>by have:=(World.ownsRow.lt hO _ e.symm).2;omega⟩
theorem CB.next {lo n c n' c':Nat} {v0:Value} {A A':Option Addr} {w W W':World} {cs:Array Value} {bs bs':List UInt8} (h:CB lo v0 w cs bs A n c W) (hO:uY lo W' A' n' c' bs') (hl:bs'.length=n') (hk:xE (.slice A n c) W (.slice A' n' c') W'):CB lo v0 w cs bs' A' n' c' W':=by
 have hlt:=h.row.1
 refine ⟨⟨Nat.lt_of_lt_of_le hlt hk.size,fun i=>(World.cell?_of_block (a:=⟨w.heap.size,i,none⟩) (hk.block _ hlt h.far)).trans (h.row.2 i)⟩,hO,hl,h.keep.trans hk,?_⟩
 rcases hk.own with e|⟨b,e,hb⟩
 ·rw [e];exact h.far
 ·rw [e];intro h';injection h' with h';omega
theorem CB.low {lo n c n0 c0:Nat} {A A0:Option Addr} {w W:World} {cs:Array Value} {bs bs0:List UInt8} (h:CB lo (.slice A0 n0 c0) w cs bs A n c W) (hO:uY lo w A0 n0 c0 bs0) (hlo:lo≤w.heap.size):Below lo w W:=h.keep.yC (uY.base hO) hlo
end Go.Proofs.YtdibbemgpikgjaaGreatDoor
namespace Go.Proofs.YtdibbemgpikgjaaGreatDoor
open Go Go.RowKit
theorem CB.grow {lo n c:Nat} {v0:Value} {A:Option Addr} {w W W':World} {cs:Array Value} {bs:List UInt8} (h:CB lo v0 w cs bs A n c W) (hb:Below W.heap.size W W'):CB lo v0 w cs bs A n c W':=
 ⟨h.row.keep hb,uY.below h.own hb,h.len,h.keep.below hb,h.far⟩
theorem CB.nY {lo n c:Nat} {v0:Value} {A:Option Addr} {w W:World} {cs:Array Value} {bs:List UInt8} (h:CB lo v0 w cs bs A n c W) (b:Nat) (hb:W.heap.size≤b):some b≠(Value.slice A n c).ownBlock:=fun e=>by have:=(World.ownsRow.lt h.own _ e.symm).2;omega
def VH (b:Nat) (cs:Array Value) (v:Value) (W:World):Prop:=Row W b cs∧some b≠v.ownBlock
theorem VH.next {b:Nat} {cs:Array Value} {v v':Value} {W W':World} (h:VH b cs v W) (hk:xE v W v' W'):VH b cs v' W':=by
 have hlt:=h.1.1
 refine ⟨⟨Nat.lt_of_lt_of_le hlt hk.size,fun i=>(World.cell?_of_block (a:=⟨b,i,none⟩) (hk.block _ hlt h.2)).trans (h.1.2 i)⟩,?_⟩
 rcases hk.own with e|⟨g,e,hb⟩
 ·rw [e];exact h.2
 ·rw [e];intro h';injection h' with h';omega
end Go.Proofs.YtdibbemgpikgjaaGreatDoor
namespace Go.Proofs.YtdibbemgpikgjaaGreatDoor
open Go Go.RowKit
def aT (k:Nat):ByteArray:=⟨#[122,(97+k).toUInt8]⟩
theorem KD (k:Nat):(aT k).size=2:=rfl
def Ap:Nat→ByteArray
 |0=>⟨#[]⟩
 |k+1=>aT k
theorem Q9:∀k,k<3→(Op.bytesLess (aT k).toList (Ap k).toList=false∧((aT k).toList==(Ap k).toList)=false):=by decide+kernel
structure ZnV0 (z:Zn):Prop where
 made:vG z
 ok:wV z=0
theorem Uk (z:Zn) (h:z.aB= []):wV z=0:=by
 have e1:qi z= []:=by unfold qi;rw [h]
 unfold wV pK
 rw [e1]
 simp [jA,dP]
theorem Nq (x:Bo):ZnV0 (eu x):=by
 refine ⟨Qq x,?_⟩
 unfold eu
 split
 ·rename_i h
  exact h.2
 ·exact Uk _ rfl
structure O9 (t:Tb):Prop where
 aW:0≤t.aW∧t.aW≤15
 version:1≤t.version∧t.version≤64
 aI:0≤t.aI∧t.aI<t.version
 first:t.version=1→t.prev=aY
 num:t.aS.length≤3
 aS:∀e∈t.aS,ZnV0 e.z
 names:∀k e,t.aS[k]? =some e→e.name=aT k
theorem uf (w:World) (r:List UInt8) (h:r.length=32):(Op.equalIn 10000 23 (.agg (r.map Extern.Stop.cell).toArray) (.agg (r.map Extern.Stop.cell).toArray)).run Tryz.prog w= .ok true w:=by
 rw [run_equalIn_bytes w 9998 23 5 32 Tryz.underlying23 Tryz.underlying5 (fun w=>EF w) r r h h,beq_self_eq_true]
attribute [local go_sem] jR jS lg bC
structure TVr (w:World) (cs:Array Value) (A:Option Addr) (zs:List cZ) (W:World):Prop where
 row:Row W w.heap.size cs
 mem:kU W w.heap.size A zs
 up:Below w.heap.size w W
theorem TVr.below {w W W':World} {cs:Array Value} {A:Option Addr} {zs:List cZ} (h:TVr w cs A zs W) (hb:Below W.heap.size W W'):TVr w cs A zs W':=
 ⟨h.row.keep hb,h.mem.keep (hb.mono h.up.size),ah h.up hb⟩
end Go.Proofs.YtdibbemgpikgjaaGreatDoor
namespace Go.Proofs.YtdibbemgpikgjaaGreatDoor
open Go Go.RowKit
theorem O9.good {t:Tb} (h:O9 t) (hp:t.prev.length=32) (hm:t.bG.length=32):Rz t where
 aW:=⟨h.aW.1,by have:=h.aW.2;omega⟩
 version:=h.version
 aI:=h.aI
 prev:=hp
 bG:=hm
 first:=h.first
 num:=by have:=h.num;omega
 good:=fun e he=>⟨(h.aS e he).made,(h.aS e he).ok⟩
 short:=fun e he=>by
  obtain ⟨k,hk⟩:=List.getElem?_of_mem he
  rw [h.names k e hk,KD]
  omega
theorem O9.up {t:Tb} (h:O9 t) {zs:List cZ} (hz:t.aS=zs.map (·.e)):fV zs:=by
 intro k x hx
 have hk:=(List.getElem?_eq_some_iff.1 hx).1
 have hn:=h.num
 rw [hz,List.length_map] at hn
 have h1:∀j y,zs[j]? =some y→y.e.name=aT j:=fun j y hy=>h.names j y.e (by rw [hz,List.getElem?_map,hy];rfl)
 have hl:ed zs k=Ap k:=by
  cases k with
  |zero=>rfl
  |succ k=>
   show (zs[k]?.map (·.e.name)).getD ⟨#[]⟩=aT k
   rw [List.getElem?_eq_getElem (by omega)]
   exact h1 k _ (List.getElem?_eq_getElem (by omega))
 rw [h1 k x hx,hl]
 exact Q9 k (by omega)
end Go.Proofs.YtdibbemgpikgjaaGreatDoor
namespace Go.Proofs.YtdibbemgpikgjaaGreatDoor
open Go Go.RowKit
theorem CB.grown {lo n c n' c':Nat} {v0:Value} {A A':Option Addr} {w W W':World} {o:Obj} {cs:Array Value} {bs bs':List UInt8} (h:CB lo v0 w cs bs A n c W) (hO:uY lo W' A' n' c' bs') (hl:bs'.length=n') (hg:(W.alloc o).grownBy W' (Value.slice A n c).ownBlock) (hat:(Value.slice A' n' c').ownBlock=(Value.slice A n c).ownBlock∨(Value.slice A' n' c').ownBlock=some (W.heap.size+1)):CB lo v0 w cs bs' A' n' c' W':=
 h.next hO hl (xE.app hg (hat.imp id fun e=>e.trans (by simp)))
end Go.Proofs.YtdibbemgpikgjaaGreatDoor
namespace Go.Proofs.YtdibbemgpikgjaaGreatDoor
open Go Go.RowKit
structure PB (v0:Value) (w:World) (bs:List UInt8) (A:Option Addr) (n c:Nat) (W:World):Prop where
 own:uY w.heap.size W A n c bs
 len:bs.length=n
 keep:xE v0 w (.slice A n c) W
theorem PB.grown {n c n' c':Nat} {v0:Value} {A A':Option Addr} {w W W':World} {o:Obj} {bs bs':List UInt8} (h:PB v0 w bs A n c W) (hO:uY w.heap.size W' A' n' c' bs') (hl:bs'.length=n') (hg:(W.alloc o).grownBy W' (Value.slice A n c).ownBlock) (hat:(Value.slice A' n' c').ownBlock=(Value.slice A n c).ownBlock∨(Value.slice A' n' c').ownBlock=some (W.heap.size+1)):PB v0 w bs' A' n' c' W':=
 ⟨hO,hl,h.keep.trans (xE.app hg (hat.imp id fun e=>e.trans (by simp)))⟩
end Go.Proofs.YtdibbemgpikgjaaGreatDoor
namespace Go.Proofs.YtdibbemgpikgjaaGreatDoor
open Go Go.RowKit
structure SL (w:World) (zs:List Int) (wr:World):Prop where
 var:AV (w.heap.size+1) 170 (aA zs) wr
 res:AV w.heap.size 170 (aA (List.replicate 64 0)) wr
 lo:Below w.heap.size w wr
theorem SL.drew {w wr:World} {zs:List Int} (h:SL w zs wr):SL w zs wr.drew:=⟨h.var.drew,h.res.drew,h.lo.drew⟩
theorem SL.put {w wr:World} {zs:List Int} (h:SL w zs wr) (i:Nat) (z:Int):SL w (zs.set i z) (wr.setCell ⟨w.heap.size+1,i,none⟩ (.int .u32 z)):=
 ⟨by rw [←qp];exact h.var.put i _,h.res.far (by omega) _ _,h.lo.setCell (p:=⟨w.heap.size+1,i,none⟩) (Nat.le_succ _) _⟩
theorem SL.drewN {w wr:World} {zs:List Int} (h:SL w zs wr) (n:Nat):SL w zs (wr.drewN n):=⟨⟨h.var.var⟩,⟨h.res.var⟩,⟨h.lo.os,h.lo.tape,h.lo.output,h.lo.size,h.lo.block⟩⟩
end Go.Proofs.YtdibbemgpikgjaaGreatDoor
